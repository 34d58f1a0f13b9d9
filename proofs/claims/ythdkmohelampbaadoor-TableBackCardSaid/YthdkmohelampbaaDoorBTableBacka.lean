/- Texts of this session for the law TableBack, one behind the other: base, slicesIndexintint, slicesContainsintint, Hwidth, Pcore, Pback, Ptext, Hsizes, Ptaker, numPut, PnumPut, numTake, PnumTake, textkindlay, Htextlay, numSkip, textkindtake, Htexttake, PtextFn, Hwithin, Htaker, tabletaken, Htabtake. -/
import Derived.Test.YthdkmohelampbaaDoorProg
import Derived.Below
import Derived.Deep.Draws
import Derived.Deep.AppendLies
import Derived.Maps.AppendAt
import Derived.OwnWalk
import Derived.Laws.BytesArg
import Derived.Laws.MakeOwn
import Derived.Laws.OwnMore
import Derived.Deep.OwnRows
import Derived.Tactics
import Derived.Lib.ConvBytes
import Derived.Laws.Slices
import Derived.WalkKit
import Derived.KernelRfl
import Derived.RowKit3
import Derived.Deep.LoopGhost
import Derived.Deep.QuietTactic
import Derived.BigQuiet
import Derived.WideLaws
import Derived.Deep.DeepCutAuto
import Derived.Deep.CutBlock
import Derived.Deep.RegionHeld3
import Derived.Laws.Rows
import Derived.Lib.AppendStr
import Derived.ArgAppend
import Derived.Laws.IdiomCopy
import Derived.OrdersHeld
import Derived.Laws.BitsLemmas
import Derived.RowKit
import Derived.Test.YthdkmohelampbaaDoorWMore
import Derived.Test.YthdkmohelampbaaDoorWRepsOne
import Derived.Test.YthdkmohelampbaaDoorWEqStruct
import Derived.Test.YthdkmohelampbaaDoorWTab
import Derived.Lib.Strings
import Derived.Lib.IndexBytes
import Derived.Maps.OwnSet
import Derived.Maps.OwnOps
import Derived.WalkMore
namespace Go.Proofs.YthdkmohelampbaaDoor.F
open Go.RowKit Go.Proofs.YthdkmohelampbaaDoorW.PrintWords Go.Proofs.YthdkmohelampbaaDoorW.PrintLast Go.Proofs.YthdkmohelampbaaDoorW.PrintMore
attribute [local go_sem] max2_int min2_int max_two min_two max_three min_three max_four min_four
set_option linter.unusedVariables false
set_option linter.unusedSimpArgs false

def errW : Option Int → Value
  | none => .nilIface
  | some c => .iface 0 (.int .i64 c)
theorem errW_none : errW none = .nilIface := rfl
theorem errW_some (c : Int) : errW (some c) = .iface 0 (.int .i64 c) := rfl

theorem info5 : (Tryd.prog.info? 5).map (fun i => (i.zero, i.size, i.bytes)) = some (some (.int .u8 0), 1, 1) := by kernel_rfl
theorem info9 : (Tryd.prog.info? 9).map (fun i => (i.zero, i.size, i.bytes)) = some (some (.string ⟨#[]⟩), 1, 16) := by kernel_rfl
def rd_L4 (xs : List (List ByteArray)) (i : Int) : (List ByteArray) := xs.getD i.toNat ([] : List ByteArray)
theorem at_L4 {w : World} {A : Option Addr} {n : Nat} {xs : List (List ByteArray)} (h : Kd.C (Kd.slice 9 Kd.string) w A n xs) (i : Int) (h0 : 0 ≤ i) (h1 : i < n) : ∃ ad A0 c0, A = some ad ∧ w.cell? (ad.add i.toNat) = some (.slice A0 (rd_L4 xs i).length c0) ∧ (rd_L4 xs i).length ≤ c0 ∧ Kd.string.C w A0 (rd_L4 xs i).length (rd_L4 xs i) := by
  obtain ⟨ad, c, e, _, hK, hc0⟩ := Kd.C_get h ([] : List ByteArray) i h0 h1
  have hc : ∀ j u, c[j]? = some u → w.cell? (ad.add (i.toNat * 1 + j)) = some u := hc0
  obtain ⟨A0, c0, rfl, l0, g0⟩ := hK
  exact ⟨ad, A0, c0, e, by have hq := hc 0 _ rfl; rwa [Nat.mul_one, Nat.add_zero] at hq, l0, g0⟩

/-- THE TABLES: what the package-level variables hold. -/
structure Laid (w : World) : Prop where
  c0 : w.cell? ⟨0, 0, none⟩ = some (Value.int .i64 1)
  c1 : w.cell? ⟨0, 1, none⟩ = some (Value.int .i64 2)
  c2 : w.cell? ⟨0, 2, none⟩ = some (Value.int .i64 4)
  c3 : w.cell? ⟨0, 3, none⟩ = some (Value.int .i64 8)
theorem Laid.below {w w' : World} (h : Laid w) (hb : Below w.heap.size w w') : Laid w' :=
  ⟨pw_cell_below hb h.c0, pw_cell_below hb h.c1, pw_cell_below hb h.c2, pw_cell_below hb h.c3⟩
theorem Laid.drawn {w w' : World} (h : Laid w) (hb : Drawn0 w w') : Laid w' := h.below hb.below
end Go.Proofs.YthdkmohelampbaaDoor.F
namespace Go.Proofs.YthdkmohelampbaaDoor.F
open Go.RowKit Go.Proofs.YthdkmohelampbaaDoorW.PrintWords Go.Proofs.YthdkmohelampbaaDoorW.PrintLast Go.Proofs.YthdkmohelampbaaDoorW.PrintMore
attribute [local go_sem] max2_int min2_int max_two min_two max_three min_three max_four min_four
set_option linter.unusedVariables false
set_option linter.unusedSimpArgs false

/-! ### slices_Index_int_int: function 54 -/
def slices_Index_int_int.l0 : Nat → List Int → Int → Int → Int → Option (Int)
  | 0, _, _, _, _ => none
  | k + 1, x0, x1, x7, x8 => if x8 < x7 then (if 0 ≤ x8 then (if x8 < (x0.length : Int) then (if x1 = (rd x0 x8) then (some x8) else (slices_Index_int_int.l0 k x0 x1 x7 (wrap64 (x8 + 1)))) else (none)) else (none)) else (some (-1))
def slices_Index_int_int.f (k : Nat) (l0 : List Int) (a1 : Int) : Option (Int) := slices_Index_int_int.l0 k l0 a1 (l0.length : Int) 0
theorem slices_Index_int_int.mono_l : ∀ k, (∀ y0 y1 y2 y3, LeO (slices_Index_int_int.l0 k y0 y1 y2 y3) (slices_Index_int_int.l0 (k + 1) y0 y1 y2 y3))
  | 0 => fun _ _ _ _ r h => by simp [slices_Index_int_int.l0] at h
  | k + 1 => by
    have ih0 := slices_Index_int_int.mono_l k
    · intro y0 y1 y2 y3
      unfold slices_Index_int_int.l0
      repeat' first
      | (with_reducible exact ih0 _ _ _ _)
      | (with_reducible exact LeO.refl _)
      | (with_reducible exact LeO.none _)
      | (with_reducible refine LeO.ite ?_ ?_)
      | (with_reducible refine LeO.bind ?_ (fun _ => ?_))
      | exact ih0 _ _ _ _
      | exact LeO.none _
      | refine LeO.ite ?_ ?_
      | refine LeO.bind ?_ (fun _ => ?_)
theorem slices_Index_int_int.mono : ∀ a0 a1 k, LeO (slices_Index_int_int.f k a0 a1) (slices_Index_int_int.f (k + 1) a0 a1) := by
  intro a0 a1 k
  have ih0 := slices_Index_int_int.mono_l k
  unfold slices_Index_int_int.f
  repeat' first
      | (with_reducible exact ih0 _ _ _ _)
      | (with_reducible exact LeO.refl _)
      | (with_reducible exact LeO.none _)
      | (with_reducible refine LeO.ite ?_ ?_)
      | (with_reducible refine LeO.bind ?_ (fun _ => ?_))
      | exact ih0 _ _ _ _
      | exact LeO.none _
      | refine LeO.ite ?_ ?_
      | refine LeO.bind ?_ (fun _ => ?_)
set_option maxHeartbeats 8000000 in
set_option maxRecDepth 100000 in
theorem slices_Index_int_int.calls (k : Nat) (A0 : Option Addr) (c0 : Nat) (l0 : List Int) (a1 : Int) (r : Int) (w : World) (hr0 : Kd.C (Kd.int .i64) w A0 l0.length l0) (hc0 : l0.length ≤ c0) (h : slices_Index_int_int.f k l0 a1 = some r) :
    Calls Tryd.prog 54 #[.slice A0 l0.length c0, .int .i64 a1] w fun e w' => e = .returned (.int .i64 r) ∧ Drawn0 w w' := by
  have HR0 := Aside0.mk hr0
  have HC0 := Aside0.mk hc0
  clear hr0 hc0
  have H : (slices_Index_int_int.l0 k l0 a1 (l0.length : Int) 0) = some r := h
  clear h
  have H' := Aside0.mk H
  clear H
  go_enter Tryd.func54, Tryd.ntmps54
  go_wp2
  go_loopg [8] k (fun kq v8 w' => ∃ (x8_1 : Int), v8 = .int .i64 x8_1 ∧ Aside0 (slices_Index_int_int.l0 kq l0 a1 (l0.length : Int) x8_1 = some r) ∧ Aside0 (kq ≤ k) ∧ Drawn0 w w')
  case atStart => exact ⟨(0), (by first | rfl | (simp; done) | (simp [*]; done)), H', ⟨Nat.le_refl _⟩, by repeat (first | exact Drawn0.refl _ | apply Drawn0.step)⟩
  case round =>
    clear H'
    try clear p2
    obtain ⟨x8_1, rfl, HA, HK1, ⟨m1, rfl⟩⟩ := hrel
    cases gk with
    | zero => exact absurd HA.out (by simp [slices_Index_int_int.l0])
    | succ k1 =>
      have H := HA.out
      clear HA
      simp only [slices_Index_int_int.l0] at H
      by_cases c3 : x8_1 < (l0.length : Int)
      · rw [if_pos c3] at H
        have c3b0 : decide (x8_1 < (l0.length : Int)) = true := decide_eq_true c3
        clear c3
        by_cases c4 : 0 ≤ x8_1
        · rw [if_pos c4] at H
          have c4b0 : decide (0 ≤ x8_1) = true := decide_eq_true c4
          clear c4
          by_cases c5 : x8_1 < (l0.length : Int)
          · rw [if_pos c5] at H
            have c5b0 : decide (x8_1 < (l0.length : Int)) = true := decide_eq_true c5
            clear c5
            by_cases c6 : a1 = (rd l0 x8_1)
            · rw [if_pos c6] at H
              have c6b0 : (a1 == (rd l0 x8_1)) = true := beq_iff_eq.mpr c6
              have c6b1 : (a1 != (rd l0 x8_1)) = false := bne_eq_false_iff_eq.mpr c6
              clear c6
              obtain rfl := Option.some.inj H
              have p101 : 0 ≤ (x8_1 : Int) := of_decide_eq_true (by first | (with_reducible assumption) | assumption)
              have q101 : x8_1 < (l0.length : Int) := of_decide_eq_true (by first | (with_reducible assumption) | assumption)
              obtain ⟨ad101, e101, hx101_0⟩ := Kd.at_int HR0.out x8_1 p101 q101
              cases e101
              replace p101 := eq_true p101
              replace q101 := eq_true q101
              go_wp2
              go_ret
              exact ⟨by first | rfl | (simp; done) | (simp [*]; done), by repeat (first | exact Drawn0.refl _ | apply Drawn0.step)⟩
            · rw [if_neg c6] at H
              have c6b0 : (a1 == (rd l0 x8_1)) = false := beq_eq_false_iff_ne.mpr c6
              have c6b1 : (a1 != (rd l0 x8_1)) = true := bne_iff_ne.mpr c6
              have H' := Aside0.mk H
              clear H
              have p101 : 0 ≤ (x8_1 : Int) := of_decide_eq_true (by first | (with_reducible assumption) | assumption)
              have q101 : x8_1 < (l0.length : Int) := of_decide_eq_true (by first | (with_reducible assumption) | assumption)
              obtain ⟨ad101, e101, hx101_0⟩ := Kd.at_int HR0.out x8_1 p101 q101
              cases e101
              replace p101 := eq_true p101
              replace q101 := eq_true q101
              go_wp2
              go_roundg k1
              case measure => have := HK1.out; omega
              case rel => exact ⟨(wrap64 (x8_1 + 1)), (by first | rfl | (simp; done) | (simp [*]; done)), H', ⟨by have := HK1.out; omega⟩, by repeat (first | exact Drawn0.refl _ | apply Drawn0.step)⟩
          · rw [if_neg c5] at H
            exact absurd H (by simp)
        · rw [if_neg c4] at H
          exact absurd H (by simp)
      · rw [if_neg c3] at H
        have c3b0 : decide (x8_1 < (l0.length : Int)) = false := decide_eq_false c3
        clear c3
        obtain rfl := Option.some.inj H
        go_wp2
        go_ret
        exact ⟨by first | rfl | (simp; done) | (simp [*]; done), by repeat (first | exact Drawn0.refl _ | apply Drawn0.step)⟩


end Go.Proofs.YthdkmohelampbaaDoor.F
namespace Go.Proofs.YthdkmohelampbaaDoor.F
open Go.RowKit Go.Proofs.YthdkmohelampbaaDoorW.PrintWords Go.Proofs.YthdkmohelampbaaDoorW.PrintLast Go.Proofs.YthdkmohelampbaaDoorW.PrintMore
attribute [local go_sem] max2_int min2_int max_two min_two max_three min_three max_four min_four
set_option linter.unusedVariables false
set_option linter.unusedSimpArgs false

/-! ### slices_Contains_int_int: function 53 -/
def slices_Contains_int_int.f (k : Nat) (l0 : List Int) (a1 : Int) : Option (Bool) := (slices_Index_int_int.f k l0 a1).bind fun t102 => (some (decide (t102 ≥ 0)))
theorem slices_Contains_int_int.mono : ∀ a0 a1 k, LeO (slices_Contains_int_int.f k a0 a1) (slices_Contains_int_int.f (k + 1) a0 a1) := by
  intro a0 a1 k
  unfold slices_Contains_int_int.f
  repeat' first
      | (with_reducible exact slices_Index_int_int.mono _ _ _)
      | (with_reducible exact LeO.refl _)
      | (with_reducible exact LeO.none _)
      | (with_reducible refine LeO.ite ?_ ?_)
      | (with_reducible refine LeO.bind ?_ (fun _ => ?_))
      | exact slices_Index_int_int.mono _ _ _
      | exact LeO.none _
      | refine LeO.ite ?_ ?_
      | refine LeO.bind ?_ (fun _ => ?_)
set_option maxHeartbeats 8000000 in
set_option maxRecDepth 100000 in
theorem slices_Contains_int_int.calls (k : Nat) (A0 : Option Addr) (c0 : Nat) (l0 : List Int) (a1 : Int) (r : Bool) (w : World) (hr0 : Kd.C (Kd.int .i64) w A0 l0.length l0) (hc0 : l0.length ≤ c0) (h : slices_Contains_int_int.f k l0 a1 = some r) :
    Calls Tryd.prog 53 #[.slice A0 l0.length c0, .int .i64 a1] w fun e w' => e = .returned (.bool r) ∧ Drawn0 w w' := by
  have HR0 := Aside0.mk hr0
  have HC0 := Aside0.mk hc0
  clear hr0 hc0
  have H : ((slices_Index_int_int.f k l0 a1).bind fun t102 => (some (decide (t102 ≥ 0)))) = some r := h
  clear h
  replace H := Option.bind_eq_some_iff.mp H
  obtain ⟨t102, A30, H⟩ := H
  replace H : (some (decide (t102 ≥ 0))) = some r := H
  have A3 := Aside0.mk A30
  clear A30
  obtain rfl := Option.some.inj H
  go_enter Tryd.func53, Tryd.ntmps53
  go_wp2_with (first | ((with_reducible refine gate_callee (f := 54) rfl ?_); refine goesL_ (some 7) rfl rfl Tryd.func54 (by kernel_rfl) rfl #[.slice A0 l0.length c0, .int .i64 a1] rfl (by (try simp only [List.map_toArray, List.map_cons, List.map_nil]); first | done | rfl | (simp only [List.length_drop, List.length_take]; rfl)) ?_; (with_reducible refine (slices_Index_int_int.calls k _ _ l0 a1 t102 _ ?side1 ?side2 A3.out).mono ?_); (case side1 => repeat (first | exact HR0.out | (with_reducible refine Kd.C_alloc ?_ _) | (with_reducible refine Kd.C_drewN ?_ _) | (with_reducible refine Kd.C_drew ?_))); (case side2 => exact HC0.out); rintro e w' ⟨rfl, ⟨nd, rfl⟩⟩; refine ⟨_, rfl, ?_⟩))
  go_ret
  exact ⟨by first | rfl | (simp; done) | (simp [*]; done), by repeat (first | exact Drawn0.refl _ | apply Drawn0.step)⟩


end Go.Proofs.YthdkmohelampbaaDoor.F
namespace Go.Proofs.YthdkmohelampbaaDoor.F
open Go.RowKit Go.Proofs.YthdkmohelampbaaDoorW.PrintWords Go.Proofs.YthdkmohelampbaaDoorW.PrintLast Go.Proofs.YthdkmohelampbaaDoorW.PrintMore
set_option linter.unusedVariables false
set_option linter.unusedSimpArgs false

def num_width.f (a0 : Int) : Option Bool := some (decide (a0 = 1) || decide (a0 = 2) || decide (a0 = 4) || decide (a0 = 8))

theorem contains_widths (a0 : Int) : slices_Contains_int_int.f 6 [1, 2, 4, 8] a0 = num_width.f a0 := by
  unfold slices_Contains_int_int.f slices_Index_int_int.f num_width.f
  have w1 : wrap64 1 = 1 := by unfold wrap64; omega
  have w2 : wrap64 2 = 2 := by unfold wrap64; omega
  have w3 : wrap64 3 = 3 := by unfold wrap64; omega
  have w4 : wrap64 4 = 4 := by unfold wrap64; omega
  by_cases h1 : a0 = 1
  · subst h1; simp [slices_Index_int_int.l0, rd]
  by_cases h2 : a0 = 2
  · subst h2; simp [slices_Index_int_int.l0, rd, w1]
  by_cases h4 : a0 = 4
  · subst h4; simp [slices_Index_int_int.l0, rd, w1, w2]
  by_cases h8 : a0 = 8
  · subst h8; simp [slices_Index_int_int.l0, rd, w1, w2, w3]
  simp [slices_Index_int_int.l0, rd, h1, h2, h4, h8, w1, w2, w3, w4]

theorem widths_reads {w : World} (hg : Laid w) : Kd.C (Kd.int .i64) w (some ⟨0, 0, none⟩) 4 [1, 2, 4, 8] := by
  refine Kd.C_of_reads (d := (0 : Int)) (h1 := fun _ => rfl) ⟨rfl, by decide, fun _ => ⟨_, rfl, fun j hj => ?_⟩⟩
  rw [add_plain]
  match j, hj with
  | 0, _ => exact hg.c0
  | 1, _ => exact hg.c1
  | 2, _ => exact hg.c2
  | 3, _ => exact hg.c3

theorem num_width.calls (a0 : Int) (r : Bool) (w : World) (hg : Laid w) (h : num_width.f a0 = some r) :
    Calls Tryd.prog 48 #[.int .i64 a0] w fun e w' => e = .returned (.bool r) ∧ Drawn0 w w' := by
  have hc := Aside0.mk ((contains_widths a0).trans h)
  have hr := Aside0.mk (widths_reads hg)
  clear h hg
  go_enter Tryd.func48, Tryd.ntmps48
  go_wp2_with (go_at_call 53; refine (slices_Contains_int_int.calls 6 (some ⟨0, 0, none⟩) 4 [1, 2, 4, 8] a0 r _ hr.out (by decide) hc.out).mono ?_; rintro e w' ⟨rfl, ⟨nd, rfl⟩⟩)
  go_ret
  exact ⟨rfl, ⟨⟨nd, rfl⟩⟩⟩
end Go.Proofs.YthdkmohelampbaaDoor.F
namespace Go.Proofs.YthdkmohelampbaaDoor.F
open Go.RowKit Go.Proofs.YthdkmohelampbaaDoorW.PrintWords Go.Proofs.YthdkmohelampbaaDoorW.PrintLast Go.Proofs.YthdkmohelampbaaDoorW.PrintMore
set_option linter.unusedVariables false
set_option linter.unusedSimpArgs false

theorem snoc_ind {α : Type} {P : List α → Prop} (h0 : P []) (h1 : ∀ l a, P l → P (l ++ [a])) (l : List α) : P l := by
  have h : ∀ l : List α, P l.reverse := by
    intro l
    induction l with
    | nil => exact h0
    | cons a l ih => rw [List.reverse_cons]; exact h1 _ _ ih
  have := h l.reverse
  rwa [List.reverse_reverse] at this
/-- n bytes of v. -/
def be : Nat → Nat → List UInt8
  | 0, _ => []
  | n + 1, v => be n (v / 256) ++ [UInt8.ofNat (v % 256)]
/-- The number of bytes. -/
def beNum (l : List UInt8) : Nat := l.foldl (fun a b => a * 256 + b.toNat) 0
def toBA (l : List UInt8) : ByteArray := ⟨l.toArray⟩
theorem toBA_toList (l : List UInt8) : (toBA l).toList = l := by simp [toBA, ByteArray.toList_eq]
theorem toBA_size (l : List UInt8) : (toBA l).size = l.length := by simp [toBA, ByteArray.size]
theorem toBA_data (l : List UInt8) : (toBA l).data = l.toArray := rfl

theorem toBA_append (a b : List UInt8) : toBA a ++ toBA b = toBA (a ++ b) := by
  apply ByteArray.ext
  simp [toBA]
theorem toBA_of (s : ByteArray) : s = toBA s.data.toList := by simp [toBA]
theorem strOfNums_toBA (xs : List Int) : strOfNums xs = toBA (xs.map fun n => UInt8.ofNat n.toNat) := rfl
theorem toBA_nil : (⟨#[]⟩ : ByteArray) = toBA [] := rfl
theorem wrapU {x : Int} (h0 : 0 ≤ x) (h1 : x < 18446744073709551616) : IntKind.u64.wrap x = x := by
  simp only [IntKind.wrap, IntKind.signed, show IntKind.u64.bits = 64 from rfl]
  simp
  omega
theorem be_length (n v : Nat) : (be n v).length = n := by
  induction n generalizing v with
  | zero => rfl
  | succ n ih => simp [be, ih]
theorem beNum_snoc (l : List UInt8) (b : UInt8) : beNum (l ++ [b]) = beNum l * 256 + b.toNat := by simp [beNum, List.foldl_append]
theorem beNum_be (n v : Nat) (h : v < 256 ^ n) : beNum (be n v) = v := by
  induction n generalizing v with
  | zero => simp at h; subst h; rfl
  | succ n ih =>
    rw [Nat.pow_succ] at h
    have hd : v / 256 < 256 ^ n := Nat.div_lt_of_lt_mul (by rw [Nat.mul_comm]; exact h)
    simp only [be]
    rw [beNum_snoc, ih _ hd]
    have : (UInt8.ofNat (v % 256)).toNat = v % 256 := by simp
    rw [this]
    omega
theorem beNum_lt (l : List UInt8) : beNum l < 256 ^ l.length := by
  refine snoc_ind (P := fun l => beNum l < 256 ^ l.length) (by simp [beNum]) (fun l b ih => ?_) l
  · rw [beNum_snoc, List.length_append, List.length_singleton, Nat.pow_succ]
    have := b.toNat_lt
    omega
theorem be_beNum (l : List UInt8) : be l.length (beNum l) = l := by
  refine snoc_ind (P := fun l => be l.length (beNum l) = l) rfl (fun l b ih => ?_) l
  · rw [beNum_snoc, List.length_append, List.length_singleton]
    have hb := b.toNat_lt
    simp only [be]
    have h1 : (beNum l * 256 + b.toNat) / 256 = beNum l := by omega
    have h2 : (beNum l * 256 + b.toNat) % 256 = b.toNat := by omega
    rw [h1, h2, ih]
    simp

/-- A number's bytes, and why not. -/
def isW (n : Int) : Prop := n = 1 ∨ n = 2 ∨ n = 4 ∨ n = 8
instance (n : Int) : Decidable (isW n) := by unfold isW; infer_instance
def putR (n v : Int) : ByteArray × Int := if isW n then (if v < 256 ^ n.toNat then (toBA (be n.toNat v.toNat), 0) else (⟨#[]⟩, 4)) else (⟨#[]⟩, 1)
def takeR (s : ByteArray) (n : Int) : Int × ByteArray × Int := if isW n then (if (s.size : Int) < n then (0, ⟨#[]⟩, 2) else ((beNum (s.data.toList.take n.toNat) : Nat), s.extract n.toNat s.size, 0)) else (0, ⟨#[]⟩, 1)
theorem width_isW (n : Int) : num_width.f n = some (decide (isW n)) := by
  unfold num_width.f isW
  by_cases h1 : n = 1 <;> by_cases h2 : n = 2 <;> by_cases h4 : n = 4 <;> by_cases h8 : n = 8 <;> simp [h1, h2, h4, h8]
theorem wrap64_of {x : Int} (h0 : -9223372036854775808 ≤ x) (h1 : x ≤ 9223372036854775807) : wrap64 x = x := by unfold wrap64; omega
theorem w_succ {i : Nat} (h : i < 4611686018427387904) : wrap64 ((i : Int) + 1) = ((i + 1 : Nat) : Int) := by rw [wrap64_of (by omega) (by omega)]; omega
theorem w_half {y : Nat} (h : y < 4611686018427387904) : wrap64 (Int.tdiv (y : Int) 2) = ((y / 2 : Nat) : Int) := by rw [Int.tdiv_eq_ediv_of_nonneg (by omega), wrap64_of (by omega) (by omega)]; omega
theorem m_two (y : Nat) : Int.tmod (y : Int) 2 = ((y % 2 : Nat) : Int) := by rw [Int.tmod_eq_emod_of_nonneg (by omega)]; omega
theorem w_eight {i : Nat} (h : i < 461168601842738790) : wrap64 (8 * (i : Int)) = ((8 * i : Nat) : Int) := by rw [wrap64_of (by omega) (by omega)]; omega
theorem w_add {a b : Nat} (h : a + b < 4611686018427387904) : wrap64 ((a : Int) + (b : Int)) = ((a + b : Nat) : Int) := by rw [wrap64_of (by omega) (by omega)]; omega
theorem w_eighth {i : Nat} (h : i < 4611686018427387904) : wrap64 (Int.tdiv (wrap64 ((i : Int) + 7)) 8) = (((i + 7) / 8 : Nat) : Int) := by
  rw [wrap64_of (x := (i : Int) + 7) (by omega) (by omega), Int.tdiv_eq_ediv_of_nonneg (by omega), wrap64_of (by omega) (by omega)]; omega
end Go.Proofs.YthdkmohelampbaaDoor.F
namespace Go.Proofs.YthdkmohelampbaaDoor.F
open Go.RowKit Go.Proofs.YthdkmohelampbaaDoorW.PrintWords Go.Proofs.YthdkmohelampbaaDoorW.PrintLast Go.Proofs.YthdkmohelampbaaDoorW.PrintMore
set_option linter.unusedVariables false
set_option linter.unusedSimpArgs false

theorem toBA_list (l : List UInt8) : (toBA l).data.toList = l := rfl
theorem eq_of_list {a b : ByteArray} (h : a.data.toList = b.data.toList) : a = b := by
  rw [toBA_of a, toBA_of b, h]
theorem extract_drop (s : ByteArray) (i : Nat) : s.extract i s.size = toBA (s.data.toList.drop i) :=
  eq_of_list (by rw [Lib.extract_to_end, toBA_list])
theorem extract_take (s : ByteArray) (i : Nat) : s.extract 0 i = toBA (s.data.toList.take i) :=
  eq_of_list (by rw [Lib.extract_data, toBA_list, List.drop_zero, Nat.sub_zero])
theorem empty_size : (⟨#[]⟩ : ByteArray).size = 0 := rfl
theorem append_data (a b : ByteArray) : (a ++ b).data.toList = a.data.toList ++ b.data.toList := by rw [ByteArray.data_append, Array.toList_append]
theorem size_list (s : ByteArray) : s.data.toList.length = s.size := Array.length_toList
theorem size_append (a b : ByteArray) : (a ++ b).size = a.size + b.size := by simp
theorem toList_data (s : ByteArray) : s.toList = s.data.toList := by rw [ByteArray.toList_eq]

theorem take_put {n v : Int} (r : ByteArray) (hn : isW n) (h0 : 0 ≤ v) (hv : v < 256 ^ n.toNat) : takeR (toBA (be n.toNat v.toNat) ++ r) n = (v, r, 0) := by
  unfold takeR
  have hm : 0 ≤ n := by rcases hn with h | h | h | h <;> omega
  obtain ⟨m, rfl⟩ := Int.eq_ofNat_of_zero_le hm
  obtain ⟨w, rfl⟩ := Int.eq_ofNat_of_zero_le h0
  simp only [Int.toNat_natCast] at hv ⊢
  have hw : w < 256 ^ m := by
    have : ((w : Nat) : Int) < ((256 ^ m : Nat) : Int) := by simpa using hv
    omega
  rw [if_pos hn, if_neg (by rw [size_append, toBA_size, be_length]; omega), append_data, toBA_list, extract_drop, append_data, toBA_list]
  have hl := be_length m w
  rw [List.take_append_of_le_length (by omega), List.take_of_length_le (by omega), beNum_be m w hw, List.drop_append_of_le_length (by omega), List.drop_of_length_le (by omega), List.nil_append, ← toBA_of]
theorem put_take {s : ByteArray} {n : Int} (h : (takeR s n).2.2 = 0) : putR n (takeR s n).1 = (toBA (s.data.toList.take n.toNat), 0) ∧ toBA (s.data.toList.take n.toNat) ++ (takeR s n).2.1 = s := by
  unfold takeR at h ⊢
  split at h
  · rename_i hn
    split at h
    · simp at h
    · rename_i hl
      have hm : 0 ≤ n := by rcases hn with h | h | h | h <;> omega
      obtain ⟨m, rfl⟩ := Int.eq_ofNat_of_zero_le hm
      rw [if_pos hn, if_neg hl]
      simp only [Int.toNat_natCast]
      have hlen : (s.data.toList.take m).length = m := by rw [List.length_take, size_list]; omega
      have hlt := beNum_lt (s.data.toList.take m)
      rw [hlen] at hlt
      refine ⟨?_, ?_⟩
      · unfold putR
        rw [if_pos hn, if_pos (by
          have : ((beNum (s.data.toList.take m) : Nat) : Int) < ((256 ^ m : Nat) : Int) := by omega
          simpa using this)]
        simp only [Int.toNat_natCast]
        have := be_beNum (s.data.toList.take m)
        rw [hlen] at this
        rw [this]
      · rw [extract_drop, toBA_append, List.take_append_drop, ← toBA_of]
  · simp at h
theorem put_ok {n v : Int} (h : (putR n v).2 = 0) : isW n ∧ v < 256 ^ n.toNat ∧ (putR n v).1 = toBA (be n.toNat v.toNat) := by
  unfold putR at h ⊢
  split at h
  · rename_i hn
    split at h
    · rename_i hv
      rw [if_pos hn, if_pos hv]
      exact ⟨hn, hv, rfl⟩
    · simp at h
  · simp at h
theorem take_bound (s : ByteArray) (n : Int) : 0 ≤ (takeR s n).1 ∧ (takeR s n).1 < 18446744073709551616 := by
  unfold takeR
  split
  · rename_i hn
    split
    · simp
    · have h1 := beNum_lt (s.data.toList.take n.toNat)
      have h2 : (s.data.toList.take n.toNat).length ≤ 8 := by
        rw [List.length_take]
        rcases hn with h | h | h | h <;> subst h <;> omega
      have h3 : 256 ^ (s.data.toList.take n.toNat).length ≤ 256 ^ 8 := Nat.pow_le_pow_right (by decide) h2
      simp only
      omega
  · simp
theorem u64_bounds {x : Int} (h : (Lit.int .u64 x).wf = true) : 0 ≤ x ∧ x < 18446744073709551616 := by
  simp [Lit.wf, IntKind.min, IntKind.max, IntKind.signed, show IntKind.u64.bits = 64 from rfl] at h
  omega
theorem i64_bounds {x : Int} (h : (Lit.int .i64 x).wf = true) : -9223372036854775808 ≤ x ∧ x ≤ 9223372036854775807 := by
  simp [Lit.wf, IntKind.min, IntKind.max, IntKind.signed, show IntKind.i64.bits = 64 from rfl] at h
  omega
theorem put_size (n v : Int) : (putR n v).1.size ≤ 8 := by
  unfold putR
  split
  · rename_i hn
    split
    · simp only [toBA_size, be_length]
      rcases hn with h | h | h | h <;> subst h <;> decide
    · exact Nat.zero_le _
  · exact Nat.zero_le _
theorem take_rest (s : ByteArray) (n : Int) : (takeR s n).2.1.size ≤ s.size := by
  unfold takeR
  split
  · split
    · exact Nat.zero_le _
    · simp only [extract_drop, toBA_size, List.length_drop, size_list]; omega
  · exact Nat.zero_le _
end Go.Proofs.YthdkmohelampbaaDoor.F
namespace Go.Proofs.YthdkmohelampbaaDoor.F
open Go.RowKit Go.Proofs.YthdkmohelampbaaDoorW.PrintWords Go.Proofs.YthdkmohelampbaaDoorW.PrintLast Go.Proofs.YthdkmohelampbaaDoorW.PrintMore
set_option linter.unusedVariables false
set_option linter.unusedSimpArgs false

def layR (n : Int) (s : ByteArray) : ByteArray × Int := if (putR n s.size).2 = 0 then ((putR n s.size).1 ++ s, 0) else (⟨#[]⟩, (putR n s.size).2)
def ltakeR (n : Int) (s : ByteArray) : ByteArray × ByteArray × Int :=
  if (takeR s n).2.2 = 0 then (if (takeR s n).1 ≤ ((takeR s n).2.1.size : Int) then ((takeR s n).2.1.extract 0 (takeR s n).1.toNat, (takeR s n).2.1.extract (takeR s n).1.toNat (takeR s n).2.1.size, 0) else (⟨#[]⟩, ⟨#[]⟩, 2)) else (⟨#[]⟩, ⟨#[]⟩, (takeR s n).2.2)
theorem tup3 {α β γ : Type} {T : α × β × γ} {a : α} {b : β} {c : γ} (h : T = (a, b, c)) : T.1 = a ∧ T.2.1 = b ∧ T.2.2 = c := by subst h; exact ⟨rfl, rfl, rfl⟩
theorem app_empty (a : ByteArray) : a ++ ⟨#[]⟩ = a := eq_of_list (by rw [append_data]; simp)
theorem app_assoc (a b c : ByteArray) : a ++ b ++ c = a ++ (b ++ c) := eq_of_list (by simp only [append_data, List.append_assoc])
theorem extract_app_left (a b : ByteArray) : (a ++ b).extract 0 a.size = a := by
  rw [extract_take, append_data, ← size_list, List.take_append_of_le_length (Nat.le_refl _), List.take_of_length_le (Nat.le_refl _), ← toBA_of]
theorem extract_app_right (a b : ByteArray) : (a ++ b).extract a.size (a ++ b).size = b := by
  rw [extract_drop, append_data, ← size_list, List.drop_append_of_le_length (Nat.le_refl _), List.drop_of_length_le (Nat.le_refl _), List.nil_append, ← toBA_of]
theorem extract_join (a : ByteArray) (n : Nat) (h : n ≤ a.size) : a.extract 0 n ++ a.extract n a.size = a := by
  rw [extract_take, extract_drop, toBA_append, List.take_append_drop, ← toBA_of]
theorem extract_size (a : ByteArray) (n : Nat) (h : n ≤ a.size) : (a.extract 0 n).size = n := by
  rw [extract_take, toBA_size, List.length_take, size_list]; omega
theorem extract_size' (a : ByteArray) (n : Nat) : (a.extract n a.size).size = a.size - n := by
  rw [extract_drop, toBA_size, List.length_drop, size_list]
theorem lay_take {n : Int} {s : ByteArray} (more : ByteArray) (h : (layR n s).2 = 0) : ltakeR n ((layR n s).1 ++ more) = (s, more, 0) := by
  unfold layR at h ⊢
  by_cases e : (putR n s.size).2 = 0
  · rw [if_pos e]
    obtain ⟨hw, hv, hp⟩ := put_ok e
    have ht := take_put (s ++ more) hw (by omega) hv
    simp only
    rw [hp, app_assoc]
    unfold ltakeR
    rw [ht]
    simp only
    rw [if_pos trivial, if_pos (by rw [size_append]; omega), Int.toNat_natCast, extract_app_left, extract_app_right]
  · rw [if_neg e] at h
    exact absurd h e
theorem take_lay {n : Int} {t : ByteArray} (h : (ltakeR n t).2.2 = 0) : (layR n (ltakeR n t).1).2 = 0 ∧ (layR n (ltakeR n t).1).1 ++ (ltakeR n t).2.1 = t := by
  by_cases e : (takeR t n).2.2 = 0
  · by_cases l : (takeR t n).1 ≤ ((takeR t n).2.1.size : Int)
    · obtain ⟨h1, h2⟩ := put_take e
      have hb := (take_bound t n).1
      have hlt : ltakeR n t = ((takeR t n).2.1.extract 0 (takeR t n).1.toNat, (takeR t n).2.1.extract (takeR t n).1.toNat (takeR t n).2.1.size, 0) := by
        unfold ltakeR; rw [if_pos e, if_pos l]
      rw [hlt]
      simp only
      have hs : (((takeR t n).2.1.extract 0 (takeR t n).1.toNat).size : Int) = (takeR t n).1 := by rw [extract_size _ _ (by omega)]; omega
      unfold layR
      rw [hs, h1]
      simp only
      rw [if_pos trivial]
      simp only
      refine ⟨trivial, ?_⟩
      rw [app_assoc, extract_join _ _ (by omega), h2]
    · unfold ltakeR at h
      rw [if_pos e, if_neg l] at h
      exact absurd h (by decide)
  · unfold ltakeR at h
    rw [if_neg e] at h
    exact absurd h e
theorem lay_ok {n : Int} {s : ByteArray} (hn : isW n) (hs : (s.size : Int) < 256 ^ n.toNat) : layR n s = (toBA (be n.toNat s.size) ++ s, 0) := by
  have hp : putR n s.size = (toBA (be n.toNat s.size), 0) := by
    unfold putR; rw [if_pos hn, if_pos hs, Int.toNat_natCast]
  unfold layR
  rw [hp]
  rfl
theorem lay_bad {n : Int} {s : ByteArray} (hn : isW n) (hs : ¬ (s.size : Int) < 256 ^ n.toNat) : layR n s = (⟨#[]⟩, 4) := by
  have hp : putR n s.size = (⟨#[]⟩, 4) := by
    unfold putR; rw [if_pos hn, if_neg hs]
  unfold layR
  rw [hp]
  rfl
theorem isW1 : isW 1 := .inl rfl
theorem isW4 : isW 4 := .inr (.inr (.inl rfl))
theorem short_ok {s : ByteArray} (h : s.size ≤ 255) : layR 1 s = (toBA (be 1 s.size) ++ s, 0) := lay_ok isW1 (by show (s.size : Int) < 256; omega)
theorem short_bad {s : ByteArray} (h : ¬ s.size ≤ 255) : layR 1 s = (⟨#[]⟩, 4) := lay_bad isW1 (by show ¬ (s.size : Int) < 256; omega)
theorem long_ok {s : ByteArray} (h : s.size ≤ 4294967295) : layR 4 s = (toBA (be 4 s.size) ++ s, 0) := lay_ok isW4 (by show (s.size : Int) < 4294967296; omega)
theorem long_bad {s : ByteArray} (h : ¬ s.size ≤ 4294967295) : layR 4 s = (⟨#[]⟩, 4) := lay_bad isW4 (by show ¬ (s.size : Int) < 4294967296; omega)
theorem short_iff (s : ByteArray) : (layR 1 s).2 = 0 ↔ s.size ≤ 255 := by
  by_cases h : s.size ≤ 255
  · rw [short_ok h]; simp [h]
  · rw [short_bad h]; simp [h]
theorem long_zero {s : ByteArray} (h : s.size ≤ 4294967295) : (layR 4 s).2 = 0 := by rw [long_ok h]
theorem short_size {s : ByteArray} (h : s.size ≤ 255) : (layR 1 s).1.size = s.size + 1 := by rw [short_ok h, size_append, toBA_size, be_length]; omega
theorem long_size {s : ByteArray} (h : s.size ≤ 4294967295) : (layR 4 s).1.size = s.size + 4 := by rw [long_ok h, size_append, toBA_size, be_length]; omega
theorem lay_size (n : Int) (s : ByteArray) : (layR n s).1.size ≤ s.size + 8 := by
  unfold layR
  split
  · have := put_size n s.size
    rw [size_append]; omega
  · exact Nat.zero_le _
theorem ltake_size (n : Int) (t : ByteArray) : (ltakeR n t).1.size ≤ t.size ∧ (ltakeR n t).2.1.size ≤ t.size := by
  have h := take_rest t n
  have hb := (take_bound t n).1
  unfold ltakeR
  split
  · split
    · simp only
      rw [extract_size _ _ (by omega), extract_size']
      omega
    · exact ⟨Nat.zero_le _, Nat.zero_le _⟩
  · exact ⟨Nat.zero_le _, Nat.zero_le _⟩
end Go.Proofs.YthdkmohelampbaaDoor.F
namespace Go.Proofs.YthdkmohelampbaaDoor.F
open Go.RowKit Go.Proofs.YthdkmohelampbaaDoorW.PrintWords Go.Proofs.YthdkmohelampbaaDoorW.PrintLast Go.Proofs.YthdkmohelampbaaDoorW.PrintMore
set_option linter.unusedVariables false
set_option linter.unusedSimpArgs false
open Go.Maps

section
variable {H : Type} {P : Program} {ops : Array Oper} {rest : List Oper} {o : Oper} {a : Act} {Q : Exit → Act → World → Prop}
/-- A map literal's entry, at the operation. -/
theorem wpList_insert_own (w : World) (hg : o.guard = none) (m x v : Operand) (t : TypeId) (hop : o.op = Op.insert t m x v)
    (k e : TypeId) (K : Keyed P k) (ht : P.underlying t = some (.map k e)) (R : Value → Option (DataW H × List MemPlace)) (b n : Nat) (D : DataW H)
    (hm : a.eval m = .map (some b)) (hown : w.ownsMap P k R b n D) (hn : n < maxLen) (key val : Value) (kl : Lit) (hx : a.eval x = key) (hv : a.eval v = val) (hkey : keyOf P k key = some kl)
    (d : DataW H) (ps : List MemPlace) (hval : R val = some (d, ps))
    (hK : ∀ w', w'.ownsMap P k R b (n + 1) (D.put kl d) → w.grownBy w' (some b) → wpList P ops Q rest (a.put o.dst undef) w') :
    wpList P ops Q (o :: rest) a w := by
  refine wpList_plain hg fun K' hK' => ?_
  obtain ⟨w', hrun, r1, r2⟩ := hown.update K ht hn hkey hval
  unfold Oper.wp
  simp [execOp, hop, hm, hx, hv, hrun, Result.andThen]
  exact hK' _ _ (hK w' r1 r2)
end
theorem sizes_keyed : Keyed Tryd.prog 5 := int_keyed Tryd.underlying5
/-- the entries, in the literal's order -/
def sizesD : DataW Unit :=
  ([(116, 1), (98, 1), (66, 1), (115, 2), (117, 2), (73, 4), (105, 4), (102, 4), (108, 8), (100, 8), (84, 8), (68, 5), (86, 0)] : List (Int × Int)).foldl (fun D p => D.put (.int .u8 p.1) (.lit (.int .u64 p.2))) (.map [])
/-- how many bytes a value of a kind has -/
def sizeU (b : Nat) : Option Nat :=
  if b = 116 ∨ b = 98 ∨ b = 66 then some 1 else if b = 115 ∨ b = 117 then some 2 else if b = 73 ∨ b = 105 ∨ b = 102 then some 4 else if b = 108 ∨ b = 100 ∨ b = 84 then some 8 else if b = 68 then some 5 else if b = 86 then some 0 else none
theorem sizes_has (b : UInt8) : Maps.has sizesD (.int .u8 (b.toNat : Int)) = (sizeU b.toNat).isSome := by
  have h : ∀ n : Fin 256, Maps.has sizesD (.int .u8 (n.val : Int)) = (sizeU n.val).isSome := by decide +kernel
  exact h ⟨b.toNat, b.toNat_lt⟩
theorem sizes_at (b : UInt8) (c : Int) (h : sizesD.atKey (.int .u8 (b.toNat : Int)) (.lit (.int .u64 0)) = .lit (.int .u64 c)) : c = ((sizeU b.toNat).getD 0 : Nat) := by
  have h2 : ∀ n : Fin 256, (match sizesD.atKey (.int .u8 (n.val : Int)) (.lit (.int .u64 0)) with | .lit (.int .u64 c) => decide (c = ((sizeU n.val).getD 0 : Nat)) | _ => false) = true := by decide +kernel
  have := h2 ⟨b.toNat, b.toNat_lt⟩
  simp only [h] at this
  exact of_decide_eq_true this
/-- the map lies in block M -/
def SizesAt (M : Nat) (W : World) : Prop := W.ownsMap (H := Unit) Tryd.prog 5 (plainElem Tryd.prog 75) M 13 sizesD
set_option maxHeartbeats 2000000 in
theorem table_sizes.calls (w : World) :
    Calls Tryd.prog 23 #[] w fun e w' => e = .returned (.map (some w.heap.size)) ∧ SizesAt w.heap.size w' ∧ Below w.heap.size w w' := by
  have hmm := @run_makeMap Tryd.prog
  have hown := Aside0.mk (World.ownsMap_made (H := Unit) w Tryd.prog 5 (plainElem Tryd.prog 75))
  have hB := Aside0.mk ((Below.refl w.heap.size w).alloc (Nat.le_refl _) (.map #[] 0))
  go_enter Tryd.func23, Tryd.ntmps23
  go_wp2_with (refine wpList_insert_own _ rfl _ _ _ 49 rfl 5 75 sizes_keyed Tryd.underlying49 _ w.heap.size _ _ rfl hown.out (by decide) _ _ _ rfl rfl (keyOf_int_mk Tryd.underlying5 (by decide)) _ [] (plainElem_int Tryd.underlying75 (by decide)) ?_; intro w1 hown1 hg1; replace hB := Aside0.mk (hB.out.grown hg1 hB.out.size (fun j hj => by cases hj; exact Nat.le_refl _)); replace hown := Aside0.mk hown1; clear hown1 hg1)
  go_ret
  exact ⟨rfl, hown.out, hB.out⟩
end Go.Proofs.YthdkmohelampbaaDoor.F
namespace Go.Proofs.YthdkmohelampbaaDoor.F
open Go.RowKit Go.Proofs.YthdkmohelampbaaDoorW.PrintWords Go.Proofs.YthdkmohelampbaaDoorW.PrintLast Go.Proofs.YthdkmohelampbaaDoorW.PrintMore
set_option linter.unusedVariables false
set_option linter.unusedSimpArgs false
/-- (what is left, why not, the deepest) -/
abbrev Tk := ByteArray × Int × Int
/-- items till nothing is left -/
def itemsR (one : ByteArray → Int → Int → Tk) : Nat → ByteArray → Int → Int → Int × Int
  | 0, _, _, d => (0, d)
  | k + 1, s, depth, d => if s.size = 0 then (0, d) else
      if (if (one s depth d).2.1 = 2 then 3 else (one s depth d).2.1) = 0 then itemsR one k (one s depth d).1 depth (one s depth d).2.2
      else ((if (one s depth d).2.1 = 2 then 3 else (one s depth d).2.1), (one s depth d).2.2)
def withinR (one : ByteArray → Int → Int → Tk) (s : ByteArray) (depth d : Int) : Tk :=
  if (ltakeR 4 s).2.2 = 0 then (if depth ≤ 32 then ((ltakeR 4 s).2.1, (itemsR one (ltakeR 4 s).1.size (ltakeR 4 s).1 depth (if d < depth then depth else d)).1, (itemsR one (ltakeR 4 s).1.size (ltakeR 4 s).1 depth (if d < depth then depth else d)).2) else (⟨#[]⟩, 5, d))
  else (⟨#[]⟩, (ltakeR 4 s).2.2, d)
def skipR (s : ByteArray) (n : Int) : ByteArray × ByteArray × Int := if n ≤ (s.size : Int) then (s.extract 0 n.toNat, s.extract n.toNat s.size, 0) else (⟨#[]⟩, ⟨#[]⟩, 2)
def fieldR (val : ByteArray → Int → Int → Tk) (s : ByteArray) (depth d : Int) : Tk := if (ltakeR 1 s).2.2 = 0 then val (ltakeR 1 s).2.1 depth d else (⟨#[]⟩, (ltakeR 1 s).2.2, d)
def kindOf (s : ByteArray) : Nat := (s.data.toList.headD 0).toNat
def tailOf (s : ByteArray) : ByteArray := s.extract 1 s.size
def valR : Nat → ByteArray → Int → Int → Tk
  | 0, _, _, d => (⟨#[]⟩, 2, d)
  | k + 1, s, depth, d => if s.size = 0 then (⟨#[]⟩, 2, d) else
      match sizeU (kindOf s) with
      | some n => ((skipR (tailOf s) n).2.1, (skipR (tailOf s) n).2.2, d)
      | none => if kindOf s = 83 ∨ kindOf s = 120 then ((ltakeR 4 (tailOf s)).2.1, (ltakeR 4 (tailOf s)).2.2, d)
        else if kindOf s = 65 then withinR (valR k) (tailOf s) (depth + 1) d
        else if kindOf s = 70 then withinR (fieldR (valR k)) (tailOf s) (depth + 1) d
        else (⟨#[]⟩, 3, d)
theorem tail_size {s : ByteArray} (h : ¬ s.size = 0) : (tailOf s).size = s.size - 1 := by unfold tailOf; rw [extract_size']
/-- what a text's taking leaves -/
theorem ltake_less {n : Int} {t : ByteArray} (h : (ltakeR n t).2.2 = 0) (hn : 0 < n) (hw : isW n) : (ltakeR n t).2.1.size + (ltakeR n t).1.size + 1 ≤ t.size := by
  obtain ⟨h1, h2⟩ := take_lay h
  have := congrArg ByteArray.size h2
  rw [size_append] at this
  unfold layR at h1 this
  by_cases e : (putR n (ltakeR n t).1.size).2 = 0
  · rw [if_pos e] at this
    simp only at this
    obtain ⟨_, _, hp⟩ := put_ok e
    rw [size_append, hp, toBA_size, be_length] at this
    omega
  · rw [if_neg e] at h1
    exact absurd h1 e
theorem ltake_fail {n : Int} {t : ByteArray} (h : ¬ (ltakeR n t).2.2 = 0) (hw : isW n) : ltakeR n t = (⟨#[]⟩, ⟨#[]⟩, 2) := by
  have h2 : (takeR t n).2.2 = 0 ∨ (takeR t n).2.2 = 2 := by
    unfold takeR
    rw [if_pos hw]
    split
    · exact .inr rfl
    · exact .inl rfl
  unfold ltakeR at h ⊢
  by_cases e : (takeR t n).2.2 = 0
  · rw [if_pos e] at h ⊢
    by_cases l : (takeR t n).1 ≤ ((takeR t n).2.1.size : Int)
    · rw [if_pos l] at h; exact absurd rfl h
    · rw [if_neg l]
  · rw [if_neg e]
    rcases h2 with h2 | h2
    · exact absurd h2 e
    · rw [h2]
/-- what is taken is something -/
def Less (one : ByteArray → Int → Int → Tk) : Prop := ∀ s depth d, (one s depth d).2.1 = 0 → (one s depth d).1.size < s.size
theorem within_less {one : ByteArray → Int → Int → Tk} {s : ByteArray} {depth d : Int} (h : (withinR one s depth d).2.1 = 0) : (withinR one s depth d).1.size < s.size := by
  unfold withinR at h ⊢
  by_cases e : (ltakeR 4 s).2.2 = 0
  · have hl := ltake_less e (by decide) isW4
    rw [if_pos e] at h ⊢
    by_cases hd : depth ≤ 32
    · rw [if_pos hd]
      simp only
      omega
    · rw [if_neg hd] at h
      exact absurd h (show ¬ (5 : Int) = 0 by decide)
  · rw [if_neg e] at h
    exact absurd h e
theorem val_less (k : Nat) : Less (valR k) := by
  intro s depth d h
  cases k with
  | zero => exact absurd h (show ¬ (2 : Int) = 0 by decide)
  | succ k =>
    simp only [valR] at h ⊢
    by_cases h0 : s.size = 0
    · rw [if_pos h0] at h; exact absurd h (show ¬ (2 : Int) = 0 by decide)
    rw [if_neg h0] at h ⊢
    have ht := tail_size h0
    cases hs : sizeU (kindOf s) with
    | some n =>
      rw [hs] at h
      simp only at h ⊢
      unfold skipR at h ⊢
      by_cases hn : (n : Int) ≤ ((tailOf s).size : Int)
      · rw [if_pos hn]
        simp only
        rw [extract_size']
        omega
      · rw [if_neg hn] at h; exact absurd h (show ¬ (2 : Int) = 0 by decide)
    | none =>
      rw [hs] at h
      simp only at h ⊢
      by_cases h1 : kindOf s = 83 ∨ kindOf s = 120
      · rw [if_pos h1] at h ⊢
        have := ltake_less h (by decide) isW4
        simp only
        omega
      · rw [if_neg h1] at h ⊢
        by_cases h2 : kindOf s = 65
        · rw [if_pos h2] at h ⊢
          have := within_less h
          omega
        · rw [if_neg h2] at h ⊢
          by_cases h3 : kindOf s = 70
          · rw [if_pos h3] at h ⊢
            have := within_less h
            omega
          · rw [if_neg h3] at h
            exact absurd h (show ¬ (3 : Int) = 0 by decide)
theorem field_less {val : ByteArray → Int → Int → Tk} (hv : Less val) : Less (fieldR val) := by
  intro s depth d h
  unfold fieldR at h ⊢
  by_cases e : (ltakeR 1 s).2.2 = 0
  · rw [if_pos e] at h ⊢
    have := ltake_less e (by decide) isW1
    have := hv _ _ _ h
    omega
  · rw [if_neg e] at h
    exact absurd h e
end Go.Proofs.YthdkmohelampbaaDoor.F
namespace Go.Proofs.YthdkmohelampbaaDoor.F
open Go.RowKit Go.Proofs.YthdkmohelampbaaDoorW.PrintWords Go.Proofs.YthdkmohelampbaaDoorW.PrintLast Go.Proofs.YthdkmohelampbaaDoorW.PrintMore
attribute [local go_sem] max2_int min2_int max_two min_two max_three min_three max_four min_four
set_option linter.unusedVariables false
set_option linter.unusedSimpArgs false

/-! ### num_Put: function 50 -/
mutual
def num_Put.j0 : Nat → Int → Int → Option (ByteArray × Int)
  | 0, _, _ => none
  | k + 1, x0, x1 => if 0 ≤ x0 then (if (x0 : Int).toNat ≤ 281474976710656 then (num_Put.l0 k x0 x1 (List.replicate (x0 : Int).toNat 0) x0 0) else (none)) else (none)
def num_Put.l0 : Nat → Int → Int → List Int → Int → Int → Option (ByteArray × Int)
  | 0, _, _, _, _, _ => none
  | k + 1, x0, x1, x7, x26, x27 => if x27 < x26 then (if 0 ≤ (wrap64 (8 * x27)) then (if 0 ≤ (wrap64 ((wrap64 (x0 - 1)) - x27)) then (if (wrap64 ((wrap64 (x0 - 1)) - x27)) < (x7.length : Int) then (num_Put.l0 k x0 x1 (x7.set ((wrap64 ((wrap64 (x0 - 1)) - x27)) : Int).toNat ((shr .u64 x1 (wrap64 (8 * x27))) % 256)) x26 (wrap64 (x27 + 1))) else (none)) else (none)) else (none)) else (some (strOfNums x7, 0))
end
def num_Put.f (k : Nat) (a0 : Int) (a1 : Int) : Option (ByteArray × Int) := (num_width.f a0).bind fun t110 => (if t110 = true then (if a0 < 8 then (if 0 ≤ (wrap64 (8 * a0)) then (if (shr .u64 a1 (wrap64 (8 * a0))) = 0 then (num_Put.j0 k a0 a1) else (some ((⟨#[]⟩ : ByteArray), 4))) else (none)) else (num_Put.j0 k a0 a1)) else (some ((⟨#[]⟩ : ByteArray), 1)))
theorem num_Put.mono_l : ∀ k, (∀ y0 y1, LeO (num_Put.j0 k y0 y1) (num_Put.j0 (k + 1) y0 y1)) ∧ (∀ y0 y1 y2 y3 y4, LeO (num_Put.l0 k y0 y1 y2 y3 y4) (num_Put.l0 (k + 1) y0 y1 y2 y3 y4))
  | 0 => ⟨fun _ _ r h => by simp [num_Put.j0] at h, fun _ _ _ _ _ r h => by simp [num_Put.l0] at h⟩
  | k + 1 => by
    obtain ⟨ih0, ih1⟩ := num_Put.mono_l k
    refine ⟨?_, ?_⟩
    · intro y0 y1
      unfold num_Put.j0
      repeat' first
      | (with_reducible exact ih0 _ _)
      | (with_reducible exact ih1 _ _ _ _ _)
      | (with_reducible exact LeO.refl _)
      | (with_reducible exact LeO.none _)
      | (with_reducible refine LeO.ite ?_ ?_)
      | (with_reducible refine LeO.bind ?_ (fun _ => ?_))
      | exact ih0 _ _
      | exact ih1 _ _ _ _ _
      | exact LeO.none _
      | refine LeO.ite ?_ ?_
      | refine LeO.bind ?_ (fun _ => ?_)
    · intro y0 y1 y2 y3 y4
      unfold num_Put.l0
      repeat' first
      | (with_reducible exact ih0 _ _)
      | (with_reducible exact ih1 _ _ _ _ _)
      | (with_reducible exact LeO.refl _)
      | (with_reducible exact LeO.none _)
      | (with_reducible refine LeO.ite ?_ ?_)
      | (with_reducible refine LeO.bind ?_ (fun _ => ?_))
      | exact ih0 _ _
      | exact ih1 _ _ _ _ _
      | exact LeO.none _
      | refine LeO.ite ?_ ?_
      | refine LeO.bind ?_ (fun _ => ?_)
theorem num_Put.mono : ∀ a0 a1 k, LeO (num_Put.f k a0 a1) (num_Put.f (k + 1) a0 a1) := by
  intro a0 a1 k
  obtain ⟨ih0, ih1⟩ := num_Put.mono_l k
  unfold num_Put.f
  repeat' first
      | (with_reducible exact ih0 _ _)
      | (with_reducible exact ih1 _ _ _ _ _)
      | (with_reducible exact LeO.refl _)
      | (with_reducible exact LeO.none _)
      | (with_reducible refine LeO.ite ?_ ?_)
      | (with_reducible refine LeO.bind ?_ (fun _ => ?_))
      | exact ih0 _ _
      | exact ih1 _ _ _ _ _
      | exact LeO.none _
      | refine LeO.ite ?_ ?_
      | refine LeO.bind ?_ (fun _ => ?_)
set_option maxHeartbeats 8000000 in
set_option maxRecDepth 100000 in
theorem num_Put.calls (k : Nat) (a0 : Int) (a1 : Int) (r1 : ByteArray) (r2 : Int) (w : World) (hg : Laid w) (h : num_Put.f k a0 a1 = some (r1, r2)) :
    Calls Tryd.prog 50 #[.int .i64 a0, .int .u64 a1] w fun e w' => e = .returned (.tuple #[.string r1, .int .i64 r2]) ∧ Below w.heap.size w w' := by
  have HG := Aside0.mk hg
  clear hg
  have HB := Aside0.mk (Below.refl w.heap.size w)
  have H : ((num_width.f a0).bind fun t110 => (if t110 = true then (if a0 < 8 then (if 0 ≤ (wrap64 (8 * a0)) then (if (shr .u64 a1 (wrap64 (8 * a0))) = 0 then (num_Put.j0 k a0 a1) else (some ((⟨#[]⟩ : ByteArray), 4))) else (none)) else (num_Put.j0 k a0 a1)) else (some ((⟨#[]⟩ : ByteArray), 1)))) = some (r1, r2) := h
  clear h
  have HC3 := Aside0.mk H
  clear H
  go_enter Tryd.func50, Tryd.ntmps50
  go_upto_block 0 with (fail)
  go_cut [] (fun wc => ∃ (kq : Nat), Aside0 (num_Put.j0 kq a0 a1 = some (r1, r2)) ∧ Aside0 (kq ≤ k) ∧ Aside0 (Below w.heap.size w wc))
  case first =>
    have H := HC3.out
    clear HC3
    replace H := Option.bind_eq_some_iff.mp H
    obtain ⟨t110, A40, H⟩ := H
    replace H : (if t110 = true then (if a0 < 8 then (if 0 ≤ (wrap64 (8 * a0)) then (if (shr .u64 a1 (wrap64 (8 * a0))) = 0 then (num_Put.j0 k a0 a1) else (some ((⟨#[]⟩ : ByteArray), 4))) else (none)) else (num_Put.j0 k a0 a1)) else (some ((⟨#[]⟩ : ByteArray), 1))) = some (r1, r2) := H
    have A4 := Aside0.mk A40
    clear A40
    by_cases c5 : t110 = true
    · subst c5
      have H1 : (if a0 < 8 then (if 0 ≤ (wrap64 (8 * a0)) then (if (shr .u64 a1 (wrap64 (8 * a0))) = 0 then (num_Put.j0 k a0 a1) else (some ((⟨#[]⟩ : ByteArray), 4))) else (none)) else (num_Put.j0 k a0 a1)) = some (r1, r2) := by rw [if_pos rfl] at H; exact H
      clear H
      have H := H1
      clear H1
      by_cases c6 : a0 < 8
      · rw [if_pos c6] at H
        have c6b0 : decide (a0 < 8) = true := decide_eq_true c6
        clear c6
        (first | rw [c6b0] | (simp only [i64_w, i32_w]; rw [c6b0]) | skip)
        obtain ⟨ji7, hji7⟩ : ∃ j_ : Int, (wrap64 (8 * a0)) = j_ := ⟨_, rfl⟩
        replace H : (if 0 ≤ (ji7) then (if (shr .u64 a1 (ji7)) = 0 then (num_Put.j0 k a0 a1) else (some ((⟨#[]⟩ : ByteArray), 4))) else (none)) = some (r1, r2) := by first | (rw [hji7] at H; exact H) | (simp only [hji7] at H ⊢; exact H)
        (try rw [hji7] at A4)
        have hji7w : (IntKind.i64.wrap (8 * a0)) = ji7 := (i64_w _).trans hji7
        by_cases c8 : 0 ≤ (ji7)
        · rw [if_pos c8] at H
          have c8b0 := eq_true c8
          have c8b1 : decide (0 ≤ (ji7)) = true := decide_eq_true c8
          clear c8
          obtain ⟨ji9, hji9⟩ : ∃ j_ : Int, (shr .u64 a1 (ji7)) = j_ := ⟨_, rfl⟩
          replace H : (if (ji9) = 0 then (num_Put.j0 k a0 a1) else (some ((⟨#[]⟩ : ByteArray), 4))) = some (r1, r2) := by first | (rw [hji9] at H; exact H) | (simp only [hji9] at H ⊢; exact H)
          (try rw [hji9] at A4)
          have hji9_ : (a1 / 2 ^ min (ji7).toNat 64) = ji9 := hji9
          have hji9z : (ji7) ≤ 64 → (a1 / 2 ^ (ji7).toNat) = ji9 := shr_small hji9
          by_cases c10 : (ji9) = 0
          · rw [if_pos c10] at H
            have c10b0 : ((ji9) == 0) = true := beq_iff_eq.mpr c10
            have c10b1 : ((ji9) != 0) = false := bne_eq_false_iff_eq.mpr c10
            clear c10
            have H' := Aside0.mk H
            clear H
            go_wp2_with (first | ((with_reducible refine gate_callee (f := 48) rfl ?_); refine goesL_ (some 11) rfl rfl Tryd.func48 (by kernel_rfl) rfl #[.int .i64 a0] rfl (by (try simp only [List.map_toArray, List.map_cons, List.map_nil]); first | done | rfl | (simp only [List.length_drop, List.length_take]; rfl)) ?_; (with_reducible refine (num_width.calls a0 true _ ?lg A4.out).mono ?_); (case lg => exact (HG.out.below (by repeat (first | (with_reducible first | exact HB.out | apply below_alloc | apply pw_below_drewN | apply below_drew1) | exact HB.out)))); rintro e w' ⟨rfl, ⟨nd, rfl⟩⟩; refine ⟨_, rfl, ?_⟩))
            go_meet
            case rel => exact ⟨_, H', ⟨by first | omega | exact Nat.le_refl _⟩, ⟨by repeat (first | (with_reducible first | exact HB.out | apply below_alloc | apply pw_below_drewN | apply below_drew1) | exact HB.out)⟩⟩
          · rw [if_neg c10] at H
            have c10b0 : ((ji9) == 0) = false := beq_eq_false_iff_ne.mpr c10
            have c10b1 : ((ji9) != 0) = true := bne_iff_ne.mpr c10
            simp only [Option.some.injEq, Prod.mk.injEq] at H
            obtain ⟨rfl, rfl⟩ := H
            go_wp2_with (first | ((with_reducible refine gate_callee (f := 48) rfl ?_); refine goesL_ (some 11) rfl rfl Tryd.func48 (by kernel_rfl) rfl #[.int .i64 a0] rfl (by (try simp only [List.map_toArray, List.map_cons, List.map_nil]); first | done | rfl | (simp only [List.length_drop, List.length_take]; rfl)) ?_; (with_reducible refine (num_width.calls a0 true _ ?lg A4.out).mono ?_); (case lg => exact (HG.out.below (by repeat (first | (with_reducible first | exact HB.out | apply below_alloc | apply pw_below_drewN | apply below_drew1) | exact HB.out)))); rintro e w' ⟨rfl, ⟨nd, rfl⟩⟩; refine ⟨_, rfl, ?_⟩))
            go_ret2
            exact ⟨by first | rfl | (simp [errW_none, errW_some] <;> rfl) | (simp only [← hji7, ← hji9]; first | rfl | (simp [errW_none, errW_some] <;> rfl)) | (simp [*, errW_none, errW_some] <;> rfl), by repeat (first | (with_reducible first | exact HB.out | apply below_alloc | apply pw_below_drewN | apply below_drew1) | exact HB.out)⟩
        · rw [if_neg c8] at H
          exact absurd H (by simp)
      · rw [if_neg c6] at H
        have c6b0 : decide (a0 < 8) = false := decide_eq_false c6
        clear c6
        (first | rw [c6b0] | (simp only [i64_w, i32_w]; rw [c6b0]) | skip)
        have H' := Aside0.mk H
        clear H
        go_wp2_with (first | ((with_reducible refine gate_callee (f := 48) rfl ?_); refine goesL_ (some 11) rfl rfl Tryd.func48 (by kernel_rfl) rfl #[.int .i64 a0] rfl (by (try simp only [List.map_toArray, List.map_cons, List.map_nil]); first | done | rfl | (simp only [List.length_drop, List.length_take]; rfl)) ?_; (with_reducible refine (num_width.calls a0 true _ ?lg A4.out).mono ?_); (case lg => exact (HG.out.below (by repeat (first | (with_reducible first | exact HB.out | apply below_alloc | apply pw_below_drewN | apply below_drew1) | exact HB.out)))); rintro e w' ⟨rfl, ⟨nd, rfl⟩⟩; refine ⟨_, rfl, ?_⟩))
        go_meet
        case rel => exact ⟨_, H', ⟨by first | omega | exact Nat.le_refl _⟩, ⟨by repeat (first | (with_reducible first | exact HB.out | apply below_alloc | apply pw_below_drewN | apply below_drew1) | exact HB.out)⟩⟩
    · replace c5 := Bool.eq_false_iff.mpr c5
      subst c5
      have H1 : (some ((⟨#[]⟩ : ByteArray), 1)) = some (r1, r2) := by rw [if_neg (show ¬ (false = true) by decide)] at H; exact H
      clear H
      have H := H1
      clear H1
      simp only [Option.some.injEq, Prod.mk.injEq] at H
      obtain ⟨rfl, rfl⟩ := H
      go_wp2_with (first | ((with_reducible refine gate_callee (f := 48) rfl ?_); refine goesL_ (some 11) rfl rfl Tryd.func48 (by kernel_rfl) rfl #[.int .i64 a0] rfl (by (try simp only [List.map_toArray, List.map_cons, List.map_nil]); first | done | rfl | (simp only [List.length_drop, List.length_take]; rfl)) ?_; (with_reducible refine (num_width.calls a0 false _ ?lg A4.out).mono ?_); (case lg => exact (HG.out.below (by repeat (first | (with_reducible first | exact HB.out | apply below_alloc | apply pw_below_drewN | apply below_drew1) | exact HB.out)))); rintro e w' ⟨rfl, ⟨nd, rfl⟩⟩; refine ⟨_, rfl, ?_⟩))
      go_ret2
      exact ⟨by first | rfl | (simp [errW_none, errW_some] <;> rfl) | (simp [*, errW_none, errW_some] <;> rfl), by repeat (first | (with_reducible first | exact HB.out | apply below_alloc | apply pw_below_drewN | apply below_drew1) | exact HB.out)⟩
  case rest =>
    clear HC3
    try clear c1
    try clear p2
    try clear c4
    try clear c5
    try clear c6
    try clear c6b0
    try clear p6
    try clear c8
    try clear c8b0
    try clear c8b1
    try clear c10
    try clear c10b0
    try clear c10b1
    obtain ⟨kq, HA, HJ2, HB⟩ := hcut
    cases kq with
    | zero => exact absurd HA.out (by simp [num_Put.j0])
    | succ kj2 =>
      have H := HA.out
      clear HA
      simp only [num_Put.j0] at H
      by_cases c11 : 0 ≤ a0
      · rw [if_pos c11] at H
        have c11b0 := eq_true c11
        have c11b1 : decide (0 ≤ a0) = true := decide_eq_true c11
        clear c11
        by_cases c12 : (a0 : Int).toNat ≤ 281474976710656
        · rw [if_pos c12] at H
          have c12b0 := eq_true c12
          have c12b1 : decide ((a0 : Int).toNat ≤ 281474976710656) = true := decide_eq_true c12
          clear c12
          obtain ⟨y111, hy111⟩ : ∃ y_ : List Int, y_ = (List.replicate (a0 : Int).toNat 0) := ⟨_, rfl⟩
          replace H : (num_Put.l0 kj2 a0 a1 y111 a0 0) = some (r1, r2) := by first | (rw [hy111]; with_reducible exact H) | (have H2_ := (Option.bind_some _ _).symm.trans H; rw [hy111]; with_reducible exact H2_) | (have H2_ := (Option.bind_some _ _).symm.trans H; with_reducible exact H2_) | with_reducible exact H | (rw [hy111]; exact H) | exact H
          have Ny111 := Aside0.mk hy111
          clear hy111
          have H' := Aside0.mk H
          clear H
          go_wp2_with (first | ((with_reducible refine gate_dst (N := 25) rfl ?_); refine Kd.R_make (Kd.int .u8) _ 5 rfl (N := 25) rfl 57 _ _ rfl a0 rfl rfl Tryd.underlying57 (.int .u8 0) 1 info5 rfl (by decide) (by omega) 0 (ok := fun _ => True) (okp := fun _ => True) rfl (fun _ hk => hk) trivial (of_decide_eq_true (by first | (with_reducible assumption) | assumption)) (Nat.le_trans (Nat.mul_le_mul_right _ (of_decide_eq_true (by first | (with_reducible assumption) | assumption) : a0.toNat ≤ 281474976710656)) (by omega)) (Below.refl _ _) (Nat.le_refl _) ?_; intro v112 w13 ho14 hb hg_ hnew_; clear hg_ hnew_; (first | rw [← Ny111.out] at ho14 | (simp only [Int.reduceToNat] at ho14; rw [← Ny111.out] at ho14)); have n0_ := Aside0.mk (Kd.R_lower ho14 (below_size (by repeat (first | (with_reducible first | exact HB.out | apply below_alloc | apply pw_below_drewN | apply below_drew1) | exact HB.out)))); have n1_ := Aside0.mk (below_step (by repeat (first | (with_reducible first | exact HB.out | apply below_alloc | apply pw_below_drewN | apply below_drew1) | exact HB.out)) hb); clear HB; have HO113 := n0_; have HB := n1_; clear n0_ n1_; clear hb ho14))
          go_loopg [27] kj2 (fun kq v27 w' => ∃ (x7_2 : List Int) (x27_2 : Int), v27 = .int .i64 x27_2 ∧ Aside0 (num_Put.l0 kq a0 a1 x7_2 a0 x27_2 = some (r1, r2)) ∧ Aside0 (kq ≤ kj2) ∧ Aside0 (Kd.R (Kd.int .u8) 5 w' w.heap.size (fun _ => True) v112 x7_2) ∧ Aside0 (Below w.heap.size w w'))
          case atStart => exact ⟨(y111), (0), (by first | rfl | (simp; done) | (simp [*]; done)), H', ⟨Nat.le_refl _⟩, ⟨by (with_reducible repeat (first | apply Kd.R_alloc | apply Kd.R_drewN | apply Kd.R_drew)); exact HO113.out⟩, ⟨by repeat (first | (with_reducible first | exact HB.out | apply below_alloc | apply pw_below_drewN | apply below_drew1) | exact HB.out)⟩⟩
          case round =>
            clear H'
            try clear c1
            try clear p2
            try clear c4
            try clear c5
            try clear c6
            try clear c6b0
            try clear p6
            try clear c8
            try clear c8b0
            try clear c8b1
            try clear c10
            try clear c10b0
            try clear c10b1
            try clear c11
            try clear c11b0
            try clear c11b1
            try clear c12
            try clear c12b0
            try clear c12b1
            try clear p2
            try clear p6
            obtain ⟨x7_2, x27_2, rfl, HA, HK2, HO_7, HB⟩ := hrel
            cases gk with
            | zero => exact absurd HA.out (by simp [num_Put.l0])
            | succ k2 =>
              have H := HA.out
              clear HA
              simp only [num_Put.l0] at H
              by_cases c15 : x27_2 < a0
              · rw [if_pos c15] at H
                have c15b0 : decide (x27_2 < a0) = true := decide_eq_true c15
                clear c15
                obtain ⟨ji16, hji16⟩ : ∃ j_ : Int, (wrap64 (8 * x27_2)) = j_ := ⟨_, rfl⟩
                replace H : (if 0 ≤ (ji16) then (if 0 ≤ (wrap64 ((wrap64 (a0 - 1)) - x27_2)) then (if (wrap64 ((wrap64 (a0 - 1)) - x27_2)) < (x7_2.length : Int) then (num_Put.l0 k2 a0 a1 (x7_2.set ((wrap64 ((wrap64 (a0 - 1)) - x27_2)) : Int).toNat ((shr .u64 a1 (ji16)) % 256)) a0 (wrap64 (x27_2 + 1))) else (none)) else (none)) else (none)) = some (r1, r2) := by first | (rw [hji16] at H; exact H) | (simp only [hji16] at H ⊢; exact H)
                have hji16w : (IntKind.i64.wrap (8 * x27_2)) = ji16 := (i64_w _).trans hji16
                by_cases c17 : 0 ≤ (ji16)
                · rw [if_pos c17] at H
                  have c17b0 := eq_true c17
                  have c17b1 : decide (0 ≤ (ji16)) = true := decide_eq_true c17
                  clear c17
                  obtain ⟨ji18, hji18⟩ : ∃ j_ : Int, (shr .u64 a1 (ji16)) = j_ := ⟨_, rfl⟩
                  replace H : (if 0 ≤ (wrap64 ((wrap64 (a0 - 1)) - x27_2)) then (if (wrap64 ((wrap64 (a0 - 1)) - x27_2)) < (x7_2.length : Int) then (num_Put.l0 k2 a0 a1 (x7_2.set ((wrap64 ((wrap64 (a0 - 1)) - x27_2)) : Int).toNat ((ji18) % 256)) a0 (wrap64 (x27_2 + 1))) else (none)) else (none)) = some (r1, r2) := by first | (rw [hji18] at H; exact H) | (simp only [hji18] at H ⊢; exact H)
                  have hji18_ : (a1 / 2 ^ min (ji16).toNat 64) = ji18 := hji18
                  have hji18z : (ji16) ≤ 64 → (a1 / 2 ^ (ji16).toNat) = ji18 := shr_small hji18
                  obtain ⟨ji19, hji19⟩ : ∃ j_ : Int, (wrap64 ((wrap64 (a0 - 1)) - x27_2)) = j_ := ⟨_, rfl⟩
                  replace H : (if 0 ≤ (ji19) then (if (ji19) < (x7_2.length : Int) then (num_Put.l0 k2 a0 a1 (x7_2.set ((ji19) : Int).toNat ((ji18) % 256)) a0 (wrap64 (x27_2 + 1))) else (none)) else (none)) = some (r1, r2) := by first | (rw [hji19] at H; exact H) | (simp only [hji19] at H ⊢; exact H)
                  have hji19w : (IntKind.i64.wrap ((wrap64 (a0 - 1)) - x27_2)) = ji19 := (i64_w _).trans hji19
                  by_cases c20 : 0 ≤ (ji19)
                  · rw [if_pos c20] at H
                    have c20b0 : decide (0 ≤ (ji19)) = true := decide_eq_true c20
                    clear c20
                    by_cases c21 : (ji19) < (x7_2.length : Int)
                    · rw [if_pos c21] at H
                      have c21b0 : decide ((ji19) < (x7_2.length : Int)) = true := decide_eq_true c21
                      clear c21
                      obtain ⟨y114, hy114⟩ : ∃ y_ : List Int, y_ = (x7_2.set ((ji19) : Int).toNat ((ji18) % 256)) := ⟨_, rfl⟩
                      replace H : (num_Put.l0 k2 a0 a1 y114 a0 (wrap64 (x27_2 + 1))) = some (r1, r2) := by first | (rw [hy114]; with_reducible exact H) | (have H2_ := (Option.bind_some _ _).symm.trans H; rw [hy114]; with_reducible exact H2_) | (have H2_ := (Option.bind_some _ _).symm.trans H; with_reducible exact H2_) | with_reducible exact H | (rw [hy114]; exact H) | exact H
                      have Ny114 := Aside0.mk hy114
                      clear hy114
                      have H' := Aside0.mk H
                      clear H
                      have p22 : 0 ≤ ((ji19) : Int) := of_decide_eq_true (by first | (with_reducible assumption) | assumption)
                      have q22 : ((ji19) : Int) < ((x7_2.length : Int) : Int) := of_decide_eq_true (by first | (with_reducible assumption) | assumption)
                      obtain ⟨go22, co22, eo22, gb22, gl22, cl22, HG22⟩ := Kd.R_form HO_7.out (by omega)
                      (first | cases eo22 | (injection eo22 with ea_ en_ ec_; (first | subst ea_ | (injection ea_ with ea_; subst ea_)); subst ec_; clear en_))
                      have GB22 := Aside0.mk gb22
                      have GG22 := Aside0.mk HG22
                      clear gb22 gl22 HG22
                      obtain ⟨hx22_0, hf22_0⟩ := Kd.R_celln 0 HO_7.out ((ji19) : Int) p22 q22
                      replace p22 := eq_true p22
                      replace q22 := eq_true q22
                      have HP23 := Kd.R_putg HO_7.out ((ji19) : Int) ((ji18) % 256)
                      go_wp2_with (first | ((with_reducible refine gate_store (t := 5) (p := 40) rfl ?_); refine store_event (t := 5) (p := 40) (v := ?vo_w24) (w1 := (wr.setCell ⟨go22, ((ji19) : Int).toNat, none⟩ (.int .u8 ((ji18) % 256)))) ?hg ?ho ?hn ?hr ?_; (case ho => rfl); (case hg => rfl); (case hn => rfl); (case hr => first | (go_simp; done) | (go_simp; rfl)); intro w24 hw; have hg : wr.grownBy w24 (some go22) := (by rw [hw]; exact HP23.2); have hp_ : Kd.R (Kd.int .u8) 5 w24 w.heap.size (fun _ => True) (.slice (some ⟨go22, 0, none⟩) x7_2.length co22) y114 := (by rw [hw, Ny114.out]; exact HP23.1); clear HP23; have n0_ := Aside0.mk (hp_); have n1_ := Aside0.mk ((by rw [hw]; exact below_set (HB.out) GB22.out : Below w.heap.size w w24)); clear HO_7; clear HB; have HO_7 := n0_; have HB := n1_; clear n0_ n1_; clear hg hw hp_))
                      go_roundg k2
                      case measure => have := HJ2.out; have := HK2.out; omega
                      case rel => exact ⟨(y114), (wrap64 (x27_2 + 1)), (by first | rfl | (simp; done) | (simp [*]; done)), H', ⟨by have := HJ2.out; have := HK2.out; omega⟩, ⟨by (with_reducible repeat (first | apply Kd.R_alloc | apply Kd.R_drewN | apply Kd.R_drew)); exact HO_7.out⟩, ⟨by repeat (first | (with_reducible first | exact HB.out | apply below_alloc | apply pw_below_drewN | apply below_drew1) | exact HB.out)⟩⟩
                    · rw [if_neg c21] at H
                      exact absurd H (by simp)
                  · rw [if_neg c20] at H
                    exact absurd H (by simp)
                · rw [if_neg c17] at H
                  exact absurd H (by simp)
              · rw [if_neg c15] at H
                have c15b0 : decide (x27_2 < a0) = false := decide_eq_false c15
                clear c15
                simp only [Option.some.injEq, Prod.mk.injEq] at H
                obtain ⟨rfl, rfl⟩ := H
                have hcv25 := own_string (P := Tryd.prog) Tryd.underlying57 Tryd.underlying5 Tryd.underlying9 (Kd.own_of_R HO_7.out)
                go_wp2
                go_ret2
                exact ⟨by first | rfl | (simp [errW_none, errW_some] <;> rfl) | (simp [*, errW_none, errW_some] <;> rfl), by repeat (first | (with_reducible first | exact HB.out | apply below_alloc | apply pw_below_drewN | apply below_drew1) | exact HB.out)⟩
        · rw [if_neg c12] at H
          exact absurd H (by simp)
      · rw [if_neg c11] at H
        exact absurd H (by simp)


end Go.Proofs.YthdkmohelampbaaDoor.F
namespace Go.Proofs.YthdkmohelampbaaDoor.F
open Go.RowKit Go.Proofs.YthdkmohelampbaaDoorW.PrintWords Go.Proofs.YthdkmohelampbaaDoorW.PrintLast Go.Proofs.YthdkmohelampbaaDoorW.PrintMore
set_option linter.unusedVariables false
set_option linter.unusedSimpArgs false

set_option maxHeartbeats 1000000 in
theorem put_at (a0 a1 : Int) (h0 : 0 ≤ a1) (h1 : a1 < 18446744073709551616) : num_Put.f 12 a0 a1 = some (putR a0 a1) := by
  unfold num_Put.f putR
  rw [width_isW]
  simp only [Option.bind_some]
  by_cases hw : isW a0
  · simp only [hw, decide_true, if_true]
    have w : ∀ x : Int, -100 ≤ x → x ≤ 100 → wrap64 x = x := fun x _ _ => wrap64_of (by omega) (by omega)
    obtain ⟨v, rfl⟩ := Int.eq_ofNat_of_zero_le h0
    rcases hw with rfl | rfl | rfl | rfl
    all_goals simp [num_Put.j0, num_Put.l0, shr, w, be, toBA, strOfNums, show IntKind.u64.bits = 64 from rfl]
    all_goals try simp only [Nat.div_div_eq_div_mul, Nat.reduceMul]
    all_goals have e0 : ((v : Int) % 256).toNat = v % 256 := by omega
    all_goals have e1 : ((v : Int) / 256 % 256).toNat = v / 256 % 256 := by omega
    all_goals have e2 : ((v : Int) / 65536 % 256).toNat = v / 65536 % 256 := by omega
    all_goals have e3 : ((v : Int) / 16777216 % 256).toNat = v / 16777216 % 256 := by omega
    all_goals have e4 : ((v : Int) / 4294967296 % 256).toNat = v / 4294967296 % 256 := by omega
    all_goals have e5 : ((v : Int) / 1099511627776 % 256).toNat = v / 1099511627776 % 256 := by omega
    all_goals have e6 : ((v : Int) / 281474976710656 % 256).toNat = v / 281474976710656 % 256 := by omega
    all_goals have e7 : ((v : Int) / 72057594037927936 % 256).toNat = v / 72057594037927936 % 256 := by omega
    all_goals try simp only [e0, e1, e2, e3, e4, e5, e6, e7]
    · by_cases hv : (v : Int) < 256
      · rw [if_pos hv, if_pos (by omega)]
      · rw [if_neg hv, if_neg (by omega)]
    · by_cases hv : (v : Int) < 65536
      · rw [if_pos hv, if_pos (by omega)]
      · rw [if_neg hv, if_neg (by omega)]
    · by_cases hv : (v : Int) < 4294967296
      · rw [if_pos hv, if_pos (by omega)]
      · rw [if_neg hv, if_neg (by omega)]
    · rw [if_pos h1]
  · simp [hw]
theorem put_ev (a0 a1 : Int) (h0 : 0 ≤ a1) (h1 : a1 < 18446744073709551616) : Ev (fun k => num_Put.f k a0 a1) (putR a0 a1) := Ev.of (num_Put.mono a0 a1) (put_at a0 a1 h0 h1)
theorem put_k {k : Nat} (hk : 12 ≤ k) (a0 a1 : Int) (h0 : 0 ≤ a1) (h1 : a1 < 18446744073709551616) : num_Put.f k a0 a1 = some (putR a0 a1) := at_rounds (num_Put.mono a0 a1) hk (put_at a0 a1 h0 h1)
end Go.Proofs.YthdkmohelampbaaDoor.F
namespace Go.Proofs.YthdkmohelampbaaDoor.F
open Go.RowKit Go.Proofs.YthdkmohelampbaaDoorW.PrintWords Go.Proofs.YthdkmohelampbaaDoorW.PrintLast Go.Proofs.YthdkmohelampbaaDoorW.PrintMore
attribute [local go_sem] max2_int min2_int max_two min_two max_three min_three max_four min_four
set_option linter.unusedVariables false
set_option linter.unusedSimpArgs false

/-! ### num_Take: function 37 -/
def num_Take.l0 : Nat → ByteArray → Int → Int → Int → Int → Option (Int × ByteArray × Int)
  | 0, _, _, _, _, _ => none
  | k + 1, x0, x1, x7, x18, x19 => if x19 < x18 then (if 0 ≤ x19 then (if x19 < (x0.size : Int) then (num_Take.l0 k x0 x1 (Go.bits .or .u64 (IntKind.u64.wrap (x7 * 256)) (IntKind.u64.wrap (bt x0 x19))) x18 (wrap64 (x19 + 1))) else (none)) else (none)) else (if 0 ≤ x1 then (if x1 ≤ (x0.size : Int) then (some (x7, x0.extract (x1 : Int).toNat x0.size, 0)) else (none)) else (none))
def num_Take.f (k : Nat) (a0 : ByteArray) (a1 : Int) : Option (Int × ByteArray × Int) := (num_width.f a1).bind fun t103 => (if t103 = true then (if (a0.size : Int) < a1 then (some (0, (⟨#[]⟩ : ByteArray), 2)) else (num_Take.l0 k a0 a1 0 a1 0)) else (some (0, (⟨#[]⟩ : ByteArray), 1)))
theorem num_Take.mono_l : ∀ k, (∀ y0 y1 y2 y3 y4, LeO (num_Take.l0 k y0 y1 y2 y3 y4) (num_Take.l0 (k + 1) y0 y1 y2 y3 y4))
  | 0 => fun _ _ _ _ _ r h => by simp [num_Take.l0] at h
  | k + 1 => by
    have ih0 := num_Take.mono_l k
    · intro y0 y1 y2 y3 y4
      unfold num_Take.l0
      repeat' first
      | (with_reducible exact ih0 _ _ _ _ _)
      | (with_reducible exact LeO.refl _)
      | (with_reducible exact LeO.none _)
      | (with_reducible refine LeO.ite ?_ ?_)
      | (with_reducible refine LeO.bind ?_ (fun _ => ?_))
      | exact ih0 _ _ _ _ _
      | exact LeO.none _
      | refine LeO.ite ?_ ?_
      | refine LeO.bind ?_ (fun _ => ?_)
theorem num_Take.mono : ∀ a0 a1 k, LeO (num_Take.f k a0 a1) (num_Take.f (k + 1) a0 a1) := by
  intro a0 a1 k
  have ih0 := num_Take.mono_l k
  unfold num_Take.f
  repeat' first
      | (with_reducible exact ih0 _ _ _ _ _)
      | (with_reducible exact LeO.refl _)
      | (with_reducible exact LeO.none _)
      | (with_reducible refine LeO.ite ?_ ?_)
      | (with_reducible refine LeO.bind ?_ (fun _ => ?_))
      | exact ih0 _ _ _ _ _
      | exact LeO.none _
      | refine LeO.ite ?_ ?_
      | refine LeO.bind ?_ (fun _ => ?_)
set_option maxHeartbeats 8000000 in
set_option maxRecDepth 100000 in
theorem num_Take.calls (k : Nat) (a0 : ByteArray) (a1 : Int) (r1 : Int) (r2 : ByteArray) (r3 : Int) (w : World) (hg : Laid w) (h : num_Take.f k a0 a1 = some (r1, r2, r3)) :
    Calls Tryd.prog 37 #[.string a0, .int .i64 a1] w fun e w' => e = .returned (.tuple #[.int .u64 r1, .string r2, .int .i64 r3]) ∧ Drawn0 w w' := by
  have HG := Aside0.mk hg
  clear hg
  have H : ((num_width.f a1).bind fun t103 => (if t103 = true then (if (a0.size : Int) < a1 then (some (0, (⟨#[]⟩ : ByteArray), 2)) else (num_Take.l0 k a0 a1 0 a1 0)) else (some (0, (⟨#[]⟩ : ByteArray), 1)))) = some (r1, r2, r3) := h
  clear h
  replace H := Option.bind_eq_some_iff.mp H
  obtain ⟨t103, A30, H⟩ := H
  replace H : (if t103 = true then (if (a0.size : Int) < a1 then (some (0, (⟨#[]⟩ : ByteArray), 2)) else (num_Take.l0 k a0 a1 0 a1 0)) else (some (0, (⟨#[]⟩ : ByteArray), 1))) = some (r1, r2, r3) := H
  have A3 := Aside0.mk A30
  clear A30
  by_cases c4 : t103 = true
  · subst c4
    have H1 : (if (a0.size : Int) < a1 then (some (0, (⟨#[]⟩ : ByteArray), 2)) else (num_Take.l0 k a0 a1 0 a1 0)) = some (r1, r2, r3) := by rw [if_pos rfl] at H; exact H
    clear H
    have H := H1
    clear H1
    by_cases c5 : (a0.size : Int) < a1
    · rw [if_pos c5] at H
      have c5b0 : decide ((a0.size : Int) < a1) = true := decide_eq_true c5
      clear c5
      simp only [Option.some.injEq, Prod.mk.injEq] at H
      obtain ⟨rfl, rfl, rfl⟩ := H
      go_enter Tryd.func37, Tryd.ntmps37
      go_wp2_with (first | (go_at_call 48; (with_reducible refine (num_width.calls a1 true _ ?lg A3.out).mono ?_); (case lg => exact (HG.out.drawn (by repeat (first | exact Drawn0.refl _ | apply Drawn0.step)))); rintro e w' ⟨rfl, ⟨nd, rfl⟩⟩; (try first | exact ⟨rfl, _, World.drewN_drewN _ _ _⟩ | exact ⟨rfl, _, Eq.trans (World.drewN_drewN _ _ _) (congrArg (World.drewN _) (Nat.add_assoc _ _ _))⟩)))
      repeat (go_quiet (first | (go_at_call 48; (with_reducible refine (num_width.calls a1 true _ ?lg A3.out).mono ?_); (case lg => exact (HG.out.drawn (by repeat (first | exact Drawn0.refl _ | apply Drawn0.step)))); rintro e w' ⟨rfl, ⟨nd, rfl⟩⟩; (try first | exact ⟨rfl, _, World.drewN_drewN _ _ _⟩ | exact ⟨rfl, _, Eq.trans (World.drewN_drewN _ _ _) (congrArg (World.drewN _) (Nat.add_assoc _ _ _))⟩))); try go_wp2_with (first | (go_at_call 48; (with_reducible refine (num_width.calls a1 true _ ?lg A3.out).mono ?_); (case lg => exact (HG.out.drawn (by repeat (first | exact Drawn0.refl _ | apply Drawn0.step)))); rintro e w' ⟨rfl, ⟨nd, rfl⟩⟩; (try first | exact ⟨rfl, _, World.drewN_drewN _ _ _⟩ | exact ⟨rfl, _, Eq.trans (World.drewN_drewN _ _ _) (congrArg (World.drewN _) (Nat.add_assoc _ _ _))⟩))))
      go_ret3
      exact ⟨by first | rfl | (simp; done) | (simp [*]; done), by repeat (first | exact Drawn0.refl _ | apply Drawn0.step)⟩
    · rw [if_neg c5] at H
      have c5b0 : decide ((a0.size : Int) < a1) = false := decide_eq_false c5
      clear c5
      have H' := Aside0.mk H
      clear H
      go_enter Tryd.func37, Tryd.ntmps37
      go_wp2_with (first | (go_at_call 48; (with_reducible refine (num_width.calls a1 true _ ?lg A3.out).mono ?_); (case lg => exact (HG.out.drawn (by repeat (first | exact Drawn0.refl _ | apply Drawn0.step)))); rintro e w' ⟨rfl, ⟨nd, rfl⟩⟩; (try first | exact ⟨rfl, _, World.drewN_drewN _ _ _⟩ | exact ⟨rfl, _, Eq.trans (World.drewN_drewN _ _ _) (congrArg (World.drewN _) (Nat.add_assoc _ _ _))⟩)))
      repeat (go_quiet (first | (go_at_call 48; (with_reducible refine (num_width.calls a1 true _ ?lg A3.out).mono ?_); (case lg => exact (HG.out.drawn (by repeat (first | exact Drawn0.refl _ | apply Drawn0.step)))); rintro e w' ⟨rfl, ⟨nd, rfl⟩⟩; (try first | exact ⟨rfl, _, World.drewN_drewN _ _ _⟩ | exact ⟨rfl, _, Eq.trans (World.drewN_drewN _ _ _) (congrArg (World.drewN _) (Nat.add_assoc _ _ _))⟩))); try go_wp2_with (first | (go_at_call 48; (with_reducible refine (num_width.calls a1 true _ ?lg A3.out).mono ?_); (case lg => exact (HG.out.drawn (by repeat (first | exact Drawn0.refl _ | apply Drawn0.step)))); rintro e w' ⟨rfl, ⟨nd, rfl⟩⟩; (try first | exact ⟨rfl, _, World.drewN_drewN _ _ _⟩ | exact ⟨rfl, _, Eq.trans (World.drewN_drewN _ _ _) (congrArg (World.drewN _) (Nat.add_assoc _ _ _))⟩))))
      go_loopg [7, 19] k (fun kq v7 v19 w' => ∃ (x7_1 : Int) (x19_1 : Int), v7 = .int .u64 x7_1 ∧ v19 = .int .i64 x19_1 ∧ Aside0 (num_Take.l0 kq a0 a1 x7_1 a1 x19_1 = some (r1, r2, r3)) ∧ Aside0 (kq ≤ k) ∧ Drawn0 w w')
      case atStart => exact ⟨(0), (0), (by first | rfl | (simp; done) | (simp [*]; done)), (by first | rfl | (simp; done) | (simp [*]; done)), H', ⟨Nat.le_refl _⟩, by repeat (first | exact Drawn0.refl _ | apply Drawn0.step)⟩
      case round =>
        clear H'
        try clear p2
        try clear c3
        try clear c4
        try clear c5
        try clear c5b0
        obtain ⟨x7_1, x19_1, rfl, rfl, HA, HK1, ⟨m1, rfl⟩⟩ := hrel
        cases gk with
        | zero => exact absurd HA.out (by simp [num_Take.l0])
        | succ k1 =>
          have H := HA.out
          clear HA
          simp only [num_Take.l0] at H
          by_cases c6 : x19_1 < a1
          · rw [if_pos c6] at H
            have c6b0 : decide (x19_1 < a1) = true := decide_eq_true c6
            clear c6
            by_cases c7 : 0 ≤ x19_1
            · rw [if_pos c7] at H
              have c7b0 : decide (0 ≤ x19_1) = true := decide_eq_true c7
              clear c7
              by_cases c8 : x19_1 < (a0.size : Int)
              · rw [if_pos c8] at H
                have c8b0 : decide (x19_1 < (a0.size : Int)) = true := decide_eq_true c8
                clear c8
                have H' := Aside0.mk H
                clear H
                have p9 : 0 ≤ (x19_1 : Int) := of_decide_eq_true (by first | (with_reducible assumption) | assumption)
                have q9 : x19_1 < (a0.size : Int) := of_decide_eq_true (by first | (with_reducible assumption) | assumption)
                have hx9 := bt_at a0 x19_1
                replace p9 := eq_true p9
                replace q9 := eq_true q9
                go_wp2
                repeat (go_quiet (fail); try go_wp2)
                go_roundg k1
                case measure => have := HK1.out; omega
                case rel => exact ⟨(Go.bits .or .u64 (IntKind.u64.wrap (x7_1 * 256)) (IntKind.u64.wrap (bt a0 x19_1))), (wrap64 (x19_1 + 1)), (by first | rfl | (simp; done) | (simp [*]; done)), (by first | rfl | (simp; done) | (simp [*]; done)), H', ⟨by have := HK1.out; omega⟩, by repeat (first | exact Drawn0.refl _ | apply Drawn0.step)⟩
              · rw [if_neg c8] at H
                exact absurd H (by simp)
            · rw [if_neg c7] at H
              exact absurd H (by simp)
          · rw [if_neg c6] at H
            have c6b0 : decide (x19_1 < a1) = false := decide_eq_false c6
            clear c6
            by_cases c10 : 0 ≤ a1
            · rw [if_pos c10] at H
              have c10b0 := eq_true c10
              have c10b1 : decide (0 ≤ a1) = true := decide_eq_true c10
              clear c10
              by_cases c11 : a1 ≤ (a0.size : Int)
              · rw [if_pos c11] at H
                have c11b0 := eq_true c11
                have c11b1 : decide (a1 ≤ (a0.size : Int)) = true := decide_eq_true c11
                clear c11
                simp only [Option.some.injEq, Prod.mk.injEq] at H
                obtain ⟨rfl, rfl, rfl⟩ := H
                go_wp2
                repeat (go_quiet (fail); try go_wp2)
                go_ret3
                exact ⟨by first | rfl | (simp; done) | (simp [*]; done), by repeat (first | exact Drawn0.refl _ | apply Drawn0.step)⟩
              · rw [if_neg c11] at H
                exact absurd H (by simp)
            · rw [if_neg c10] at H
              exact absurd H (by simp)
  · replace c4 := Bool.eq_false_iff.mpr c4
    subst c4
    have H1 : (some (0, (⟨#[]⟩ : ByteArray), 1)) = some (r1, r2, r3) := by rw [if_neg (show ¬ (false = true) by decide)] at H; exact H
    clear H
    have H := H1
    clear H1
    simp only [Option.some.injEq, Prod.mk.injEq] at H
    obtain ⟨rfl, rfl, rfl⟩ := H
    go_enter Tryd.func37, Tryd.ntmps37
    go_wp2_with (first | (go_at_call 48; (with_reducible refine (num_width.calls a1 false _ ?lg A3.out).mono ?_); (case lg => exact (HG.out.drawn (by repeat (first | exact Drawn0.refl _ | apply Drawn0.step)))); rintro e w' ⟨rfl, ⟨nd, rfl⟩⟩; (try first | exact ⟨rfl, _, World.drewN_drewN _ _ _⟩ | exact ⟨rfl, _, Eq.trans (World.drewN_drewN _ _ _) (congrArg (World.drewN _) (Nat.add_assoc _ _ _))⟩)))
    repeat (go_quiet (first | (go_at_call 48; (with_reducible refine (num_width.calls a1 false _ ?lg A3.out).mono ?_); (case lg => exact (HG.out.drawn (by repeat (first | exact Drawn0.refl _ | apply Drawn0.step)))); rintro e w' ⟨rfl, ⟨nd, rfl⟩⟩; (try first | exact ⟨rfl, _, World.drewN_drewN _ _ _⟩ | exact ⟨rfl, _, Eq.trans (World.drewN_drewN _ _ _) (congrArg (World.drewN _) (Nat.add_assoc _ _ _))⟩))); try go_wp2_with (first | (go_at_call 48; (with_reducible refine (num_width.calls a1 false _ ?lg A3.out).mono ?_); (case lg => exact (HG.out.drawn (by repeat (first | exact Drawn0.refl _ | apply Drawn0.step)))); rintro e w' ⟨rfl, ⟨nd, rfl⟩⟩; (try first | exact ⟨rfl, _, World.drewN_drewN _ _ _⟩ | exact ⟨rfl, _, Eq.trans (World.drewN_drewN _ _ _) (congrArg (World.drewN _) (Nat.add_assoc _ _ _))⟩))))
    go_ret3
    exact ⟨by first | rfl | (simp; done) | (simp [*]; done), by repeat (first | exact Drawn0.refl _ | apply Drawn0.step)⟩


end Go.Proofs.YthdkmohelampbaaDoor.F
namespace Go.Proofs.YthdkmohelampbaaDoor.F
open Go.RowKit Go.Proofs.YthdkmohelampbaaDoorW.PrintWords Go.Proofs.YthdkmohelampbaaDoorW.PrintLast Go.Proofs.YthdkmohelampbaaDoorW.PrintMore
set_option linter.unusedVariables false
set_option linter.unusedSimpArgs false

theorem bt_get (s : ByteArray) (i : Nat) (h : i < s.size) : bt s (i : Int) = ((s.data.toList[i]'(by simpa using h)).toNat : Int) := by
  unfold bt
  simp [h]
  rfl
theorem take_succ_num (s : ByteArray) (i : Nat) (h : i < s.size) : beNum (s.data.toList.take (i + 1)) = beNum (s.data.toList.take i) * 256 + (s.data.toList[i]'(by simpa using h)).toNat := by
  rw [List.take_succ_eq_append_getElem (by simpa using h), beNum_snoc]
theorem or_byte (x b : Nat) (hx : x < 72057594037927936) (hb : b < 256) : Go.bits .or .u64 (IntKind.u64.wrap ((x : Int) * 256)) (IntKind.u64.wrap (b : Int)) = ((x * 256 + b : Nat) : Int) := by
  rw [wrapU (by omega) (by omega), wrapU (by omega) (by omega)]
  have e : (x : Int) * 256 = ((x * 256 : Nat) : Int) := by omega
  rw [e, bits_or_u64_nat _ _ (by omega) (by omega)]
  have h : x * 256 ||| b = x * 256 + b := by
    have := Nat.two_pow_add_eq_or_of_lt (i := 8) (b := b) (by omega) x
    have e8 : 2 ^ 8 * x = x * 256 := by omega
    rw [e8] at this
    exact this.symm
  rw [h]
theorem take_loop (s : ByteArray) (n : Nat) (hn : n ≤ 8) (hs : n ≤ s.size) (d : Nat) : ∀ (k i : Nat), n = i + d → d < k →
    num_Take.l0 k s n ((beNum (s.data.toList.take i) : Nat) : Int) n i = some (((beNum (s.data.toList.take n) : Nat) : Int), s.extract n s.size, 0) := by
  induction d with
  | zero =>
    intro k i hi hk
    obtain ⟨k, rfl⟩ : ∃ m, k = m + 1 := ⟨k - 1, by omega⟩
    obtain rfl : n = i := by omega
    simp only [num_Take.l0]
    rw [if_neg (by omega), if_pos (by omega), if_pos (by omega)]
    simp
  | succ d ih =>
    intro k i hi hk
    obtain ⟨k, rfl⟩ : ∃ m, k = m + 1 := ⟨k - 1, by omega⟩
    simp only [num_Take.l0]
    rw [if_pos (by omega), if_pos (by omega), if_pos (by omega), bt_get s i (by omega)]
    have hx : beNum (s.data.toList.take i) < 72057594037927936 := by
      have h1 := beNum_lt (s.data.toList.take i)
      have h2 : (s.data.toList.take i).length ≤ 7 := by rw [List.length_take]; omega
      have h3 : 256 ^ (s.data.toList.take i).length ≤ 256 ^ 7 := Nat.pow_le_pow_right (by decide) h2
      omega
    rw [or_byte _ _ hx (UInt8.toNat_lt _), ← take_succ_num s i (by omega)]
    have e3 : wrap64 ((i : Int) + 1) = ((i + 1 : Nat) : Int) := by rw [wrap64_of (by omega) (by omega)]; omega
    rw [e3]
    exact ih k (i + 1) (by omega) (by omega)
theorem take_at (s : ByteArray) (n : Int) : num_Take.f 10 s n = some (takeR s n) := by
  unfold num_Take.f takeR
  rw [width_isW]
  simp only [Option.bind_some]
  by_cases hw : isW n
  · simp only [hw, decide_true, if_true]
    by_cases hl : (s.size : Int) < n
    · rw [if_pos hl, if_pos hl]
    · rw [if_neg hl, if_neg hl]
      obtain ⟨m, rfl⟩ : ∃ m : Nat, n = m := ⟨n.toNat, by rcases hw with h | h | h | h <;> omega⟩
      have hm : m ≤ 8 := by rcases hw with h | h | h | h <;> omega
      have := take_loop s m hm (by omega) m 10 0 (by omega) (by omega)
      simpa [beNum] using this
  · simp [hw]
theorem take_ev (s : ByteArray) (n : Int) : Ev (fun k => num_Take.f k s n) (takeR s n) := Ev.of (num_Take.mono s n) (take_at s n)
theorem take_k {k : Nat} (hk : 12 ≤ k) (s : ByteArray) (n : Int) : num_Take.f k s n = some (takeR s n) := at_rounds (num_Take.mono s n) (Nat.le_trans (by decide) hk) (take_at s n)
end Go.Proofs.YthdkmohelampbaaDoor.F
namespace Go.Proofs.YthdkmohelampbaaDoor.F
open Go.RowKit Go.Proofs.YthdkmohelampbaaDoorW.PrintWords Go.Proofs.YthdkmohelampbaaDoorW.PrintLast Go.Proofs.YthdkmohelampbaaDoorW.PrintMore
attribute [local go_sem] max2_int min2_int max_two min_two max_three min_three max_four min_four
set_option linter.unusedVariables false
set_option linter.unusedSimpArgs false

/-! ### text_kind_lay: function 40 -/
def text_kind_lay.f (k : Nat) (a0 : Int) (a1 : ByteArray) : Option (ByteArray × Int) := (num_Put.f k a0 (IntKind.u64.wrap ((a1.size : Int)))).bind fun bt115 => (if bt115.2 = 0 then (if bt115.1.size + a1.size ≤ 9223372036854775807 then (some (bt115.1 ++ a1, 0)) else (none)) else (some ((⟨#[]⟩ : ByteArray), bt115.2)))
theorem text_kind_lay.mono : ∀ a0 a1 k, LeO (text_kind_lay.f k a0 a1) (text_kind_lay.f (k + 1) a0 a1) := by
  intro a0 a1 k
  unfold text_kind_lay.f
  repeat' first
      | (with_reducible exact num_Put.mono _ _ _)
      | (with_reducible exact LeO.refl _)
      | (with_reducible exact LeO.none _)
      | (with_reducible refine LeO.ite ?_ ?_)
      | (with_reducible refine LeO.bind ?_ (fun _ => ?_))
      | exact num_Put.mono _ _ _
      | exact LeO.none _
      | refine LeO.ite ?_ ?_
      | refine LeO.bind ?_ (fun _ => ?_)
set_option maxHeartbeats 8000000 in
set_option maxRecDepth 100000 in
theorem text_kind_lay.calls (k : Nat) (a0 : Int) (a1 : ByteArray) (r1 : ByteArray) (r2 : Int) (w : World) (hg : Laid w) (h : text_kind_lay.f k a0 a1 = some (r1, r2)) :
    Calls Tryd.prog 40 #[.int .i64 a0, .string a1] w fun e w' => e = .returned (.tuple #[.string r1, .int .i64 r2]) ∧ Below w.heap.size w w' := by
  have HG := Aside0.mk hg
  clear hg
  have HB := Aside0.mk (Below.refl w.heap.size w)
  have H : ((num_Put.f k a0 (IntKind.u64.wrap ((a1.size : Int)))).bind fun bt115 => (if bt115.2 = 0 then (if bt115.1.size + a1.size ≤ 9223372036854775807 then (some (bt115.1 ++ a1, 0)) else (none)) else (some ((⟨#[]⟩ : ByteArray), bt115.2)))) = some (r1, r2) := h
  clear h
  replace H := Option.bind_eq_some_iff.mp H
  obtain ⟨⟨t115, t116⟩, A30, H⟩ := H
  replace H : (if t116 = 0 then (if t115.size + a1.size ≤ 9223372036854775807 then (some (t115 ++ a1, 0)) else (none)) else (some ((⟨#[]⟩ : ByteArray), t116))) = some (r1, r2) := H
  have A3 := Aside0.mk A30
  clear A30
  by_cases c4 : t116 = 0
  · rw [if_pos c4] at H
    have c4b0 : (t116 == 0) = true := beq_iff_eq.mpr c4
    have c4b1 : (t116 != 0) = false := bne_eq_false_iff_eq.mpr c4
    clear c4
    by_cases c5 : t115.size + a1.size ≤ 9223372036854775807
    · rw [if_pos c5] at H
      have c5b0 := eq_true c5
      have c5b1 : decide (t115.size + a1.size ≤ 9223372036854775807) = true := decide_eq_true c5
      try have c5b2 : (9223372036854775807 < t115.size + a1.size) = False := eq_false (Nat.not_lt.2 c5)
      simp only [Option.some.injEq, Prod.mk.injEq] at H
      obtain ⟨rfl, rfl⟩ := H
      have hw_ : IntKind.u64.wrap ((a1.size : Int)) = ((a1.size : Int)) := IntWalk.u64_in _ (by omega)
      have A3w := A3.out
      rw [hw_] at A3w
      clear A3
      have A3 := Aside0.mk A3w
      clear A3w
      clear hw_
      go_enter Tryd.func40, Tryd.ntmps40
      go_wp2_with (first | ((with_reducible refine gate_callee (f := 50) rfl ?_); refine goesL_ (some 13) rfl rfl Tryd.func50 (by kernel_rfl) rfl #[.int .i64 a0, .int .u64 ((a1.size : Int))] rfl (by (try simp only [List.map_toArray, List.map_cons, List.map_nil]); first | done | rfl | (simp only [List.length_drop, List.length_take]; rfl)) ?_; (with_reducible refine (num_Put.calls k a0 ((a1.size : Int)) t115 t116 _ ?lg A3.out).mono ?_); (case lg => exact (HG.out.below (by repeat (first | (with_reducible first | exact HB.out | apply below_alloc | apply pw_below_drewN | apply below_drew1) | exact HB.out)))); rintro e w6 ⟨rfl, hb⟩; refine ⟨_, rfl, ?_⟩; have n0_ := Aside0.mk (below_step (by repeat (first | (with_reducible first | exact HB.out | apply below_alloc | apply pw_below_drewN | apply below_drew1) | exact HB.out)) hb); clear HB; have HB := n0_; clear n0_; (try clear hb); (try clear hb2); (try clear hk); (try clear hi)))
      go_ret2
      exact ⟨by first | rfl | (simp [errW_none, errW_some] <;> rfl) | (simp [*, errW_none, errW_some] <;> rfl), by repeat (first | (with_reducible first | exact HB.out | apply below_alloc | apply pw_below_drewN | apply below_drew1) | exact HB.out)⟩
    · rw [if_neg c5] at H
      exact absurd H (by simp)
  · rw [if_neg c4] at H
    have c4b0 : (t116 == 0) = false := beq_eq_false_iff_ne.mpr c4
    have c4b1 : (t116 != 0) = true := bne_iff_ne.mpr c4
    simp only [Option.some.injEq, Prod.mk.injEq] at H
    obtain ⟨rfl, rfl⟩ := H
    go_enter Tryd.func40, Tryd.ntmps40
    go_wp2_with (first | ((with_reducible refine gate_callee (f := 50) rfl ?_); refine goesL_ (some 13) rfl rfl Tryd.func50 (by kernel_rfl) rfl #[.int .i64 a0, .int .u64 (IntKind.u64.wrap ((a1.size : Int)))] rfl (by (try simp only [List.map_toArray, List.map_cons, List.map_nil]); first | done | rfl | (simp only [List.length_drop, List.length_take]; rfl)) ?_; (with_reducible refine (num_Put.calls k a0 (IntKind.u64.wrap ((a1.size : Int))) t115 t116 _ ?lg A3.out).mono ?_); (case lg => exact (HG.out.below (by repeat (first | (with_reducible first | exact HB.out | apply below_alloc | apply pw_below_drewN | apply below_drew1) | exact HB.out)))); rintro e w7 ⟨rfl, hb⟩; refine ⟨_, rfl, ?_⟩; have n0_ := Aside0.mk (below_step (by repeat (first | (with_reducible first | exact HB.out | apply below_alloc | apply pw_below_drewN | apply below_drew1) | exact HB.out)) hb); clear HB; have HB := n0_; clear n0_; (try clear hb); (try clear hb2); (try clear hk); (try clear hi)))
    go_ret2
    exact ⟨by first | rfl | (simp [errW_none, errW_some] <;> rfl) | (simp [*, errW_none, errW_some] <;> rfl), by repeat (first | (with_reducible first | exact HB.out | apply below_alloc | apply pw_below_drewN | apply below_drew1) | exact HB.out)⟩


end Go.Proofs.YthdkmohelampbaaDoor.F
namespace Go.Proofs.YthdkmohelampbaaDoor.F
open Go.RowKit Go.Proofs.YthdkmohelampbaaDoorW.PrintWords Go.Proofs.YthdkmohelampbaaDoorW.PrintLast Go.Proofs.YthdkmohelampbaaDoorW.PrintMore
set_option linter.unusedVariables false
set_option linter.unusedSimpArgs false

def text_Short.f (k : Nat) (a0 : ByteArray) : Option (ByteArray × Int) := text_kind_lay.f k 1 a0
def text_Long.f (k : Nat) (a0 : ByteArray) : Option (ByteArray × Int) := text_kind_lay.f k 4 a0
theorem text_Short.mono (a0 : ByteArray) (k : Nat) : LeO (text_Short.f k a0) (text_Short.f (k + 1) a0) := text_kind_lay.mono 1 a0 k
theorem text_Long.mono (a0 : ByteArray) (k : Nat) : LeO (text_Long.f k a0) (text_Long.f (k + 1) a0) := text_kind_lay.mono 4 a0 k
theorem text_Short.calls (k : Nat) (a0 : ByteArray) (r1 : ByteArray) (r2 : Int) (w : World) (hg : Laid w) (h : text_Short.f k a0 = some (r1, r2)) :
    Calls Tryd.prog 27 #[.string a0] w fun e w' => e = .returned (.tuple #[.string r1, .int .i64 r2]) ∧ Below w.heap.size w w' := by
  have HG := Aside0.mk hg
  have HH := Aside0.mk h
  clear hg h
  have hmf : ∀ (fn : Fn) (first cap : Array Value) (w : World), (Instr.makeFunc fn first cap).run Tryd.prog w = .ok (.func fn first cap) w := fun _ _ _ _ => rfl
  go_enter Tryd.func27, Tryd.ntmps27
  go_wp2_with (go_at_call 40; refine (text_kind_lay.calls k 1 a0 r1 r2 _ HG.out HH.out).mono ?_; rintro e w' ⟨rfl, hb⟩)
  go_ret2
  exact ⟨rfl, hb⟩
theorem text_Long.calls (k : Nat) (a0 : ByteArray) (r1 : ByteArray) (r2 : Int) (w : World) (hg : Laid w) (h : text_Long.f k a0 = some (r1, r2)) :
    Calls Tryd.prog 29 #[.string a0] w fun e w' => e = .returned (.tuple #[.string r1, .int .i64 r2]) ∧ Below w.heap.size w w' := by
  have HG := Aside0.mk hg
  have HH := Aside0.mk h
  clear hg h
  have hmf : ∀ (fn : Fn) (first cap : Array Value) (w : World), (Instr.makeFunc fn first cap).run Tryd.prog w = .ok (.func fn first cap) w := fun _ _ _ _ => rfl
  go_enter Tryd.func29, Tryd.ntmps29
  go_wp2_with (go_at_call 40; refine (text_kind_lay.calls k 4 a0 r1 r2 _ HG.out HH.out).mono ?_; rintro e w' ⟨rfl, hb⟩)
  go_ret2
  exact ⟨rfl, hb⟩
end Go.Proofs.YthdkmohelampbaaDoor.F
namespace Go.Proofs.YthdkmohelampbaaDoor.F
open Go.RowKit Go.Proofs.YthdkmohelampbaaDoorW.PrintWords Go.Proofs.YthdkmohelampbaaDoorW.PrintLast Go.Proofs.YthdkmohelampbaaDoorW.PrintMore
attribute [local go_sem] max2_int min2_int max_two min_two max_three min_three max_four min_four
set_option linter.unusedVariables false
set_option linter.unusedSimpArgs false

/-! ### num_Skip: function 38 -/
def num_Skip.f (a0 : ByteArray) (a1 : Int) : Option (ByteArray × ByteArray × Int) := if a1 > (IntKind.u64.wrap ((a0.size : Int))) then (some ((⟨#[]⟩ : ByteArray), (⟨#[]⟩ : ByteArray), 2)) else (if 0 ≤ a1 then (if a1 ≤ (a0.size : Int) then (some (a0.extract 0 (a1 : Int).toNat, a0.extract (a1 : Int).toNat a0.size, 0)) else (none)) else (none))
set_option maxHeartbeats 8000000 in
set_option maxRecDepth 100000 in
theorem num_Skip.calls (a0 : ByteArray) (a1 : Int) (r1 : ByteArray) (r2 : ByteArray) (r3 : Int) (w : World) (h : num_Skip.f a0 a1 = some (r1, r2, r3)) :
    Calls Tryd.prog 38 #[.string a0, .int .u64 a1] w fun e w' => e = .returned (.tuple #[.string r1, .string r2, .int .i64 r3]) ∧ Drawn0 w w' := by
  have H : (if a1 > (IntKind.u64.wrap ((a0.size : Int))) then (some ((⟨#[]⟩ : ByteArray), (⟨#[]⟩ : ByteArray), 2)) else (if 0 ≤ a1 then (if a1 ≤ (a0.size : Int) then (some (a0.extract 0 (a1 : Int).toNat, a0.extract (a1 : Int).toNat a0.size, 0)) else (none)) else (none))) = some (r1, r2, r3) := h
  clear h
  by_cases c3 : a1 > (IntKind.u64.wrap ((a0.size : Int)))
  · rw [if_pos c3] at H
    have c3b0 : decide ((IntKind.u64.wrap ((a0.size : Int))) < a1) = true := decide_eq_true c3
    clear c3
    simp only [Option.some.injEq, Prod.mk.injEq] at H
    obtain ⟨rfl, rfl, rfl⟩ := H
    go_enter Tryd.func38, Tryd.ntmps38
    go_wp2
    repeat (go_quiet (fail); try go_wp2)
    go_ret3
    exact ⟨by first | rfl | (simp; done) | (simp [*]; done), by repeat (first | exact Drawn0.refl _ | apply Drawn0.step)⟩
  · rw [if_neg c3] at H
    have c3b0 : decide ((IntKind.u64.wrap ((a0.size : Int))) < a1) = false := decide_eq_false c3
    clear c3
    by_cases c4 : 0 ≤ a1
    · rw [if_pos c4] at H
      have c4b0 := eq_true c4
      have c4b1 : decide (0 ≤ a1) = true := decide_eq_true c4
      clear c4
      by_cases c5 : a1 ≤ (a0.size : Int)
      · rw [if_pos c5] at H
        have c5b0 := eq_true c5
        have c5b1 : decide (a1 ≤ (a0.size : Int)) = true := decide_eq_true c5
        clear c5
        have c6b0 := eq_true (of_decide_eq_true (by first | (with_reducible assumption) | assumption) : 0 ≤ a1)
        have c7b0 := eq_true (of_decide_eq_true (by first | (with_reducible assumption) | assumption) : a1 ≤ (a0.size : Int))
        simp only [Option.some.injEq, Prod.mk.injEq] at H
        obtain ⟨rfl, rfl, rfl⟩ := H
        go_enter Tryd.func38, Tryd.ntmps38
        go_wp2
        repeat (go_quiet (fail); try go_wp2)
        go_ret3
        exact ⟨by first | rfl | (simp; done) | (simp [*]; done), by repeat (first | exact Drawn0.refl _ | apply Drawn0.step)⟩
      · rw [if_neg c5] at H
        exact absurd H (by simp)
    · rw [if_neg c4] at H
      exact absurd H (by simp)


end Go.Proofs.YthdkmohelampbaaDoor.F
namespace Go.Proofs.YthdkmohelampbaaDoor.F
open Go.RowKit Go.Proofs.YthdkmohelampbaaDoorW.PrintWords Go.Proofs.YthdkmohelampbaaDoorW.PrintLast Go.Proofs.YthdkmohelampbaaDoorW.PrintMore
attribute [local go_sem] max2_int min2_int max_two min_two max_three min_three max_four min_four
set_option linter.unusedVariables false
set_option linter.unusedSimpArgs false

/-! ### text_kind_take: function 49 -/
def text_kind_take.f (k : Nat) (a0 : Int) (a1 : ByteArray) : Option (ByteArray × ByteArray × Int) := (num_Take.f k a1 a0).bind fun bt104 => (if bt104.2.2 = 0 then ((num_Skip.f bt104.2.1 bt104.1).bind fun bt107 => (some (bt107.1, bt107.2.1, bt107.2.2))) else (some ((⟨#[]⟩ : ByteArray), (⟨#[]⟩ : ByteArray), bt104.2.2)))
theorem text_kind_take.mono : ∀ a0 a1 k, LeO (text_kind_take.f k a0 a1) (text_kind_take.f (k + 1) a0 a1) := by
  intro a0 a1 k
  unfold text_kind_take.f
  repeat' first
      | (with_reducible exact num_Take.mono _ _ _)
      | (with_reducible exact LeO.refl _)
      | (with_reducible exact LeO.none _)
      | (with_reducible refine LeO.ite ?_ ?_)
      | (with_reducible refine LeO.bind ?_ (fun _ => ?_))
      | exact num_Take.mono _ _ _
      | exact LeO.none _
      | refine LeO.ite ?_ ?_
      | refine LeO.bind ?_ (fun _ => ?_)
set_option maxHeartbeats 8000000 in
set_option maxRecDepth 100000 in
theorem text_kind_take.calls (k : Nat) (a0 : Int) (a1 : ByteArray) (r1 : ByteArray) (r2 : ByteArray) (r3 : Int) (w : World) (hg : Laid w) (h : text_kind_take.f k a0 a1 = some (r1, r2, r3)) :
    Calls Tryd.prog 49 #[.int .i64 a0, .string a1] w fun e w' => e = .returned (.tuple #[.string r1, .string r2, .int .i64 r3]) ∧ Drawn0 w w' := by
  have HG := Aside0.mk hg
  clear hg
  have H : ((num_Take.f k a1 a0).bind fun bt104 => (if bt104.2.2 = 0 then ((num_Skip.f bt104.2.1 bt104.1).bind fun bt107 => (some (bt107.1, bt107.2.1, bt107.2.2))) else (some ((⟨#[]⟩ : ByteArray), (⟨#[]⟩ : ByteArray), bt104.2.2)))) = some (r1, r2, r3) := h
  clear h
  replace H := Option.bind_eq_some_iff.mp H
  obtain ⟨⟨t104, t105, t106⟩, A30, H⟩ := H
  replace H : (if t106 = 0 then ((num_Skip.f t105 t104).bind fun bt107 => (some (bt107.1, bt107.2.1, bt107.2.2))) else (some ((⟨#[]⟩ : ByteArray), (⟨#[]⟩ : ByteArray), t106))) = some (r1, r2, r3) := H
  have A3 := Aside0.mk A30
  clear A30
  by_cases c4 : t106 = 0
  · rw [if_pos c4] at H
    have c4b0 : (t106 == 0) = true := beq_iff_eq.mpr c4
    have c4b1 : (t106 != 0) = false := bne_eq_false_iff_eq.mpr c4
    clear c4
    replace H := Option.bind_eq_some_iff.mp H
    obtain ⟨⟨t107, t108, t109⟩, A50, H⟩ := H
    replace H : (some (t107, t108, t109)) = some (r1, r2, r3) := H
    have A5 := Aside0.mk A50
    clear A50
    simp only [Option.some.injEq, Prod.mk.injEq] at H
    obtain ⟨rfl, rfl, rfl⟩ := H
    go_enter Tryd.func49, Tryd.ntmps49
    go_wp2_with (first | ((with_reducible refine gate_callee (f := 37) rfl ?_); refine goesL_ (some 13) rfl rfl Tryd.func37 (by kernel_rfl) rfl #[.string a1, .int .i64 a0] rfl (by (try simp only [List.map_toArray, List.map_cons, List.map_nil]); first | done | rfl | (simp only [List.length_drop, List.length_take]; rfl)) ?_; (with_reducible refine (num_Take.calls k a1 a0 t104 t105 t106 _ ?lg A3.out).mono ?_); (case lg => exact (HG.out.drawn (by repeat (first | exact Drawn0.refl _ | apply Drawn0.step)))); rintro e w' ⟨rfl, ⟨nd, rfl⟩⟩; refine ⟨_, rfl, ?_⟩) | ((with_reducible refine gate_callee (f := 38) rfl ?_); refine goesL_ (some 22) rfl rfl Tryd.func38 (by kernel_rfl) rfl #[.string t105, .int .u64 t104] rfl (by (try simp only [List.map_toArray, List.map_cons, List.map_nil]); first | done | rfl | (simp only [List.length_drop, List.length_take]; rfl)) ?_; (with_reducible refine (num_Skip.calls t105 t104 t107 t108 t109 _ A5.out).mono ?_); rintro e w' ⟨rfl, ⟨nd, rfl⟩⟩; refine ⟨_, rfl, ?_⟩))
    go_ret3
    exact ⟨by first | rfl | (simp; done) | (simp [*]; done), by repeat (first | exact Drawn0.refl _ | apply Drawn0.step)⟩
  · rw [if_neg c4] at H
    have c4b0 : (t106 == 0) = false := beq_eq_false_iff_ne.mpr c4
    have c4b1 : (t106 != 0) = true := bne_iff_ne.mpr c4
    simp only [Option.some.injEq, Prod.mk.injEq] at H
    obtain ⟨rfl, rfl, rfl⟩ := H
    go_enter Tryd.func49, Tryd.ntmps49
    go_wp2_with (first | ((with_reducible refine gate_callee (f := 37) rfl ?_); refine goesL_ (some 13) rfl rfl Tryd.func37 (by kernel_rfl) rfl #[.string a1, .int .i64 a0] rfl (by (try simp only [List.map_toArray, List.map_cons, List.map_nil]); first | done | rfl | (simp only [List.length_drop, List.length_take]; rfl)) ?_; (with_reducible refine (num_Take.calls k a1 a0 t104 t105 t106 _ ?lg A3.out).mono ?_); (case lg => exact (HG.out.drawn (by repeat (first | exact Drawn0.refl _ | apply Drawn0.step)))); rintro e w' ⟨rfl, ⟨nd, rfl⟩⟩; refine ⟨_, rfl, ?_⟩))
    go_ret3
    exact ⟨by first | rfl | (simp; done) | (simp [*]; done), by repeat (first | exact Drawn0.refl _ | apply Drawn0.step)⟩


end Go.Proofs.YthdkmohelampbaaDoor.F
namespace Go.Proofs.YthdkmohelampbaaDoor.F
open Go.RowKit Go.Proofs.YthdkmohelampbaaDoorW.PrintWords Go.Proofs.YthdkmohelampbaaDoorW.PrintLast Go.Proofs.YthdkmohelampbaaDoorW.PrintMore
set_option linter.unusedVariables false
set_option linter.unusedSimpArgs false

def text_TakeShort.f (k : Nat) (a0 : ByteArray) : Option (ByteArray × ByteArray × Int) := text_kind_take.f k 1 a0
def text_TakeLong.f (k : Nat) (a0 : ByteArray) : Option (ByteArray × ByteArray × Int) := text_kind_take.f k 4 a0
theorem text_TakeShort.mono (a0 : ByteArray) (k : Nat) : LeO (text_TakeShort.f k a0) (text_TakeShort.f (k + 1) a0) := text_kind_take.mono 1 a0 k
theorem text_TakeLong.mono (a0 : ByteArray) (k : Nat) : LeO (text_TakeLong.f k a0) (text_TakeLong.f (k + 1) a0) := text_kind_take.mono 4 a0 k
theorem text_TakeShort.calls (k : Nat) (a0 : ByteArray) (r1 r2 : ByteArray) (r3 : Int) (w : World) (hg : Laid w) (h : text_TakeShort.f k a0 = some (r1, r2, r3)) :
    Calls Tryd.prog 39 #[.string a0] w fun e w' => e = .returned (.tuple #[.string r1, .string r2, .int .i64 r3]) ∧ Drawn0 w w' := by
  have HG := Aside0.mk hg
  have HH := Aside0.mk h
  clear hg h
  have hmf : ∀ (fn : Fn) (first cap : Array Value) (w : World), (Instr.makeFunc fn first cap).run Tryd.prog w = .ok (.func fn first cap) w := fun _ _ _ _ => rfl
  go_enter Tryd.func39, Tryd.ntmps39
  go_wp2_with (go_at_call 49; refine (text_kind_take.calls k 1 a0 r1 r2 r3 _ HG.out HH.out).mono ?_; rintro e w' ⟨rfl, ⟨nd, rfl⟩⟩)
  go_ret3
  exact ⟨rfl, ⟨nd, rfl⟩⟩
theorem text_TakeLong.calls (k : Nat) (a0 : ByteArray) (r1 r2 : ByteArray) (r3 : Int) (w : World) (hg : Laid w) (h : text_TakeLong.f k a0 = some (r1, r2, r3)) :
    Calls Tryd.prog 44 #[.string a0] w fun e w' => e = .returned (.tuple #[.string r1, .string r2, .int .i64 r3]) ∧ Drawn0 w w' := by
  have HG := Aside0.mk hg
  have HH := Aside0.mk h
  clear hg h
  have hmf : ∀ (fn : Fn) (first cap : Array Value) (w : World), (Instr.makeFunc fn first cap).run Tryd.prog w = .ok (.func fn first cap) w := fun _ _ _ _ => rfl
  go_enter Tryd.func44, Tryd.ntmps44
  go_wp2_with (go_at_call 49; refine (text_kind_take.calls k 4 a0 r1 r2 r3 _ HG.out HH.out).mono ?_; rintro e w' ⟨rfl, ⟨nd, rfl⟩⟩)
  go_ret3
  exact ⟨rfl, ⟨nd, rfl⟩⟩
end Go.Proofs.YthdkmohelampbaaDoor.F
namespace Go.Proofs.YthdkmohelampbaaDoor.F
open Go.RowKit Go.Proofs.YthdkmohelampbaaDoorW.PrintWords Go.Proofs.YthdkmohelampbaaDoorW.PrintLast Go.Proofs.YthdkmohelampbaaDoorW.PrintMore
set_option linter.unusedVariables false
set_option linter.unusedSimpArgs false

theorem tlay_k {k : Nat} (hk : 12 ≤ k) (n : Int) (s : ByteArray) (hz : s.size ≤ 4611686018427387904) : text_kind_lay.f k n s = some (layR n s) := by
  unfold text_kind_lay.f layR
  rw [wrapU (by omega) (by omega), put_k hk n _ (by omega) (by omega), Option.bind_some]
  by_cases e : (putR n s.size).2 = 0
  · have := put_size n s.size
    rw [if_pos e, if_pos e, if_pos (by omega)]
  · rw [if_neg e, if_neg e]
theorem ttake_k {k : Nat} (hk : 12 ≤ k) (n : Int) (s : ByteArray) (hz : s.size ≤ 4611686018427387904) : text_kind_take.f k n s = some (ltakeR n s) := by
  unfold text_kind_take.f ltakeR
  rw [take_k hk, Option.bind_some]
  by_cases e : (takeR s n).2.2 = 0
  · have hr := take_rest s n
    have hb := (take_bound s n).1
    rw [if_pos e, if_pos e]
    unfold num_Skip.f
    rw [wrapU (by omega) (by omega)]
    by_cases l : (takeR s n).1 ≤ ((takeR s n).2.1.size : Int)
    · rw [if_neg (by omega), if_pos (by omega), if_pos l, Option.bind_some, if_pos l]
    · rw [if_pos (by omega), if_neg l]; rfl
  · rw [if_neg e, if_neg e]
theorem short_k {k : Nat} (hk : 12 ≤ k) (s : ByteArray) (hz : s.size ≤ 4611686018427387904) : text_Short.f k s = some (layR 1 s) := tlay_k hk 1 s hz
theorem long_k {k : Nat} (hk : 12 ≤ k) (s : ByteArray) (hz : s.size ≤ 4611686018427387904) : text_Long.f k s = some (layR 4 s) := tlay_k hk 4 s hz
theorem tshort_k {k : Nat} (hk : 12 ≤ k) (s : ByteArray) (hz : s.size ≤ 4611686018427387904) : text_TakeShort.f k s = some (ltakeR 1 s) := ttake_k hk 1 s hz
theorem tlong_k {k : Nat} (hk : 12 ≤ k) (s : ByteArray) (hz : s.size ≤ 4611686018427387904) : text_TakeLong.f k s = some (ltakeR 4 s) := ttake_k hk 4 s hz
end Go.Proofs.YthdkmohelampbaaDoor.F
namespace Go.Proofs.YthdkmohelampbaaDoor.F
open Go.RowKit Go.Proofs.YthdkmohelampbaaDoorW.PrintWords Go.Proofs.YthdkmohelampbaaDoorW.PrintLast Go.Proofs.YthdkmohelampbaaDoorW.PrintMore
set_option linter.unusedVariables false
set_option linter.unusedSimpArgs false
open Go.Maps
attribute [local go_sem] max_two

theorem skip_f (s : ByteArray) (n : Int) (h0 : 0 ≤ n) (hz : s.size ≤ 4611686018427387904) : num_Skip.f s n = some (skipR s n) := by
  unfold num_Skip.f skipR
  rw [wrapU (by omega) (by omega)]
  by_cases h : n ≤ (s.size : Int)
  · rw [if_neg (by omega), if_pos h0, if_pos h, if_pos h]
  · rw [if_pos (by omega), if_neg h]
/-- A taker in block B, its sizes in block M. -/
def TK (w0 : World) (B M : Nat) (d : Int) (W : World) : Prop :=
  W.heap[B]? = some (.cells #[.map (some M), .int .i64 d] 52 (0, 0)) ∧ SizesAt M W ∧ w0.heap.size ≤ B ∧ M ≠ B ∧ Below w0.heap.size w0 W
theorem TK.cell0 {w0 : World} {B M : Nat} {d : Int} {W : World} (h : TK w0 B M d W) : W.cell? ⟨B, 0, none⟩ = some (.map (some M)) := (blk_cell h.1 0).trans rfl
theorem TK.cell1 {w0 : World} {B M : Nat} {d : Int} {W : World} (h : TK w0 B M d W) : W.cell? ⟨B, 1, none⟩ = some (.int .i64 d) := (blk_cell h.1 1).trans rfl
theorem TK.free1 {w0 : World} {B M : Nat} {d : Int} {W : World} (h : TK w0 B M d W) : W.frozen? ⟨B, 1, none⟩ = false := blk_frozen h.1 1
theorem TK.below {w0 : World} {B M : Nat} {d : Int} {W W' : World} (h : TK w0 B M d W) (hb : Below W.heap.size W W') : TK w0 B M d W' := by
  obtain ⟨h1, h2, h3, h4, h5⟩ := h
  have hM : M < W.heap.size := by
    obtain ⟨_, _, hm, _⟩ := h2
    exact (Array.getElem?_eq_some_iff.1 hm).1
  refine ⟨blk_below h1 hb, ?_, h3, h4, h5.trans (hb.mono (by have := h5.size; omega))⟩
  obtain ⟨es, c, hm, hr⟩ := h2
  exact ⟨es, c, (hb.block M hM).trans hm, hr⟩
theorem TK.drawn {w0 : World} {B M : Nat} {d : Int} {W : World} (h : TK w0 B M d W) (n : Nat) : TK w0 B M d (W.drewN n) := h.below (pw_below_drewN (Below.refl _ _) n)
theorem TK.deep {w0 : World} {B M : Nat} {d : Int} {W : World} (h : TK w0 B M d W) (d' : Int) : TK w0 B M d' (W.setCell ⟨B, 1, none⟩ (.int .i64 d')) := by
  obtain ⟨h1, h2, h3, h4, h5⟩ := h
  exact ⟨blk_put h1 1 _ rfl, h2.setCell h4 _, h3, h4, h5.setCell (p := ⟨B, 1, none⟩) h3 _⟩
theorem TK.laid {w0 : World} {B M : Nat} {d : Int} {W : World} (h : TK w0 B M d W) (hL : Laid w0) : Laid W := hL.below h.2.2.2.2
theorem ba_empty {s : ByteArray} (h : s.size = 0) : s = ⟨#[]⟩ := by
  obtain ⟨d⟩ := s
  have : d = #[] := Array.eq_empty_of_size_eq_zero h
  rw [this]
theorem not_empty {s : ByteArray} (h : ¬ s.size = 0) : (!s.toList.isEmpty) = true := by
  have : s.toList ≠ [] := fun e => h (by rw [toList_data] at e; rw [← size_list, e]; rfl)
  cases hs : s.toList with
  | nil => exact absurd hs this
  | cons a l => rfl
/-- How the taking of one item ends. -/
def VPost (w0 : World) (B M : Nat) (t : Tk) (e : Ending) (W' : World) : Prop := e = .returned (.tuple #[.string t.1, .int .i64 t.2.1]) ∧ TK w0 B M t.2.2 W'
set_option maxHeartbeats 4000000 in
set_option maxRecDepth 100000 in
theorem within_calls (w0 : World) (hL : Laid w0) (B M : Nat) (f : Nat) (one : ByteArray → Int → Int → Tk) (hless : Less one) (s : ByteArray) (hz : s.size ≤ 4611686018427387904) (depth : Int) (hd0 : 0 ≤ depth) (hd1 : depth ≤ 33) (hen : ∀ args w, (callFunc f args).run Tryd.prog w = .ok (.enter f args) w)
    (hone : ∀ (i : ByteArray) (d : Int) (W : World), i.size < s.size → depth ≤ 32 → TK w0 B M d W → Calls Tryd.prog f #[.pointer (some ⟨B, 0, none⟩), .string i, .int .i64 depth] W (VPost w0 B M (one i depth d)))
    (d : Int) (W : World) (hT : TK w0 B M d W) :
    Calls Tryd.prog 24 #[.pointer (some ⟨B, 0, none⟩), .string s, .int .i64 depth, .func (.func f) #[.pointer (some ⟨B, 0, none⟩)] #[]] W (VPost w0 B M (withinR one s depth d)) := by
  have hLW := Aside0.mk (hT.laid hL)
  have htk := Aside0.mk (take_k (k := 12) (by decide) s 4)
  have hr := take_rest s 4
  have hb := (take_bound s 4).1
  have hlt : ltakeR 4 s = if (takeR s 4).2.2 = 0 then skipR (takeR s 4).2.1 (takeR s 4).1 else (⟨#[]⟩, ⟨#[]⟩, (takeR s 4).2.2) := by
    unfold ltakeR skipR; rfl
  have hsm := ltake_less (n := 4) (t := s)
  have hsk := skip_f (takeR s 4).2.1 (takeR s 4).1 hb (by omega)
  generalize hw : withinR one s depth d = res
  unfold withinR at hw
  rw [hlt] at hw hsm
  generalize takeR s 4 = t at htk hr hb hsk hw hsm
  obtain ⟨t1, t2, t3⟩ := t
  simp only at hr hb hsk hw hsm
  clear hlt
  by_cases e : t3 = 0
  · subst e
    rw [if_pos rfl] at hw hsm
    generalize skipR t2 t1 = q at hsk hw hsm
    obtain ⟨q1, q2, q3⟩ := q
    simp only at hw hsm
    have HSK := Aside0.mk hsk
    clear hsk hr hb
    by_cases e : q3 = 0
    · subst e
      replace hsm := hsm rfl (by decide) isW4
      rw [if_pos rfl] at hw
      by_cases hd : depth ≤ 32
      · rw [if_pos hd] at hw
        have hd3 : decide (32 < depth) = false := by simpa using hd
        have hc1 := hT.cell1
        have hf1 := hT.free1
        have hTD := fun n d' => (hT.drawn n).deep d'
        obtain ⟨dm, hdm⟩ : ∃ dm, (if d < depth then depth else d) = dm := ⟨_, rfl⟩
        have hmx : ∀ k k', Builtin.max2 (.int k d) (.int k' depth) = pure (.int k dm) := by intro k k'; rw [max2_int, hdm]
        rw [hdm] at hw
        clear hdm
        have HW := Aside0.mk hw
        clear hw
        have HSM := Aside0.mk hsm
        clear hsm
        go_enter Tryd.func24, Tryd.ntmps24
        go_wp2
        go_step3
        go_wp2_with (first | (go_at_call 37; (with_reducible refine (num_Take.calls 12 s 4 t1 t2 0 _ hLW.out htk.out).mono ?_); rintro e w' ⟨rfl, ⟨nd, rfl⟩⟩) | (go_at_call 38; (with_reducible refine (num_Skip.calls t2 t1 q1 q2 0 _ HSK.out).mono ?_); rintro e w' ⟨rfl, ⟨nd2, rfl⟩⟩))
        rename_i K hK
        replace hK := Aside0.mk hK
        go_step3
        refine hK.out _ _ ?_
        have hTL := Aside0.mk (hTD (nd + nd2) dm)
        clear hTD hc1 hf1 hmx hT
        generalize (((W.drewN (nd + nd2)).setCell ⟨B, 1, none⟩ (.int .i64 dm))) = WL at hTL
        go_wp2
        go_loopw [12, 13] (fun v12 v13 wr => ∃ (i : ByteArray) (d' : Int) (k : Nat), v12 = .int .i64 0 ∧ v13 = .string i ∧ TK w0 B M d' wr ∧ Aside0 (i.size ≤ k) ∧ Aside0 (i.size ≤ q1.size) ∧ Aside0 (itemsR one k i depth d' = itemsR one q1.size q1 depth dm)) (fun _ v13 _ => match v13 with | .string i => i.size | _ => 0)
        case atStart => exact ⟨q1, dm, q1.size, rfl, rfl, hTL.out, ⟨Nat.le_refl _⟩, ⟨Nat.le_refl _⟩, ⟨rfl⟩⟩
        case round =>
          obtain ⟨i, d', k, rfl, rfl, hTR, hk, hq, hit⟩ := hrel
          by_cases h0 : i.size = 0
          · have ei : i = ⟨#[]⟩ := ba_empty h0
            subst ei
            have hri : itemsR one k ⟨#[]⟩ depth d' = (0, d') := by cases k <;> rfl
            have hres : res = (q2, 0, d') := by rw [← HW.out, ← hit.out, hri]
            subst hres
            go_wp2
            rw [Exit.noGoto_ret]
            go_ret2
            exact ⟨rfl, hTR⟩
          · have hne : (!i.toList.isEmpty) = true := not_empty h0
            obtain ⟨k, rfl⟩ : ∃ k', k = k' + 1 := ⟨k - 1, by have := hk.out; omega⟩
            have hit' := hit.out
            rw [itemsR, if_neg h0] at hit'
            have hO := hone i d' wr (by have := HSM.out; have := hq.out; omega) hd hTR
            have hlo := hless i depth d'
            generalize one i depth d' = o at hit' hO hlo
            obtain ⟨o1, o2, o3⟩ := o
            simp only at hit' hlo
            rw [← hit'] at HW
            by_cases e2 : o2 = 2
            · subst e2
              go_wp2_with (first | (refine hO.mono ?_; rintro e w' ⟨rfl, hT2⟩))
              rw [Exit.noGoto_ret]
              go_ret2
              have hres : res = (q2, 3, o3) := by rw [← HW.out]; rfl
              subst hres
              exact ⟨rfl, hT2⟩
            · rw [if_neg e2] at hit' HW
              have e2' : (o2 == 2) = false := by simpa using e2
              by_cases e0 : o2 = 0
              · subst e0
                go_wp2_with (first | (refine hO.mono ?_; rintro e w' ⟨rfl, hT2⟩))
                exact ⟨⟨o1, o3, k, rfl, rfl, hT2, ⟨by have := hlo trivial; have := hk.out; omega⟩, ⟨by have := hlo trivial; have := hq.out; omega⟩, ⟨by rw [← hit', if_pos trivial]⟩⟩, hlo trivial⟩
              · have e0' : (o2 != 0) = true := by simpa using e0
                go_wp2_with (first | (refine hO.mono ?_; rintro e w' ⟨rfl, hT2⟩))
                rw [Exit.noGoto_ret]
                go_ret2
                have hres : res = (q2, o2, o3) := by rw [← HW.out, if_neg e0]
                subst hres
                exact ⟨rfl, hT2⟩
      · rw [if_neg hd] at hw
        have hd3 : decide (32 < depth) = true := by simpa using hd
        subst hw
        clear hsm
        go_enter Tryd.func24, Tryd.ntmps24
        go_wp2
        go_step3
        go_wp2_with (first | (go_at_call 37; (with_reducible refine (num_Take.calls 12 s 4 t1 t2 0 _ hLW.out htk.out).mono ?_); rintro e w' ⟨rfl, ⟨nd, rfl⟩⟩) | (go_at_call 38; (with_reducible refine (num_Skip.calls t2 t1 q1 q2 0 _ HSK.out).mono ?_); rintro e w' ⟨rfl, ⟨nd2, rfl⟩⟩))
        rw [Exit.noGoto_ret]
        go_ret2
        exact ⟨rfl, hT.drawn _⟩
    · rw [if_neg e] at hw
      have e1 : (q3 != 0) = true := by simpa using e
      subst hw
      clear hsm
      go_enter Tryd.func24, Tryd.ntmps24
      go_wp2
      go_step3
      go_wp2_with (first | (go_at_call 37; (with_reducible refine (num_Take.calls 12 s 4 t1 t2 0 _ hLW.out htk.out).mono ?_); rintro e w' ⟨rfl, ⟨nd, rfl⟩⟩) | (go_at_call 38; (with_reducible refine (num_Skip.calls t2 t1 q1 q2 q3 _ HSK.out).mono ?_); rintro e w' ⟨rfl, ⟨nd2, rfl⟩⟩))
      rw [Exit.noGoto_ret]
      go_ret2
      exact ⟨rfl, hT.drawn _⟩
  · have e1 : (t3 != 0) = true := by simpa using e
    have hres : res = (⟨#[]⟩, t3, d) := by
      rw [← hw, if_neg e]
      simp only
      rw [if_neg e]
    subst hres
    clear hsm hsk hw e
    go_enter Tryd.func24, Tryd.ntmps24
    go_wp2
    go_step3
    go_wp2_with (first | (go_at_call 37; (with_reducible refine (num_Take.calls 12 s 4 t1 t2 t3 _ hLW.out htk.out).mono ?_); rintro e w' ⟨rfl, ⟨nd, rfl⟩⟩))
    rw [Exit.noGoto_ret]
    go_ret2
    exact ⟨rfl, hT.drawn nd⟩
end Go.Proofs.YthdkmohelampbaaDoor.F
namespace Go.Proofs.YthdkmohelampbaaDoor.F
open Go.RowKit Go.Proofs.YthdkmohelampbaaDoorW.PrintWords Go.Proofs.YthdkmohelampbaaDoorW.PrintLast Go.Proofs.YthdkmohelampbaaDoorW.PrintMore
set_option linter.unusedVariables false
set_option linter.unusedSimpArgs false
open Go.Maps
set_option maxHeartbeats 4000000 in
set_option maxRecDepth 100000 in
theorem field_calls (w0 : World) (hL : Laid w0) (B M : Nat) (val : ByteArray → Int → Int → Tk) (s : ByteArray) (hz : s.size ≤ 4611686018427387904) (depth : Int)
    (hval : ∀ (i : ByteArray) (d : Int) (W : World), i.size ≤ s.size → TK w0 B M d W → Calls Tryd.prog 33 #[.pointer (some ⟨B, 0, none⟩), .string i, .int .i64 depth] W (VPost w0 B M (val i depth d)))
    (d : Int) (W : World) (hT : TK w0 B M d W) :
    Calls Tryd.prog 25 #[.pointer (some ⟨B, 0, none⟩), .string s, .int .i64 depth] W (VPost w0 B M (fieldR val s depth d)) := by
  have hLW := Aside0.mk (hT.laid hL)
  have htk := Aside0.mk (tshort_k (k := 12) (by decide) s hz)
  have hsm := ltake_less (n := 1) (t := s)
  generalize hw : fieldR val s depth d = res
  unfold fieldR at hw
  generalize ltakeR 1 s = t at htk hw hsm
  obtain ⟨t1, t2, t3⟩ := t
  simp only at hw hsm
  by_cases e : t3 = 0
  · subst e
    rw [if_pos rfl] at hw
    have hv := fun nd => hval t2 d (W.drewN nd) (by have := hsm rfl (by decide) isW1; omega) (hT.drawn nd)
    rw [hw] at hv
    clear hw hsm
    go_enter Tryd.func25, Tryd.ntmps25
    go_wp2_with (first | (go_at_call 39; (with_reducible refine (text_TakeShort.calls 12 s t1 t2 0 _ hLW.out htk.out).mono ?_); rintro e w' ⟨rfl, ⟨nd, rfl⟩⟩) | (go_at_call 33; refine (hv nd).mono ?_; rintro e w' ⟨rfl, hT2⟩))
    go_ret2
    exact ⟨rfl, hT2⟩
  · rw [if_neg e] at hw
    have e1 : (t3 != 0) = true := by simpa using e
    subst hw
    clear hsm
    go_enter Tryd.func25, Tryd.ntmps25
    go_wp2_with (first | (go_at_call 39; (with_reducible refine (text_TakeShort.calls 12 s t1 t2 t3 _ hLW.out htk.out).mono ?_); rintro e w' ⟨rfl, ⟨nd, rfl⟩⟩))
    go_ret2
    exact ⟨rfl, hT.drawn nd⟩
theorem kindOf_at {s : ByteArray} (h : 0 < s.size) : (kindOf s : Int) = ((s[0]'h).toNat : Int) := by
  unfold kindOf
  obtain ⟨⟨l⟩⟩ := s
  cases l with
  | nil => exact absurd h (by decide)
  | cons a l => rfl
theorem sizes_wf (b : UInt8) : (Lit.int .u8 (b.toNat : Int)).wf = true := by
  have h : ∀ n : Fin 256, (Lit.int .u8 (n.val : Int)).wf = true := by decide +kernel
  exact h ⟨b.toNat, b.toNat_lt⟩
theorem sizes_zero (w : World) : (zeroValue 75).run Tryd.prog w = .ok (.int .u64 0) w := rfl
set_option maxHeartbeats 4000000 in
set_option maxRecDepth 100000 in
theorem value_calls (w0 : World) (hL : Laid w0) (B M : Nat) : ∀ (k : Nat) (s : ByteArray) (hz : s.size ≤ 4611686018427387904) (hk : s.size < k) (depth : Int) (hd0 : 0 ≤ depth) (hd1 : depth ≤ 32) (d : Int) (W : World) (hT : TK w0 B M d W),
    Calls Tryd.prog 33 #[.pointer (some ⟨B, 0, none⟩), .string s, .int .i64 depth] W (VPost w0 B M (valR k s depth d)) := by
  intro k
  induction k with
  | zero => intro s hz hk; omega
  | succ k ih =>
    intro s hz hk depth hd0 hd1 d W hT
    have hLW := Aside0.mk (hT.laid hL)
    have hc0 := hT.cell0
    have hSz := hT.2.1
    generalize hw : valR (k + 1) s depth d = res
    rw [valR] at hw
    by_cases h0 : s.size = 0
    · rw [if_pos h0] at hw
      have ei : s = ⟨#[]⟩ := ba_empty h0
      subst ei
      subst hw
      clear hSz hc0
      go_enter Tryd.func33, Tryd.ntmps33
      go_wp2
      go_ret2
      exact ⟨rfl, hT⟩
    · rw [if_neg h0] at hw
      have hne : s.toList.isEmpty = false := by have := not_empty h0; rwa [Bool.not_eq_true'] at this
      have hpos : 0 < s.size := by omega
      obtain ⟨b, hb⟩ : ∃ b : UInt8, kindOf s = b.toNat := ⟨_, rfl⟩
      have hx : ∀ h : 0 < s.size, ((s[0]'h).toNat : Int) = (b.toNat : Int) := by intro h; rw [← hb, kindOf_at h]
      have hwf := sizes_wf b
      have hhas := sizes_has b
      have hat := sizes_at b
      have hts := tail_size h0
      have htl : s.extract 1 s.size = tailOf s := rfl
      rw [hb] at hw
      clear hb
      generalize b.toNat = c at hx hwf hhas hat hw
      have hlk : ∃ c2 : Int, (∀ n, (Instr.lookup 49 (.map (some M)) (.int .u8 c) true).run Tryd.prog (W.drewN n) = .ok (.tuple #[.int .u64 c2, .bool (sizeU c).isSome]) (W.drewN n)) ∧ c2 = ((sizeU c).getD 0 : Nat) := by
        obtain ⟨v, ps, hrun, hv⟩ := hSz.look_ok sizes_keyed Tryd.underlying49 (sizes_zero W) (plainElem_int Tryd.underlying75 (by decide)) (keyOf_int_mk Tryd.underlying5 hwf)
        obtain ⟨c2, rfl, hc2, -⟩ := plainElem_int_inv Tryd.underlying75 hv
        refine ⟨c2, fun n => ?_, hat c2 (congrArg Prod.fst hc2)⟩
        obtain ⟨v', ps', hrun', hv'⟩ := (hT.drawn n).2.1.look_ok sizes_keyed Tryd.underlying49 (sizes_zero _) (plainElem_int Tryd.underlying75 (by decide)) (keyOf_int_mk Tryd.underlying5 hwf)
        obtain ⟨c3, rfl, hc3, -⟩ := plainElem_int_inv Tryd.underlying75 hv'
        rw [hrun', hhas, hat c3 (congrArg Prod.fst hc3), ← hat c2 (congrArg Prod.fst hc2)]
      obtain ⟨c2, hlk, hc2⟩ := hlk
      clear hhas hat hSz hwf
      cases hs : sizeU c with
      | some n =>
        rw [hs] at hw hlk hc2
        obtain rfl : c2 = (n : Int) := hc2
        have hsk := skip_f (tailOf s) (n : Int) (by omega) (by omega)
        simp only [Option.isSome_some] at hw hlk
        generalize skipR (tailOf s) n = q at hsk hw
        obtain ⟨q1, q2, q3⟩ := q
        simp only at hw
        subst hw
        have HSK := Aside0.mk hsk
        clear hsk hs
        go_enter Tryd.func33, Tryd.ntmps33
        go_wp2
        go_quiet (fail)
        go_wp2_with (first | (go_at_call 38; (refine (num_Skip.calls (tailOf s) n q1 q2 q3 _ HSK.out).mono ?_); rintro e w' ⟨rfl, ⟨nd, rfl⟩⟩))
        go_ret2
        exact ⟨rfl, hT.drawn _⟩
      | none =>
        rw [hs] at hw hlk hc2
        obtain rfl : c2 = (0 : Int) := hc2
        simp only [Option.isSome_none] at hw hlk
        clear hs
        by_cases e1 : c = 83
        · rw [if_pos (.inl e1)] at hw
          rw [show (c : Int) = 83 from by omega] at hlk hx
          have htk := Aside0.mk (tlong_k (k := 12) (by decide) (tailOf s) (by omega))
          generalize ltakeR 4 (tailOf s) = t at htk hw
          obtain ⟨t1, t2, t3⟩ := t
          simp only at hw
          subst hw
          go_enter Tryd.func33, Tryd.ntmps33
          go_wp2
          go_quiet (fail)
          go_wp2_with (first | (go_at_call 44; (refine (text_TakeLong.calls 12 (tailOf s) t1 t2 t3 _ ((hT.drawn _).laid hL) htk.out).mono ?_); rintro e w' ⟨rfl, ⟨nd, rfl⟩⟩))
          go_ret2
          exact ⟨rfl, hT.drawn _⟩
        by_cases e2 : c = 120
        · rw [if_pos (.inr e2)] at hw
          rw [show (c : Int) = 120 from by omega] at hlk hx
          have htk := Aside0.mk (tlong_k (k := 12) (by decide) (tailOf s) (by omega))
          generalize ltakeR 4 (tailOf s) = t at htk hw
          obtain ⟨t1, t2, t3⟩ := t
          simp only at hw
          subst hw
          go_enter Tryd.func33, Tryd.ntmps33
          go_wp2
          go_quiet (fail)
          go_wp2_with (first | (go_at_call 44; (refine (text_TakeLong.calls 12 (tailOf s) t1 t2 t3 _ ((hT.drawn _).laid hL) htk.out).mono ?_); rintro e w' ⟨rfl, ⟨nd, rfl⟩⟩))
          go_ret2
          exact ⟨rfl, hT.drawn _⟩
        rw [if_neg (by omega)] at hw
        by_cases e3 : c = 65
        · rw [if_pos e3] at hw
          rw [show (c : Int) = 65 from by omega] at hlk hx
          have hwi := fun nd => within_calls w0 hL B M 33 (valR k) (val_less k) (tailOf s) (by omega) (depth + 1) (by omega) (by omega) (fun _ _ => rfl) (fun i d' W' hi hd hT' => ih i (by omega) (by omega) (depth + 1) (by omega) hd d' W' hT') d (W.drewN nd) (hT.drawn nd)
          rw [hw] at hwi
          clear hw
          have hdw : IntKind.i64.wrap (depth + 1) = depth + 1 := by rw [i64_w]; exact wrap64_of (by omega) (by omega)
          go_enter Tryd.func33, Tryd.ntmps33
          go_wp2
          go_quiet (fail)
          go_wp2_with (first | (go_at_call 24; (refine (hwi _).mono ?_); rintro e w' ⟨rfl, hT2⟩))
          go_ret2
          exact ⟨rfl, hT2⟩
        rw [if_neg e3] at hw
        by_cases e4 : c = 70
        · rw [if_pos e4] at hw
          rw [show (c : Int) = 70 from by omega] at hlk hx
          have hwi := fun nd => within_calls w0 hL B M 25 (fieldR (valR k)) (field_less (val_less k)) (tailOf s) (by omega) (depth + 1) (by omega) (by omega) (fun _ _ => rfl) (fun i d' W' hi hd hT' => field_calls w0 hL B M (valR k) i (by omega) (depth + 1) (fun i2 d2 W2 hi2 hT2 => ih i2 (by omega) (by omega) (depth + 1) (by omega) hd d2 W2 hT2) d' W' hT') d (W.drewN nd) (hT.drawn nd)
          rw [hw] at hwi
          clear hw
          have hdw : IntKind.i64.wrap (depth + 1) = depth + 1 := by rw [i64_w]; exact wrap64_of (by omega) (by omega)
          go_enter Tryd.func33, Tryd.ntmps33
          go_wp2
          go_quiet (fail)
          go_wp2_with (first | (go_at_call 24; (refine (hwi _).mono ?_); rintro e w' ⟨rfl, hT2⟩))
          go_ret2
          exact ⟨rfl, hT2⟩
        rw [if_neg e4] at hw
        subst hw
        have c83 : ((c : Int) == 83) = false := beq_eq_false_iff_ne.mpr (by omega)
        have c120 : ((c : Int) == 120) = false := beq_eq_false_iff_ne.mpr (by omega)
        have c65 : ((c : Int) == 65) = false := beq_eq_false_iff_ne.mpr (by omega)
        have c70 : ((c : Int) == 70) = false := beq_eq_false_iff_ne.mpr (by omega)
        go_enter Tryd.func33, Tryd.ntmps33
        go_wp2
        go_quiet (fail)
        go_wp2
        go_ret2
        exact ⟨rfl, hT.drawn _⟩
end Go.Proofs.YthdkmohelampbaaDoor.F
namespace Go.Proofs.YthdkmohelampbaaDoor.F
open Go.RowKit Go.Proofs.YthdkmohelampbaaDoorW.PrintWords Go.Proofs.YthdkmohelampbaaDoorW.PrintLast Go.Proofs.YthdkmohelampbaaDoorW.PrintMore
attribute [local go_sem] max2_int min2_int max_two min_two max_three min_three max_four min_four
set_option linter.unusedVariables false
set_option linter.unusedSimpArgs false

/-! ### table_taken: function 26 -/
def table_taken.f (a0 : ByteArray) (a1 : ByteArray) (a2 : Int) : Option (ByteArray × ByteArray × Int) := if a2 = 0 then (if 0 ≤ (wrap64 ((a0.size : Int) - (a1.size : Int))) then (if (wrap64 ((a0.size : Int) - (a1.size : Int))) ≤ (a0.size : Int) then (some (a0.extract 0 ((wrap64 ((a0.size : Int) - (a1.size : Int))) : Int).toNat, a1, 0)) else (none)) else (none)) else (some ((⟨#[]⟩ : ByteArray), (⟨#[]⟩ : ByteArray), a2))
set_option maxHeartbeats 8000000 in
set_option maxRecDepth 100000 in
theorem table_taken.calls (a0 : ByteArray) (a1 : ByteArray) (a2 : Int) (r1 : ByteArray) (r2 : ByteArray) (r3 : Int) (w : World) (h : table_taken.f a0 a1 a2 = some (r1, r2, r3)) :
    Calls Tryd.prog 26 #[.string a0, .string a1, .int .i64 a2] w fun e w' => e = .returned (.tuple #[.string r1, .string r2, .int .i64 r3]) ∧ Drawn0 w w' := by
  have H : (if a2 = 0 then (if 0 ≤ (wrap64 ((a0.size : Int) - (a1.size : Int))) then (if (wrap64 ((a0.size : Int) - (a1.size : Int))) ≤ (a0.size : Int) then (some (a0.extract 0 ((wrap64 ((a0.size : Int) - (a1.size : Int))) : Int).toNat, a1, 0)) else (none)) else (none)) else (some ((⟨#[]⟩ : ByteArray), (⟨#[]⟩ : ByteArray), a2))) = some (r1, r2, r3) := h
  clear h
  by_cases c4 : a2 = 0
  · rw [if_pos c4] at H
    have c4b0 : (a2 == 0) = true := beq_iff_eq.mpr c4
    have c4b1 : (a2 != 0) = false := bne_eq_false_iff_eq.mpr c4
    clear c4
    obtain ⟨ji5, hji5⟩ : ∃ j_ : Int, (wrap64 ((a0.size : Int) - (a1.size : Int))) = j_ := ⟨_, rfl⟩
    replace H : (if 0 ≤ (ji5) then (if (ji5) ≤ (a0.size : Int) then (some (a0.extract 0 ((ji5) : Int).toNat, a1, 0)) else (none)) else (none)) = some (r1, r2, r3) := by first | (rw [hji5] at H; exact H) | (simp only [hji5] at H ⊢; exact H)
    have hji5w : (IntKind.i64.wrap ((a0.size : Int) - (a1.size : Int))) = ji5 := (i64_w _).trans hji5
    by_cases c6 : 0 ≤ (ji5)
    · rw [if_pos c6] at H
      have c6b0 := eq_true c6
      have c6b1 : decide (0 ≤ (ji5)) = true := decide_eq_true c6
      clear c6
      by_cases c7 : (ji5) ≤ (a0.size : Int)
      · rw [if_pos c7] at H
        have c7b0 := eq_true c7
        have c7b1 : decide ((ji5) ≤ (a0.size : Int)) = true := decide_eq_true c7
        clear c7
        simp only [Option.some.injEq, Prod.mk.injEq] at H
        obtain ⟨rfl, rfl, rfl⟩ := H
        go_enter Tryd.func26, Tryd.ntmps26
        go_wp2
        go_ret3
        exact ⟨by first | rfl | (simp; done) | (simp only [← hji5] <;> (first | rfl | simp)) | (simp [*]; done), by repeat (first | exact Drawn0.refl _ | apply Drawn0.step)⟩
      · rw [if_neg c7] at H
        exact absurd H (by simp)
    · rw [if_neg c6] at H
      exact absurd H (by simp)
  · rw [if_neg c4] at H
    have c4b0 : (a2 == 0) = false := beq_eq_false_iff_ne.mpr c4
    have c4b1 : (a2 != 0) = true := bne_iff_ne.mpr c4
    simp only [Option.some.injEq, Prod.mk.injEq] at H
    obtain ⟨rfl, rfl, rfl⟩ := H
    go_enter Tryd.func26, Tryd.ntmps26
    go_wp2
    go_ret3
    exact ⟨by first | rfl | (simp; done) | (simp [*]; done), by repeat (first | exact Drawn0.refl _ | apply Drawn0.step)⟩


end Go.Proofs.YthdkmohelampbaaDoor.F
namespace Go.Proofs.YthdkmohelampbaaDoor.F
open Go.RowKit Go.Proofs.YthdkmohelampbaaDoorW.PrintWords Go.Proofs.YthdkmohelampbaaDoorW.PrintLast Go.Proofs.YthdkmohelampbaaDoorW.PrintMore
set_option linter.unusedVariables false
set_option linter.unusedSimpArgs false
open Go.Maps
/-- what was taken, and what is left -/
def takenR (s : ByteArray) (t : Tk) : ByteArray × ByteArray × Int := if t.2.1 = 0 then (s.extract 0 (s.size - t.1.size), t.1, 0) else (⟨#[]⟩, ⟨#[]⟩, t.2.1)
def tabR (s : ByteArray) : Tk := withinR (fieldR (valR s.size)) s 1 0
def tvalR (s : ByteArray) : Tk := valR (s.size + 1) s 0 0
def table_Take.f (a0 : ByteArray) : Option (ByteArray × ByteArray × Int) := if a0.size ≤ 4611686018427387904 then some (takenR a0 (tabR a0)) else none
def table_Value.f (a0 : ByteArray) : Option (ByteArray × ByteArray × Int) := if a0.size ≤ 4611686018427387904 then some (takenR a0 (tvalR a0)) else none
theorem taken_f (s : ByteArray) (t : Tk) (hz : s.size ≤ 4611686018427387904) (h : t.2.1 = 0 → t.1.size ≤ s.size) : table_taken.f s t.1 t.2.1 = some (takenR s t) := by
  unfold table_taken.f takenR
  by_cases e : t.2.1 = 0
  · have h := h e
    have e1 : wrap64 ((s.size : Int) - (t.1.size : Int)) = ((s.size - t.1.size : Nat) : Int) := by rw [wrap64_of (by omega) (by omega)]; omega
    rw [if_pos e, if_pos e, e1, if_pos (by omega), if_pos (by omega), Int.toNat_natCast]
  · rw [if_neg e, if_neg e]
theorem tabR_less (s : ByteArray) (h : (tabR s).2.1 = 0) : (tabR s).1.size < s.size := within_less h
theorem tvalR_less (s : ByteArray) (h : (tvalR s).2.1 = 0) : (tvalR s).1.size < s.size := val_less _ _ _ _ h
/-- a new taker -/
theorem TK.make {w w' : World} (hs : SizesAt w.heap.size w') (hb : Below w.heap.size w w') : TK w w'.heap.size w.heap.size 0 (w'.alloc (.cells #[.map (some w.heap.size), .int .i64 0] 52 (0, 0))) := by
  have hM : w.heap.size < w'.heap.size := by
    obtain ⟨_, _, hm, _⟩ := hs
    exact (Array.getElem?_eq_some_iff.1 hm).1
  have hA : Below w'.heap.size w' (w'.alloc (.cells #[.map (some w.heap.size), .int .i64 0] 52 (0, 0))) := (Below.refl _ _).alloc (Nat.le_refl _) _
  refine ⟨?_, ?_, hb.size, by omega, hb.alloc hb.size _⟩
  · exact Array.getElem?_push_size
  · obtain ⟨es, c, hm, hr⟩ := hs
    exact ⟨es, c, (hA.block _ hM).trans hm, hr⟩
/-- a table, taken by a new taker -/
theorem tab_calls {w0 W : World} (hL : Laid w0) {B M : Nat} (s : ByteArray) (hz : s.size ≤ 4611686018427387904) (hT : TK w0 B M 0 W) :
    Calls Tryd.prog 24 #[.pointer (some ⟨B, 0, none⟩), .string s, .int .i64 1, .func (.func 25) #[.pointer (some ⟨B, 0, none⟩)] #[]] W (VPost w0 B M (tabR s)) :=
  within_calls w0 hL B M 25 (fieldR (valR s.size)) (field_less (val_less _)) s hz 1 (by decide) (by decide) (fun _ _ => rfl)
    (fun i d W hi hd hT => field_calls w0 hL B M (valR s.size) i (by omega) 1 (fun i2 d2 W2 hi2 hT2 => value_calls w0 hL B M s.size i2 (by omega) (by omega) 1 (by decide) hd d2 W2 hT2) d W hT) 0 W hT
set_option maxHeartbeats 4000000 in
set_option maxRecDepth 100000 in
theorem table_Take.calls (a0 : ByteArray) (r1 r2 : ByteArray) (r3 : Int) (w : World) (hg : Laid w) (h : table_Take.f a0 = some (r1, r2, r3)) :
    Calls Tryd.prog 11 #[.string a0] w fun e w' => e = .returned (.tuple #[.string r1, .string r2, .int .i64 r3]) ∧ Below w.heap.size w w' := by
  have hz : a0.size ≤ 4611686018427387904 := by
    unfold table_Take.f at h
    by_cases e : a0.size ≤ 4611686018427387904
    · exact e
    · rw [if_neg e] at h; cases h
  have ht := taken_f a0 (tabR a0) hz (fun e => Nat.le_of_lt (tabR_less a0 e))
  unfold table_Take.f at h
  rw [if_pos hz] at h
  rw [h] at ht
  clear h
  have hW := fun w' (hs : SizesAt w.heap.size w') (hb : Below w.heap.size w w') => tab_calls hg a0 hz (TK.make hs hb)
  generalize tabR a0 = t at ht hW
  obtain ⟨t1, t2, t3⟩ := t
  simp only at ht
  go_enter Tryd.func11, Tryd.ntmps11
  go_wp2_with (first | (go_at_call 23; refine (table_sizes.calls _).mono ?_; rintro e w' ⟨rfl, hsz, hb⟩) | (go_at_call 24; refine (hW _ hsz hb).mono ?_; rintro e w2 ⟨rfl, hT⟩) | (go_at_call 26; refine (table_taken.calls _ _ _ _ _ _ _ ht).mono ?_; rintro e w3 ⟨rfl, ⟨nd, rfl⟩⟩))
  refine bodyPost_ret (results_tmp3 rfl _ _ _) rfl ?_
  exact ⟨rfl, hT.2.2.2.2.trans (pw_below_drewN (Below.refl _ _) nd)⟩
set_option maxHeartbeats 4000000 in
set_option maxRecDepth 100000 in
theorem table_Value.calls (a0 : ByteArray) (r1 r2 : ByteArray) (r3 : Int) (w : World) (hg : Laid w) (h : table_Value.f a0 = some (r1, r2, r3)) :
    Calls Tryd.prog 15 #[.string a0] w fun e w' => e = .returned (.tuple #[.string r1, .string r2, .int .i64 r3]) ∧ Below w.heap.size w w' := by
  have hz : a0.size ≤ 4611686018427387904 := by
    unfold table_Value.f at h
    by_cases e : a0.size ≤ 4611686018427387904
    · exact e
    · rw [if_neg e] at h; cases h
  have ht := taken_f a0 (tvalR a0) hz (fun e => Nat.le_of_lt (tvalR_less a0 e))
  unfold table_Value.f at h
  rw [if_pos hz] at h
  rw [h] at ht
  clear h
  have hW : ∀ w', SizesAt w.heap.size w' → Below w.heap.size w w' → Calls Tryd.prog 33 #[.pointer (some ⟨w'.heap.size, 0, none⟩), .string a0, .int .i64 0] _ (VPost w w'.heap.size w.heap.size (tvalR a0)) := fun w' hs hb => value_calls w hg _ _ (a0.size + 1) a0 hz (by omega) 0 (by decide) (by decide) 0 _ (TK.make hs hb)
  generalize tvalR a0 = t at ht hW
  obtain ⟨t1, t2, t3⟩ := t
  simp only at ht
  go_enter Tryd.func15, Tryd.ntmps15
  go_wp2_with (first | (go_at_call 23; refine (table_sizes.calls _).mono ?_; rintro e w' ⟨rfl, hsz, hb⟩) | (go_at_call 33; refine (hW _ hsz hb).mono ?_; rintro e w2 ⟨rfl, hT⟩) | (go_at_call 26; refine (table_taken.calls _ _ _ _ _ _ _ ht).mono ?_; rintro e w3 ⟨rfl, ⟨nd, rfl⟩⟩))
  refine bodyPost_ret (results_tmp3 rfl _ _ _) rfl ?_
  exact ⟨rfl, hT.2.2.2.2.trans (pw_below_drewN (Below.refl _ _) nd)⟩
end Go.Proofs.YthdkmohelampbaaDoor.F
