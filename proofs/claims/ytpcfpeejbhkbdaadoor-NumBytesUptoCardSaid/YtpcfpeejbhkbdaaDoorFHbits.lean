/- The bytes of bits: the contracts of num.Bits and of the closure that sets one bit. -/
import Derived.Test.YtpcfpeejbhkbdaaDoorFbase
namespace Go.Proofs.YtpcfpeejbhkbdaaDoor.F
open Go.RowKit Go.Proofs.YtpcfpeejbhkbdaaDoorW.PrintWords Go.Proofs.YtpcfpeejbhkbdaaDoorW.PrintLast Go.Proofs.YtpcfpeejbhkbdaaDoorW.PrintMore
set_option linter.unusedVariables false
set_option linter.unusedSimpArgs false

set_option maxHeartbeats 1000000 in
theorem num_Bits_set (k : Nat) (g b m : Nat) (x : Int) (W : World) (hk : k / 8 < m) (hm : m ≤ 9223372036854775807) (hx0 : 0 ≤ x) (hx1 : x ≤ 255)
    (hc : W.cell? ⟨g, 0, none⟩ = some (.slice (some ⟨b, 0, none⟩) m m)) (hb : W.cell? ⟨b, k / 8, none⟩ = some (.int .u8 x)) (hf : W.frozen? ⟨b, k / 8, none⟩ = false) :
    Calls Tryd.prog 24 #[.int .i64 k, .pointer (some ⟨g, 0, none⟩)] W fun e w' => e = .returned (.tuple #[]) ∧ (W.setCell ⟨b, k / 8, none⟩ (.int .u8 (bits BinOp.or .u8 x (2 ^ (k % 8) % 256)))).drew = w' := by
  go_enter Tryd.func24, Tryd.ntmps24
  go_wp2
  go_region
  go_end0
  exact ⟨rfl, rfl⟩

/-- The bytes behind k rounds. -/
def bitsUpto (l : List Bool) : Nat → List Int
  | 0 => List.replicate ((l.length + 7) / 8) 0
  | k + 1 => if l.getD k false = true then (bitsUpto l k).set (k / 8) (bits BinOp.or .u8 ((bitsUpto l k).getD (k / 8) 0) (2 ^ (k % 8) % 256)) else bitsUpto l k
theorem bitsUpto_length (l : List Bool) (k : Nat) : (bitsUpto l k).length = (l.length + 7) / 8 := by
  induction k with
  | zero => simp [bitsUpto]
  | succ k ih => unfold bitsUpto; split <;> simp [ih]
theorem bitsUpto_range (l : List Bool) (k : Nat) : ∀ j, 0 ≤ (bitsUpto l k).getD j 0 ∧ (bitsUpto l k).getD j 0 ≤ 255 := by
  induction k with
  | zero => intro j; simp only [bitsUpto, List.getD_eq_getElem?_getD, List.getElem?_replicate]; split <;> simp
  | succ k ih =>
    intro j
    unfold bitsUpto
    split
    · simp only [List.getD_eq_getElem?_getD, List.getElem?_set]
      split
      · split
        · rw [Option.getD_some]; exact ⟨bits_lo_u8 _ _ _, bits_hi_u8 _ _ _⟩
        · simp
      · have := ih j; rwa [List.getD_eq_getElem?_getD] at this
    · exact ih j
def num_Bits.f (l0 : List Bool) : Option ByteArray := if l0.length ≤ 140737488355328 then some (strOfNums (bitsUpto l0 l0.length)) else none

theorem below_setCell_new {B : Nat} {w W : World} (h : Below B w W) {g j : Nat} (hB : B ≤ g) (v : Value) : Below B w (W.setCell ⟨g, j, none⟩ v) :=
  h.setCell (p := ⟨g, j, none⟩) hB v
/-- The row and the variable that holds it. -/
structure BitsW (B : Nat) (xs : List Int) (W : World) : Prop where
  row : W.heap[B]? = some (.cells (nums .u8 xs).toArray 5 (0, 0))
  var : W.heap[B + 1]? = some (.cells #[.slice (some ⟨B, 0, none⟩) xs.length xs.length] 60 (0, 0))
theorem BitsW.set {B : Nat} {xs : List Int} {W : World} (h : BitsW B xs W) (j : Nat) (v : Int) : BitsW B (xs.set j v) (W.setCell ⟨B, j, none⟩ (.int .u8 v)) := by
  refine ⟨?_, ?_⟩
  · rw [heap_setCell_same W B j _ _ _ h.row]
    simp [nums, List.setIfInBounds_toArray, List.map_set]
  · rw [heap_setCell_other _ _ _ _ (by simp), List.length_set]; exact h.var
theorem BitsW.start (w : World) (m : Nat) : BitsW w.heap.size (List.replicate m 0) ((w.alloc (.cells (madeCells #[.int .u8 0] m) 5)).alloc (.cells #[.slice (some ⟨w.heap.size, 0, none⟩) m m] 60)) := by
  refine ⟨?_, ?_⟩
  · rw [heap_alloc_old _ _ (by simp), heap_alloc_new]
    congr 2
    apply Array.ext
    · simp [madeCells, nums]
    · intro i h1 h2; simp [madeCells, nums, Nat.mod_one]
  · have := heap_alloc_new (w.alloc (.cells (madeCells #[.int .u8 0] m) 5)) (.cells #[.slice (some ⟨w.heap.size, 0, none⟩) m m] 60)
    simpa using this
theorem BitsW.cell {B : Nat} {xs : List Int} {W : World} (h : BitsW B xs W) (j : Nat) (hj : j < xs.length) : W.cell? ⟨B, j, none⟩ = some (.int .u8 (xs.getD j 0)) := by
  simp [World.cell?, h.row, nums, hj]
theorem BitsW.vcell {B : Nat} {xs : List Int} {W : World} (h : BitsW B xs W) : W.cell? ⟨B + 1, 0, none⟩ = some (.slice (some ⟨B, 0, none⟩) xs.length xs.length) := by
  simp [World.cell?, h.var]
theorem BitsW.own {B : Nat} {xs : List Int} {W : World} (h : BitsW B xs W) (hm : xs.length ≤ maxLen) : W.ownsRow B 5 1 (.slice (some ⟨B, 0, none⟩) xs.length xs.length) xs.length (nums .u8 xs) :=
  ⟨by simp [nums], .inr ⟨B, xs.length, (nums .u8 xs).toArray, rfl, Nat.le_refl _, h.row, Nat.le_refl _, hm, by simp [nums], by simp only [nums, Nat.mul_one]; exact List.take_of_length_le (by simp)⟩⟩
theorem BitsW.free {B : Nat} {xs : List Int} {W : World} (h : BitsW B xs W) (j : Nat) : W.frozen? ⟨B, j, none⟩ = false := frozen_of_row W B j _ _ h.row

set_option maxHeartbeats 4000000 in
set_option maxRecDepth 100000 in
theorem num_Bits.calls (A0 : Option Addr) (c0 : Nat) (l0 : List Bool) (r : ByteArray) (w : World) (hr0 : Kd.C Kd.bool w A0 l0.length l0) (hc0 : l0.length ≤ c0) (h : num_Bits.f l0 = some r) :
    Calls Tryd.prog 13 #[.slice A0 l0.length c0] w fun e w' => e = .returned (.string r) ∧ Below w.heap.size w w' := by
  unfold num_Bits.f at h
  split at h
  rotate_left
  · cases h
  rename_i hl
  have HR := Aside0.mk hr0
  have HH := Aside0.mk (Option.some.inj h)
  clear h hr0
  have hmf : ∀ (fn : Fn) (first cap : Array Value) (w : World), (Instr.makeFunc fn first cap).run Tryd.prog w = .ok (.func fn first cap) w := fun _ _ _ _ => rfl
  have hmk : ∀ W : World, (Instr.makeSlice 60 (.int .i64 (((l0.length : Int) + 7) / 8)) (.int .i64 (((l0.length : Int) + 7) / 8))).run Tryd.prog W = .ok (.slice (some ⟨W.heap.size, 0, none⟩) ((l0.length + 7) / 8) ((l0.length + 7) / 8)) (W.alloc (.cells (madeCells #[.int .u8 0] ((l0.length + 7) / 8)) 5)) := by
    have e : (((l0.length : Int) + 7) / 8) = (((l0.length + 7) / 8 : Nat) : Int) := by omega
    rw [e]
    exact print_make 60 5 .u8 1 Tryd.underlying60 info5 (by decide) _ (by omega)
  go_enter Tryd.func13, Tryd.ntmps13
  go_wp2
  go_loopw [15] (fun v wr => ∃ k : Nat, v = .int .i64 k ∧ Aside0 (k ≤ l0.length) ∧ Aside0 (BitsW w.heap.size (bitsUpto l0 k) wr) ∧ Aside0 (Below w.heap.size w wr)) (fun v _ => l0.length - (intOf v).toNat)
  case atStart => exact ⟨0, rfl, ⟨Nat.zero_le _⟩, ⟨BitsW.start w _⟩, ⟨below_alloc (below_alloc (Below.refl _ _) _) _⟩⟩
  case round =>
    obtain ⟨k, rfl, hk, hw, hb⟩ := hrel
    have hlen := bitsUpto_length l0 k
    by_cases hlt : k < l0.length
    · have hrk := Kd.C_below HR.out hb.out
      obtain ⟨ad, hA, hc⟩ := Kd.at_bool hrk (k : Int) (by omega) (by omega)
      rw [Int.toNat_natCast] at hc
      have hv := hw.out.vcell
      have hcell := hw.out.cell (k / 8) (by omega)
      have hfree := hw.out.free (k / 8)
      rw [hlen] at hv
      have hrg := bitsUpto_range l0 k (k / 8)
      subst hA
      have hset := hw.out.set (k / 8) (bits BinOp.or .u8 ((bitsUpto l0 k).getD (k / 8) 0) (2 ^ (k % 8) % 256))
      have hstep : bitsUpto l0 (k + 1) = if l0.getD k false = true then (bitsUpto l0 k).set (k / 8) (bits BinOp.or .u8 ((bitsUpto l0 k).getD (k / 8) 0) (2 ^ (k % 8) % 256)) else bitsUpto l0 k := rfl
      have hrd : rdOf false l0 (k : Int) = l0.getD k false := rfl
      rw [hrd] at hc
      generalize hx : (bitsUpto l0 k).getD (k / 8) 0 = x at hcell hrg hset hstep
      generalize hbk : l0.getD k false = bk at hc hstep
      have Hstep := Aside0.mk hstep
      have Hset := Aside0.mk hset
      clear hstep hset hx hbk hrd hlen
      cases bk with
      | true =>
        go_wp2_with (go_at_call 24; refine (num_Bits_set k (w.heap.size + 1) w.heap.size ((l0.length + 7) / 8) x _ (by omega) (by omega) hrg.1 hrg.2 hv hcell hfree).mono ?_; rintro e w' ⟨rfl, rfl⟩)
        go_roundw
        case measure => simp [intOf]; omega
        case rel => exact ⟨k + 1, by go_num, ⟨hlt⟩, ⟨by rw [Hstep.out]; simp only [if_true]; exact ⟨Hset.out.row, Hset.out.var⟩⟩, ⟨below_drew (below_setCell_new hb.out (Nat.le_refl _) _)⟩⟩
      | false =>
        go_wp2_with fail
        go_roundw
        case measure => simp [intOf]; omega
        case rel => exact ⟨k + 1, by go_num, ⟨hlt⟩, ⟨by rw [Hstep.out]; simp only [Bool.false_eq_true, if_false]; exact hw.out⟩, hb⟩
    · obtain rfl : k = l0.length := by have := hk.out; omega
      have hv := hw.out.vcell
      have hcv := own_string (src := 60) (dst := 9) Tryd.underlying60 Tryd.underlying5 Tryd.underlying9 (hw.out.own (by rw [hlen]; unfold maxLen; omega))
      rw [HH.out] at hcv
      clear hlen
      go_wp2
      go_ret
      exact ⟨rfl, hb.out⟩
end Go.Proofs.YtpcfpeejbhkbdaaDoor.F
