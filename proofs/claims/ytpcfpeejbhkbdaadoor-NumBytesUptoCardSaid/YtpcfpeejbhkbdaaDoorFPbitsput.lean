/- What num.Bits computes: sums of powers of two. -/
import Derived.Test.YtpcfpeejbhkbdaaDoorFPbits
import Derived.Test.YtpcfpeejbhkbdaaDoorFHbits
namespace Go.Proofs.YtpcfpeejbhkbdaaDoor.F
open Go.RowKit Go.Proofs.YtpcfpeejbhkbdaaDoorW.PrintWords Go.Proofs.YtpcfpeejbhkbdaaDoorW.PrintLast Go.Proofs.YtpcfpeejbhkbdaaDoorW.PrintMore
set_option linter.unusedVariables false
set_option linter.unusedSimpArgs false

/-- The number whose bits f tells. -/
def psum (f : Nat → Bool) : Nat → Nat
  | 0 => 0
  | j + 1 => psum f j + if f j = true then 2 ^ j else 0
theorem psum_lt (f : Nat → Bool) : ∀ n, psum f n < 2 ^ n
  | 0 => by simp [psum]
  | n + 1 => by
    have := psum_lt f n
    simp only [psum, Nat.pow_succ]
    split <;> omega
theorem psum_congr {f g : Nat → Bool} : ∀ {n : Nat}, (∀ j, j < n → f j = g j) → psum f n = psum g n
  | 0, _ => rfl
  | n + 1, h => by
    simp only [psum]
    rw [psum_congr (n := n) (fun j hj => h j (by omega)), h n (by omega)]
theorem psum_zero {f : Nat → Bool} : ∀ {n : Nat}, (∀ j, j < n → f j = false) → psum f n = 0
  | 0, _ => rfl
  | n + 1, h => by
    simp only [psum]
    rw [psum_zero (n := n) (fun j hj => h j (by omega)), h n (by omega)]
    simp
theorem psum_cut {f : Nat → Bool} {n : Nat} : ∀ {m : Nat}, (∀ j, n ≤ j → j < n + m → f j = false) → psum f (n + m) = psum f n
  | 0, _ => rfl
  | m + 1, h => by
    rw [← Nat.add_assoc]
    simp only [psum]
    rw [psum_cut (m := m) (fun j h1 h2 => h j h1 (by omega)), h (n + m) (by omega) (by omega)]
    simp
theorem psum_upto {f : Nat → Bool} {n N : Nat} (hn : n ≤ N) (h : ∀ j, n ≤ j → j < N → f j = false) : psum f N = psum f n := by
  obtain ⟨m, rfl⟩ : ∃ m, N = n + m := ⟨N - n, by omega⟩
  exact psum_cut h
/-- its bits -/
theorem psum_bit (f : Nat → Bool) : ∀ (n j : Nat), j < n → (psum f n / 2 ^ j % 2 == 1) = f j
  | 0, j, h => by omega
  | n + 1, j, h => by
    have hlt := psum_lt f n
    simp only [psum]
    rcases Nat.lt_or_ge j n with hj | hj
    · have ih := psum_bit f n j hj
      have e : (psum f n + if f n = true then 2 ^ n else 0) / 2 ^ j % 2 = psum f n / 2 ^ j % 2 := by
        split
        · have : 2 ^ n = 2 ^ j * (2 * 2 ^ (n - j - 1)) := by
            rw [← Nat.mul_assoc, Nat.mul_right_comm, ← Nat.pow_add, ← Nat.pow_succ]
            congr 1
            omega
          rw [this, Nat.add_mul_div_left _ _ (Nat.two_pow_pos j)]
          omega
        · rfl
      rw [e, ih]
    · have : j = n := by omega
      subst this
      cases hf : f j with
      | true =>
        simp only [if_true]
        have : (psum f j + 2 ^ j) / 2 ^ j = 1 := by
          rw [Nat.add_div_right _ (Nat.two_pow_pos j), Nat.div_eq_of_lt hlt]
        rw [this]
        rfl
      | false =>
        simp only [Bool.false_eq_true, if_false, Nat.add_zero]
        rw [Nat.div_eq_of_lt hlt]
        rfl
/-- byte g of the bits below k -/
def byteOf (l : List Bool) (k g : Nat) : Nat := psum (fun j => decide (8 * g + j < k) && l.getD (8 * g + j) false) 8
def byteAll (l : List Bool) (g : Nat) : Nat := psum (fun j => l.getD (8 * g + j) false) 8
theorem byteOf_all (l : List Bool) (g : Nat) : byteOf l l.length g = byteAll l g := by
  unfold byteOf byteAll
  refine psum_congr fun j _ => ?_
  by_cases h : 8 * g + j < l.length
  · simp [h]
  · simp [h]
theorem byteOf_step (l : List Bool) (k : Nat) : byteOf l (k + 1) (k / 8) = byteOf l k (k / 8) + if l.getD k false = true then 2 ^ (k % 8) else 0 := by
  unfold byteOf
  have hk : 8 * (k / 8) + k % 8 = k := by omega
  have h8 : k % 8 < 8 := Nat.mod_lt _ (by decide)
  have c1 : psum (fun j => decide (8 * (k / 8) + j < k + 1) && l.getD (8 * (k / 8) + j) false) 8 = psum (fun j => decide (8 * (k / 8) + j < k + 1) && l.getD (8 * (k / 8) + j) false) (k % 8 + 1) :=
    psum_upto (by omega) fun j h1 h2 => by
      have : ¬ (8 * (k / 8) + j < k + 1) := by omega
      simp [this]
  have c2 : psum (fun j => decide (8 * (k / 8) + j < k) && l.getD (8 * (k / 8) + j) false) 8 = psum (fun j => decide (8 * (k / 8) + j < k) && l.getD (8 * (k / 8) + j) false) (k % 8) :=
    psum_upto (by omega) fun j h1 h2 => by
      have : ¬ (8 * (k / 8) + j < k) := by omega
      simp [this]
  rw [c1, c2]
  simp only [psum]
  have c3 : psum (fun j => decide (8 * (k / 8) + j < k + 1) && l.getD (8 * (k / 8) + j) false) (k % 8) = psum (fun j => decide (8 * (k / 8) + j < k) && l.getD (8 * (k / 8) + j) false) (k % 8) :=
    psum_congr fun j hj => by
      have h1 : 8 * (k / 8) + j < k + 1 := by omega
      have h2 : 8 * (k / 8) + j < k := by omega
      simp [h1, h2]
  rw [c3]
  congr 1
  simp only [hk]
  simp
theorem byteOf_lt (l : List Bool) (k : Nat) : byteOf l k (k / 8) < 2 ^ (k % 8) := by
  unfold byteOf
  have h8 : k % 8 < 8 := Nat.mod_lt _ (by decide)
  have : psum (fun j => decide (8 * (k / 8) + j < k) && l.getD (8 * (k / 8) + j) false) 8 = psum (fun j => decide (8 * (k / 8) + j < k) && l.getD (8 * (k / 8) + j) false) (k % 8) :=
    psum_upto (by omega) fun j h1 h2 => by
      have : ¬ (8 * (k / 8) + j < k) := by omega
      simp [this]
  rw [this]
  exact psum_lt _ _
theorem byteOf_other (l : List Bool) (k g : Nat) (h : g ≠ k / 8) : byteOf l (k + 1) g = byteOf l k g := by
  unfold byteOf
  refine psum_congr fun j hj => ?_
  by_cases h1 : 8 * g + j < k
  · have h2 : 8 * g + j < k + 1 := by omega
    simp [h1, h2]
  · have h2 : ¬ 8 * g + j < k + 1 := by omega
    simp [h1, h2]
theorem byteOf_none (l : List Bool) (k : Nat) (h : l.getD k false = false) (g : Nat) : byteOf l (k + 1) g = byteOf l k g := by
  by_cases hg : g = k / 8
  · subst hg
    rw [byteOf_step, h]
    simp
  · exact byteOf_other l k g hg
theorem or_bit (x j : Nat) (hx : x < 2 ^ j) (hj : j < 8) : Go.bits BinOp.or .u8 (x : Int) (2 ^ j % 256 : Int) = ((x + 2 ^ j : Nat) : Int) := by
  have h2 : 2 ^ j < 256 := Nat.lt_of_lt_of_le (Nat.pow_lt_pow_right (by decide) hj) (by decide)
  have e : (2 ^ j % 256 : Int) = ((2 ^ j : Nat) : Int) := by
    have p : (2 : Int) ^ j = ((2 ^ j : Nat) : Int) := (Int.natCast_pow 2 j).symm
    rw [p]
    omega
  rw [e, (bits_nat .u8 8 (by decide) wraps_u8 x (2 ^ j) (by omega) (by omega)).2]
  have := Nat.two_pow_add_eq_or_of_lt (i := j) (b := x) hx 1
  rw [Nat.mul_one] at this
  rw [Nat.or_comm, ← this]
  congr 1
  omega
theorem bitsUpto_eq (l : List Bool) (k : Nat) (hk : k ≤ l.length) : bitsUpto l k = (List.range ((l.length + 7) / 8)).map fun g => ((byteOf l k g : Nat) : Int) := by
  induction k with
  | zero =>
    simp only [bitsUpto]
    apply List.ext_getElem?
    intro i
    simp only [List.getElem?_replicate, List.getElem?_map, List.getElem?_range]
    by_cases h : i < (l.length + 7) / 8
    · have : byteOf l 0 i = 0 := psum_zero fun j _ => by simp
      simp [h, this]
    · simp [h]
  | succ k ih =>
    have ih := ih (by omega)
    simp only [bitsUpto]
    split
    · rename_i hb
      rw [ih]
      have hg : k / 8 < (l.length + 7) / 8 := by omega
      have hget : ((List.range ((l.length + 7) / 8)).map fun g => ((byteOf l k g : Nat) : Int)).getD (k / 8) 0 = ((byteOf l k (k / 8) : Nat) : Int) := by
        rw [List.getD_eq_getElem?_getD, List.getElem?_map, List.getElem?_range hg]
        rfl
      rw [hget, or_bit _ _ (byteOf_lt l k) (Nat.mod_lt _ (by decide))]
      apply List.ext_getElem?
      intro i
      rw [List.getElem?_set]
      simp only [List.getElem?_map]
      by_cases hi : k / 8 = i
      · subst hi
        rw [if_pos rfl, if_pos (by simpa using hg)]
        have := byteOf_step l k
        rw [hb, if_pos rfl] at this
        simp [hg, this]
      · rw [if_neg hi]
        by_cases h : i < (l.length + 7) / 8
        · simp [h, byteOf_other l k i (fun e => hi e.symm)]
        · simp [h]
    · rename_i hb
      rw [ih]
      refine List.map_congr_left fun g _ => ?_
      rw [byteOf_none l k (by simpa using hb) g]
/-- The bytes of bits. -/
def bitsR (l : List Bool) : ByteArray := toBA ((List.range ((l.length + 7) / 8)).map fun g => UInt8.ofNat (byteAll l g))
theorem bits_at (l : List Bool) (h : l.length ≤ 140737488355328) : num_Bits.f l = some (bitsR l) := by
  unfold num_Bits.f bitsR
  rw [if_pos h, bitsUpto_eq l l.length (Nat.le_refl _), strOfNums_toBA, List.map_map]
  congr 2
  refine List.map_congr_left fun g _ => ?_
  simp [byteOf_all]
theorem bitsR_size (l : List Bool) : (bitsR l).size = (l.length + 7) / 8 := by
  unfold bitsR
  rw [toBA_size]
  simp
end Go.Proofs.YtpcfpeejbhkbdaaDoor.F
