/- Bits as bytes and bytes as bits: plain. -/
import Derived.Test.YtpcfpeejbhkbdaaDoorFPback
import Derived.Test.YtpcfpeejbhkbdaaDoorFPnumTake
namespace Go.Proofs.YtpcfpeejbhkbdaaDoor.F
open Go.RowKit Go.Proofs.YtpcfpeejbhkbdaaDoorW.PrintWords Go.Proofs.YtpcfpeejbhkbdaaDoorW.PrintLast Go.Proofs.YtpcfpeejbhkbdaaDoorW.PrintMore
set_option linter.unusedVariables false
set_option linter.unusedSimpArgs false

/-- bit i of bytes. -/
def bitAt (s : ByteArray) (i : Nat) : Bool := (bt s ((i / 8 : Nat) : Int)).toNat / 2 ^ (i % 8) % 2 == 1
/-- d bits from i on: those below n are gathered, those above must not be set. -/
def scan (s : ByteArray) (n : Nat) : Nat → Nat → List Bool → Option (List Bool)
  | 0, _, out => some out
  | d + 1, i, out => if i < n then scan s n d (i + 1) (out ++ [bitAt s i]) else if bitAt s i = true then none else scan s n d (i + 1) out
def takeBitsR (s : ByteArray) (n : Int) : List Bool × ByteArray × Int :=
  if n < 0 ∨ n > 64 then ([], ⟨#[]⟩, 1) else
  if s.size < (n.toNat + 7) / 8 then ([], ⟨#[]⟩, 2) else
  match scan s n.toNat (8 * ((n.toNat + 7) / 8)) 0 [] with
  | none => ([], ⟨#[]⟩, 3)
  | some l => (l, s.extract ((n.toNat + 7) / 8) s.size, 0)

theorem shr_and_bit (x m : Nat) (hx : x < 256) (hm : m < 8) : (Go.bits .and .u8 (shr .u8 (x : Int) (m : Int)) 1 == 1) = (x / 2 ^ m % 2 == 1) := by
  have e : shr .u8 (x : Int) (m : Int) = ((x / 2 ^ m : Nat) : Int) := by
    unfold shr
    rw [show IntKind.u8.bits = 8 from rfl, Int.toNat_natCast, Nat.min_eq_left (by omega)]
    simp
  have hlt : x / 2 ^ m < 2 ^ 8 := Nat.lt_of_le_of_lt (Nat.div_le_self _ _) (by omega)
  have h := bits_mask .u8 8 (by decide) wraps_u8 1 (by decide) ((x / 2 ^ m : Nat) : Int) (Int.natCast_nonneg _) (by exact_mod_cast hlt)
  rw [e]
  have h1 : ((2 : Int) ^ 1 - 1) = 1 := by decide
  rw [h1] at h
  rw [h, Bool.eq_iff_iff, beq_iff_eq, beq_iff_eq]
  omega
theorem bt_nat (s : ByteArray) (i : Int) : ∃ x : Nat, bt s i = (x : Int) ∧ x < 256 := by
  have := bt_range s i
  exact ⟨(bt s i).toNat, by omega, by omega⟩
theorem scan_length (s : ByteArray) (n : Nat) : ∀ (d i : Nat) (out l : List Bool), scan s n d i out = some l → out.length = min i n → l.length = min (i + d) n
  | 0, i, out, l, h, ho => by
    simp only [scan, Option.some.injEq] at h
    subst h
    exact ho
  | d + 1, i, out, l, h, ho => by
    simp only [scan] at h
    split at h
    · have := scan_length s n d (i + 1) _ l h (by rw [List.length_append, List.length_singleton]; omega)
      omega
    · split at h
      · simp at h
      · have := scan_length s n d (i + 1) _ l h (by omega)
        omega
/-- What it tells: the bits below n; none above. -/
theorem scan_some (s : ByteArray) (n : Nat) : ∀ (d i : Nat) (out l : List Bool), scan s n d i out = some l → out.length = min i n →
    (∀ j, j < out.length → l[j]? = out[j]?) ∧ (∀ j, i ≤ j → j < i + d → j < n → l[j]? = some (bitAt s j)) ∧ (∀ j, i ≤ j → j < i + d → n ≤ j → bitAt s j = false)
  | 0, i, out, l, h, ho => by
    simp only [scan, Option.some.injEq] at h
    subst h
    exact ⟨fun _ _ => rfl, fun j _ _ => by omega, fun j _ _ => by omega⟩
  | d + 1, i, out, l, h, ho => by
    simp only [scan] at h
    split at h
    · rename_i hi
      obtain ⟨h1, h2, h3⟩ := scan_some s n d (i + 1) _ l h (by rw [List.length_append, List.length_singleton]; omega)
      have hol : out.length = i := by omega
      refine ⟨fun j hj => ?_, fun j hj hd hn => ?_, fun j hj hd hn => ?_⟩
      · rw [h1 j (by rw [List.length_append]; omega), List.getElem?_append_left hj]
      · rcases Nat.lt_or_ge i j with hij | hij
        · exact h2 j (by omega) (by omega) hn
        · have : j = i := by omega
          subst this
          rw [h1 j (by rw [List.length_append, List.length_singleton]; omega), List.getElem?_append_right (by omega)]
          simp [hol]
      · exact h3 j (by omega) (by omega) hn
    · rename_i hi
      split at h
      · simp at h
      · rename_i hb
        obtain ⟨h1, h2, h3⟩ := scan_some s n d (i + 1) _ l h (by omega)
        refine ⟨h1, fun j hj hd hn => by omega, fun j hj hd hn => ?_⟩
        rcases Nat.lt_or_ge i j with hij | hij
        · exact h3 j (by omega) (by omega) hn
        · have : j = i := by omega
          subst this
          simpa using hb
theorem scan_ok (s : ByteArray) (n : Nat) : ∀ (d i : Nat) (out : List Bool), (∀ j, n ≤ j → i ≤ j → j < i + d → bitAt s j = false) → ∃ l, scan s n d i out = some l
  | 0, i, out, _ => ⟨out, rfl⟩
  | d + 1, i, out, h => by
    simp only [scan]
    split
    · exact scan_ok s n d (i + 1) _ (fun j h1 h2 h3 => h j h1 (by omega) (by omega))
    · rename_i hi
      rw [if_neg (by rw [h i (by omega) (Nat.le_refl _) (by omega)]; simp)]
      exact scan_ok s n d (i + 1) _ (fun j h1 h2 h3 => h j h1 (by omega) (by omega))
end Go.Proofs.YtpcfpeejbhkbdaaDoor.F
