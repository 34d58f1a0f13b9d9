/- A right head is taken as it was; what is taken is right, and laid as it was, for every input. -/
import Derived.Test.YthpfcplhlhnfeaaDoorCards
import Derived.Test.YthpfcplhlhnfeaaDoorTie
import Derived.WalkKit
import Derived.ProofKit
import Derived.OpenShut
import Derived.Deep.DeepHandedRow
import Derived.Lib.LaidTab
import Derived.SizedLaws
import Derived.Carry
import Derived.SevenTiedAt
import Derived.Test.YthpfcplhlhnfeaaDoorBPropsBacka
import Derived.Test.YthpfcplhlhnfeaaDoorBPropsBackb
import Derived.Test.YthpfcplhlhnfeaaDoorBPropsBackc
import Derived.Test.YthpfcplhlhnfeaaDoorBPropsBackd
import Derived.Test.YthpfcplhlhnfeaaDoorBPropsBacke
import Derived.Test.YthpfcplhlhnfeaaDoorBPropsBackf
namespace Go.Proofs.YthpfcplhlhnfeaaDoor.F
open Go.RowKit Go.Proofs.YthpfcplhlhnfeaaDoorW.PrintWords Go.Proofs.YthpfcplhlhnfeaaDoorW.PrintLast
set_option linter.unusedVariables false

/-! elements of type 42 -/
def good_42 (a : S42) : Prop := (Lit.int .u64 a.f0).wf = true ∧ a.f1.size ≤ maxLen
def sized_42 (a : S42) : Prop := True ∧ a.f1.size ≤ 140737488351232
def bulk_42 (a : S42) : Nat := (fun _ => 1) a.f0 + (fun a => a.size + 1) a.f1
theorem opened_42 : Opened 42 k42.K good_42 sized_42 bulk_42 :=
  Opened.iso (opened_struct2 (n0 := 1) (n1 := 1) Tryd.underlying42 (by kernel_rfl) (by kernel_rfl) rfl (opened_int (k := .u64) Tryd.underlying22) (by kernel_rfl) rfl (opened_string Tryd.underlying9)) (fun a => S42.mk a.1 a.2) (by rintro W a cs ⟨c0, c1, e, r0, r1⟩; exact ⟨c0, _, e, r0, r1⟩) (fun a h => h) (fun a h => h) (fun a => Nat.le_refl _)
end Go.Proofs.YthpfcplhlhnfeaaDoor.F
namespace Go.Proofs.YthpfcplhlhnfeaaDoor.F
open Go.RowKit Go.Proofs.YthpfcplhlhnfeaaDoorW.PrintWords Go.Proofs.YthpfcplhlhnfeaaDoorW.PrintLast Go.Proofs.YthpfcplhlhnfeaaDoorW.PrintMore
set_option linter.unusedVariables false
set_option linter.unusedSimpArgs false
set_option maxRecDepth 4000
theorem shown_t : interchangelaw07_shown.f = some true := by
  unfold interchangelaw07_shown.f
  have h : props_Bytes.f 60 5 0 ([] : List S42) = some (⟨#[0, 60, 0, 0, 0, 0, 0, 0, 0, 0, 0, 5, 0, 0]⟩, 0) := by
    unfold props_Bytes.f
    rw [if_pos (by decide)]
    decide +kernel
  rw [h]
  decide +kernel
theorem vals_ok {b fl : Int} {l : List S42} (h1 : (Lit.int .u64 b).wf = true) (h2 : (Lit.int .u64 fl).wf = true) (h3 : l.length ≤ maxLen ∧ ∀ x ∈ l, good_42 x) (hs : l.length * Tryd.prog.bytesOf 42 ≤ 140737488351232 ∧ ∀ x ∈ l, sized_42 x) : okH b fl l := by
  have hb : Tryd.prog.bytesOf 42 = 24 := by kernel_rfl
  have hl := hs.1
  rw [hb] at hl
  exact ⟨u64_bounds h1, u64_bounds h2, by omega, fun v hv => ⟨(u64_bounds (h3.2 v hv).1).1, (u64_bounds (h3.2 v hv).1).2, Nat.le_trans (hs.2 v hv).2 (by decide)⟩⟩
theorem val_ok {v0 : Int} {v1 : ByteArray} (h : (Lit.int .u64 v0).wf = true) (hs : v1.size ≤ 140737488351232) : okV ⟨v0, v1⟩ := ⟨(u64_bounds h).1, (u64_bounds h).2, Nat.le_trans hs (by decide)⟩
theorem okH.len {b fl : Int} {l : List S42} (h : okH b fl l) (b' : Int) (h' : 0 ≤ b' ∧ b' < 18446744073709551616) : okH b' fl l := ⟨h', h.2⟩
theorem Bytes_f {a b fl : Int} {l : List S42} (h : okH b fl l) : props_Bytes.f a b fl l = some (bytesR a b fl l) := by unfold props_Bytes.f; rw [if_pos h]
theorem Get_f {a b fl : Int} {l : List S42} (h : okH b fl l) (i : Int) : props_Get.f a b fl l i = some (getR a b fl l i) := by unfold props_Get.f; rw [if_pos h]
theorem RightR_size {a b fl : Int} {l : List S42} (h : RightR a b fl l = 0) (b' : Int) : RightR a b' fl l = if 65536 < b' then 4 else 0 := by
  obtain ⟨h1, h2, h3⟩ := right_form h
  unfold RightR
  rw [if_pos h1, h3]
theorem pnum8_size {v : Int} (h0 : 0 ≤ v) (h1 : v < 18446744073709551616) : (pnum 8 v).size = 8 := by
  unfold pnum putR
  rw [if_pos (.inr (.inr (.inr rfl))), if_pos (by show v < 18446744073709551616; omega), toBA_size, be_length]
  rfl
theorem pnum2_size {v : Int} (h1 : v ≤ 65535) : (pnum 2 v).size = 2 := by
  unfold pnum putR
  rw [if_pos (.inr (.inl rfl)), if_pos (by show v < 65536; omega), toBA_size, be_length]
  rfl
theorem headB_size {b fl : Int} (h0 : 0 ≤ b) (h1 : b < 18446744073709551616) (h2 : fl ≤ 65535) : (headB b fl).size = 14 := by
  unfold headB
  rw [size_append, size_append, size_append, pnum8_size h0 h1, pnum2_size h2, pnum2_size (by decide), pnum2_size (by decide)]
end Go.Proofs.YthpfcplhlhnfeaaDoor.F
namespace Go.Proofs.YthpfcplhlhnfeaaDoor.F
open Go.RowKit Go.Proofs.YthpfcplhlhnfeaaDoorW.PrintWords Go.Proofs.YthpfcplhlhnfeaaDoorW.PrintLast Go.Proofs.YthpfcplhlhnfeaaDoorW.PrintMore
set_option linter.unusedVariables false
set_option linter.unusedSimpArgs false
set_option maxRecDepth 4000
theorem pnum_take {n v : Int} (hn : isW n) (h0 : 0 ≤ v) (hv : v < 256 ^ n.toNat) (more : ByteArray) : takeR (pnum n v ++ more) n = (v, more, 0) := by
  have : pnum n v = toBA (be n.toNat v.toNat) := by unfold pnum putR; rw [if_pos hn, if_pos hv]
  rw [this]
  exact take_put more hn h0 hv
theorem pnum_of {s : ByteArray} {n : Int} (h : (takeR s n).2.2 = 0) : pnum n (takeR s n).1 ++ (takeR s n).2.1 = s := by
  obtain ⟨h1, h2⟩ := put_take h
  unfold pnum
  rw [h1]
  exact h2
theorem value_prop {i : Nat} (hi : i < 14) {v : S42} (hv : okV v) (h : rightR (letN i) v.f0 v.f1 = 0) (more : ByteArray) : valueR (letN i) (propB i v ++ more) = (v.f0, v.f1, more, 0) := by
  have hl := letN_isL i hi
  unfold rightR at h
  unfold valueR propB
  generalize letN i = c at hl h ⊢
  by_cases c1 : (c = 111 ∧ ¬ v.f0 < 256) ∨ (c = 83 ∧ 255 < v.f1.size)
  · rw [if_pos c1] at h; exact absurd h (by decide)
  rw [if_neg c1] at h
  by_cases c2 : ((c = 111 ∨ c = 113) ∧ ¬ v.f1.size = 0) ∨ (¬ (c = 111 ∨ c = 113) ∧ ¬ v.f0 = 0)
  · rw [if_pos c2] at h; exact absurd h (by decide)
  rw [if_neg c2] at h
  by_cases c3 : c = 84 ∧ ¬ wholeR v.f1 = 0
  · rw [if_pos c3] at h; exact absurd h (by decide)
  clear h
  by_cases e1 : c = 111
  · have hs : v.f1 = ⟨#[]⟩ := ba_empty (Classical.byContradiction fun hh => c2 (.inl ⟨.inl e1, hh⟩))
    have hlt : v.f0 < 256 := Classical.byContradiction fun hh => c1 (.inl ⟨e1, hh⟩)
    rw [if_pos e1, if_pos e1, pnum_take (.inl rfl) hv.1 (by show v.f0 < 256; exact hlt), hs]
  · rw [if_neg e1, if_neg e1]
    by_cases e2 : c = 113
    · have hs : v.f1 = ⟨#[]⟩ := ba_empty (Classical.byContradiction fun hh => c2 (.inl ⟨.inr e2, hh⟩))
      rw [if_pos e2, if_pos e2, pnum_take (.inr (.inr (.inr rfl))) hv.1 (by show v.f0 < 18446744073709551616; exact hv.2.1), hs]
    · rw [if_neg e2, if_neg e2]
      have hn : v.f0 = 0 := Classical.byContradiction fun hh => c2 (.inr ⟨fun h => h.elim e1 e2, hh⟩)
      by_cases e3 : c = 83
      · have hs : v.f1.size ≤ 255 := by
          by_cases h : 255 < v.f1.size
          · exact absurd (.inr ⟨e3, h⟩) c1
          · omega
        rw [if_pos e3, if_pos e3, lay_take more ((short_iff _).2 hs), hn]
      · rw [if_neg e3, if_neg e3]
        have e4 : c = 84 := by
          rcases hl with h | h | h | h
          · exact absurd h e3
          · exact h
          · exact absurd h e1
          · exact absurd h e2
        have hw : wholeR v.f1 = 0 := Classical.byContradiction fun hh => c3 ⟨e4, hh⟩
        rw [whole_taken hw more, hn]
theorem prop_value {i : Nat} {s : ByteArray} (h : (valueR (letN i) s).2.2.2 = 0) : propB i ⟨(valueR (letN i) s).1, (valueR (letN i) s).2.1⟩ ++ (valueR (letN i) s).2.2.1 = s := by
  unfold propB
  unfold valueR at h ⊢
  generalize letN i = c at h ⊢
  by_cases e1 : c = 111
  · rw [if_pos e1] at h
    rw [if_pos e1, if_pos e1]
    exact pnum_of h
  · rw [if_neg e1] at h
    rw [if_neg e1, if_neg e1]
    by_cases e2 : c = 113
    · rw [if_pos e2] at h
      rw [if_pos e2, if_pos e2]
      exact pnum_of h
    · rw [if_neg e2] at h
      rw [if_neg e2, if_neg e2]
      by_cases e3 : c = 83
      · rw [if_pos e3] at h
        rw [if_pos e3, if_pos e3]
        exact (take_lay h).2
      · rw [if_neg e3] at h
        rw [if_neg e3, if_neg e3]
        by_cases e : (tabR s).2.1 = 0
        · obtain ⟨a, ha, _⟩ := tab_pre e
          have := taken_pre e ha
          show (takenR s (tabR s)).1 ++ (takenR s (tabR s)).2.1 = s
          rw [this]
          exact ha.symm
        · have hh : (takenR s (tabR s)).2.2 = 0 := h
          unfold takenR at hh
          rw [if_neg e] at hh
          exact absurd hh e
/-- the values of right properties, taken -/
theorem ptGo_props (l : List S42) (hl : ∀ n, n < l.length → okV (l.getD n z42)) : ∀ (is : List Nat) (n : Nat), (∀ i ∈ is, i < 14) → n + is.length = l.length → valsGo l is n = 0 → ptGo is (propsB l is n) (l.take n) = (l, ⟨#[]⟩, 0)
  | [], n, _, hn, _ => by
    rw [ptGo, propsB, List.take_of_length_le (by simp only [List.length_nil] at hn; omega)]
  | i :: is, n, hi, hn, hv => by
    rw [List.length_cons] at hn
    have hlt : n < l.length := by omega
    rw [valsGo] at hv
    by_cases e : rightR (letN i) (l.getD n z42).f0 (l.getD n z42).f1 = 0
    · rw [if_pos e] at hv
      have hp := value_prop (hi i (List.mem_cons_self ..)) (hl n hlt) e (propsB l is (n + 1))
      have ht : l.take n ++ [l.getD n z42] = l.take (n + 1) := by
        rw [List.take_add_one]
        simp [hlt]
      rw [ptGo, propsB, hp]
      dsimp only
      rw [if_pos rfl]
      have := ptGo_props l hl is (n + 1) (fun j hj => hi j (List.mem_cons_of_mem _ hj)) (by omega) hv
      rw [← ht] at this
      exact this
    · rw [if_neg e] at hv
      exact absurd hv e
theorem which_lt (fl : Int) : ∀ i ∈ whichF fl 0, i < 14 := by
  have h : ∀ (d i : Nat), ∀ k ∈ whichN fl d i, k < i + d := by
    intro d
    induction d with
    | zero => intro i k h; simp [whichN] at h
    | succ d ih =>
      intro i k h
      rw [whichN] at h
      split at h
      · rcases List.mem_cons.1 h with rfl | h
        · omega
        · have := ih (i + 1) k h; omega
      · have := ih (i + 1) k h; omega
  intro i hi
  have := h 14 0 i hi
  omega
/-- laid and taken -/
theorem take_bytes {a b fl : Int} {l : List S42} (ok : okH b fl l) (h : RightR a b fl l = 0) : ptakeR (headB b fl ++ propsB l (whichF fl 0) 0) = (a, b, fl, l, 0) := by
  obtain ⟨hf, hb, hv⟩ := right_form h
  have ha : a = 60 := hf.1
  subst ha
  have e : headB b fl ++ propsB l (whichF fl 0) 0 = pnum 2 60 ++ (pnum 2 0 ++ (pnum 8 b ++ (pnum 2 fl ++ propsB l (whichF fl 0) 0))) := by unfold headB; simp only [app_assoc]
  have hz : ¬ (headB b fl ++ propsB l (whichF fl 0) 0).size < 14 := by
    rw [size_append, headB_size ok.1.1 ok.1.2 hf.2.1]; omega
  have t1 := pnum_take (n := 2) (v := 60) (.inr (.inl rfl)) (by decide) (by decide) (pnum 2 0 ++ (pnum 8 b ++ (pnum 2 fl ++ propsB l (whichF fl 0) 0)))
  have t2 := pnum_take (n := 2) (v := 0) (.inr (.inl rfl)) (by decide) (by decide) (pnum 8 b ++ (pnum 2 fl ++ propsB l (whichF fl 0) 0))
  have t3 := pnum_take (n := 8) (v := b) (.inr (.inr (.inr rfl))) ok.1.1 (by show b < 18446744073709551616; exact ok.1.2) (pnum 2 fl ++ propsB l (whichF fl 0) 0)
  have t4 := pnum_take (n := 2) (v := fl) (.inr (.inl rfl)) ok.2.1.1 (by show fl < 65536; have := hf.2.1; omega) (propsB l (whichF fl 0) 0)
  have hg := ptGo_props l (fun n hn => ok.at hn) (whichF fl 0) 0 (which_lt fl) (by rw [Nat.zero_add]; exact hf.2.2.2) hv
  rw [List.take_zero] at hg
  unfold ptakeR
  rw [if_neg hz]
  unfold pt14 pt12 pt4 pt2
  rw [e, t1]
  dsimp only
  rw [t2]
  dsimp only
  rw [t3]
  dsimp only
  rw [t4]
  dsimp only
  unfold ptMid
  rw [hg]
  dsimp only
  rw [if_pos rfl]
  unfold ptEnd
  rw [if_neg, if_neg hb]
  rintro (h | h | h | h)
  · exact h rfl
  · exact h rfl
  · exact h hf
  · exact h hv
/-- the taken values' bytes -/
theorem ptGo_bytes : ∀ (is : List Nat) (s : ByteArray) (acc : List S42), s.size ≤ 4503599627370496 → (∀ v ∈ acc, okV v) → (ptGo is s acc).2.2 = 0 →
    ∃ ext, (ptGo is s acc).1 = acc ++ ext ∧ ext.length = is.length ∧ (∀ v ∈ acc ++ ext, okV v) ∧ ∀ l : List S42, (∃ tl, l = acc ++ ext ++ tl) → propsB l is acc.length ++ (ptGo is s acc).2.1 = s
  | [], s, acc, _, hok, _ => ⟨[], by rw [ptGo]; simp, rfl, by simpa using hok, fun l _ => by rw [propsB, ptGo]; exact eq_of_list (by rw [append_data]; simp)⟩
  | i :: is, s, acc, hz, hok, h => by
    rw [ptGo] at h ⊢
    by_cases e : (valueR (letN i) s).2.2.2 = 0
    · rw [if_pos e] at h ⊢
      have hvs := value_size (letN i) s
      have hp := prop_value e
      obtain ⟨ext, h1, h2, h3, h4⟩ := ptGo_bytes is (valueR (letN i) s).2.2.1 (acc ++ [⟨(valueR (letN i) s).1, (valueR (letN i) s).2.1⟩]) (by omega) (fun v hv => by
        rcases List.mem_append.1 hv with hv | hv
        · exact hok v hv
        · obtain rfl := List.mem_singleton.1 hv
          exact ⟨hvs.2.2.1, hvs.2.2.2, by show (valueR (letN i) s).2.1.size ≤ 4503599627370496; omega⟩) h
      generalize valueR (letN i) s = V at *
      refine ⟨⟨V.1, V.2.1⟩ :: ext, by rw [h1]; simp, by simp [h2], by simpa using h3, fun l hl => ?_⟩
      obtain ⟨tl, rfl⟩ := hl
      have h5 := h4 (acc ++ ⟨V.1, V.2.1⟩ :: ext ++ tl) ⟨tl, by simp⟩
      have hg : (acc ++ ⟨V.1, V.2.1⟩ :: ext ++ tl).getD acc.length z42 = ⟨V.1, V.2.1⟩ := by simp
      rw [propsB, hg, app_assoc]
      rw [List.length_append, List.length_singleton] at h5
      rw [h5]
      exact hp
    · rw [if_neg e] at h
      exact absurd h (by show ¬ (7 : Int) = 0; decide)
theorem take_zero {s : ByteArray} {n : Int} (hn : isW n) (h : n ≤ (s.size : Int)) : (takeR s n).2.2 = 0 := by
  unfold takeR
  rw [if_pos hn, if_neg (by omega)]
theorem take_zero_size {s : ByteArray} {n : Int} (hn : isW n) (h : (takeR s n).2.2 = 0) : (takeR s n).2.1.size = s.size - n.toNat := by
  unfold takeR at h ⊢
  rw [if_pos hn] at h ⊢
  by_cases e : (s.size : Int) < n
  · rw [if_pos e] at h; exact absurd h (by show ¬ (2 : Int) = 0; decide)
  · rw [if_neg e]
    exact extract_size' s n.toNat
/-- taken and laid -/
theorem bytes_take {s : ByteArray} (hz : s.size ≤ 4503599627370496) (h : (ptakeR s).2.2.2.2 = 0) :
    okH (ptakeR s).2.1 (ptakeR s).2.2.1 (ptakeR s).2.2.2.1 ∧ RightR (ptakeR s).1 (ptakeR s).2.1 (ptakeR s).2.2.1 (ptakeR s).2.2.2.1 = 0 ∧ headB (ptakeR s).2.1 (ptakeR s).2.2.1 ++ propsB (ptakeR s).2.2.2.1 (whichF (ptakeR s).2.2.1 0) 0 = s := by
  unfold ptakeR at *
  by_cases e0 : s.size < 14
  · rw [if_pos e0] at h; exact absurd h (by decide)
  rw [if_neg e0] at h ⊢
  have r2 : (takeR s 2).2.2 = 0 := take_zero (.inr (.inl rfl)) (by omega)
  have z2 := take_zero_size (.inr (.inl rfl)) r2
  have r4 : (takeR (pt2 s) 2).2.2 = 0 := take_zero (.inr (.inl rfl)) (by unfold pt2; omega)
  have z4 := take_zero_size (.inr (.inl rfl)) r4
  have r12 : (takeR (pt4 s) 8).2.2 = 0 := take_zero (.inr (.inr (.inr rfl))) (by unfold pt4; unfold pt2 at z4 ⊢; omega)
  have z12 := take_zero_size (.inr (.inr (.inr rfl))) r12
  have r14 : (takeR (pt12 s) 2).2.2 = 0 := take_zero (.inr (.inl rfl)) (by unfold pt12; unfold pt4 at z12 ⊢; unfold pt2 at z4 z12 ⊢; omega)
  have p2 := pnum_of r2
  have p4 := pnum_of r4
  have p12 := pnum_of r12
  have p14 := pnum_of r14
  have z14 : (pt14 s).size ≤ s.size := Nat.le_trans (Nat.le_trans (Nat.le_trans (take_rest _ _) (take_rest _ _)) (take_rest _ _)) (take_rest _ _)
  have b12 := take_bound (pt4 s) 8
  have b14 := take_bound (pt12 s) 2
  have q2 : pnum 2 (takeR s 2).1 ++ pt2 s = s := p2
  have q4 : pnum 2 (takeR (pt2 s) 2).1 ++ pt4 s = pt2 s := p4
  have q12 : pnum 8 (takeR (pt4 s) 8).1 ++ pt12 s = pt4 s := p12
  have q14 : pnum 2 (takeR (pt12 s) 2).1 ++ pt14 s = pt12 s := p14
  clear p2 p4 p12 p14 r2 r4 r12 r14 z2 z4 z12
  generalize (takeR s 2).1 = a at *
  generalize (takeR (pt2 s) 2).1 = wt at *
  generalize (takeR (pt4 s) 8).1 = b at *
  generalize (takeR (pt12 s) 2).1 = fl at *
  unfold ptMid at *
  by_cases e1 : (ptGo (whichF fl 0) (pt14 s) []).2.2 = 0
  · rw [if_pos e1] at h ⊢
    obtain ⟨ext, h1, h2, h3, h4⟩ := ptGo_bytes (whichF fl 0) (pt14 s) [] (by omega) (fun v hv => by cases hv) e1
    rw [List.nil_append] at h1 h3
    rw [h1] at h ⊢
    have h4 := h4 ext ⟨[], by simp⟩
    unfold ptEnd at *
    by_cases e2 : (ptGo (whichF fl 0) (pt14 s) []).2.1.size ≠ 0 ∨ wt ≠ 0 ∨ ¬ FormR a fl ext ∨ ¬ valuesR fl ext = 0
    · rw [if_pos e2] at h; exact absurd h (by decide)
    · rw [if_neg e2] at h ⊢
      by_cases e3 : 65536 < b
      · rw [if_pos e3] at h; exact absurd h (by decide)
      · rw [if_neg e3]
        have f1 : (ptGo (whichF fl 0) (pt14 s) []).2.1.size = 0 := Classical.byContradiction fun hh => e2 (.inl hh)
        have f2 : wt = 0 := Classical.byContradiction fun hh => e2 (.inr (.inl hh))
        have f3 : FormR a fl ext := Classical.byContradiction fun hh => e2 (.inr (.inr (.inl hh)))
        have f4 : valuesR fl ext = 0 := Classical.byContradiction fun hh => e2 (.inr (.inr (.inr hh)))
        rw [ba_empty f1, app_empty] at h4
        dsimp only
        refine ⟨⟨b12, b14, by have := whichF_len fl; omega, h3⟩, ?_, ?_⟩
        · unfold RightR
          rw [if_pos f3, if_neg e3, f4]
        · have ha := f3.1
          subst ha f2
          show headB b fl ++ propsB ext (whichF fl 0) ([] : List S42).length = s
          rw [h4]
          unfold headB
          simp only [app_assoc]
          rw [q14, q12, q4, q2]
  · rw [if_neg e1] at h; exact absurd h (by decide)
end Go.Proofs.YthpfcplhlhnfeaaDoor.F
namespace Go.Proofs.YthpfcplhlhnfeaaDoor.F
open Go.RowKit Go.Proofs.YthpfcplhlhnfeaaDoorW.PrintWords Go.Proofs.YthpfcplhlhnfeaaDoorW.PrintLast Go.Proofs.YthpfcplhlhnfeaaDoorW.PrintMore
set_option linter.unusedVariables false
set_option linter.unusedSimpArgs false
set_option maxRecDepth 4000
def eqV (x y : S42) : Bool := (x.f0 == y.f0) && (x.f1.toList == y.f1.toList)
def eqL : List S42 → List S42 → Bool
  | [], [] => true
  | x :: xs, y :: ys => eqV x y && eqL xs ys
  | _, _ => false
theorem eqV_refl (x : S42) : eqV x x = true := by unfold eqV; rw [beq_iff_eq.2 rfl, beq_iff_eq.2 rfl]; rfl
theorem eqL_refl : ∀ l, eqL l l = true
  | [] => rfl
  | x :: l => by rw [eqL, eqV_refl, eqL_refl l]; rfl
theorem eqL_len : ∀ l l', l.length ≠ l'.length → eqL l l' = false
  | [], [], h => absurd rfl h
  | [], _ :: _, _ => rfl
  | _ :: _, [], _ => rfl
  | x :: l, y :: l', h => by
    rw [eqL, eqL_len l l' (by simpa using h)]
    exact Bool.and_false _
theorem drop_val (l : List S42) (i : Nat) (h : i < l.length) : l.drop i = l.getD i z42 :: l.drop (i + 1) := by
  rw [List.drop_eq_getElem_cons h]
  simp [h]
theorem same_loop (a b fl a' b' fl' : Int) (l l' : List S42) (hl : l.length = l'.length) (hz : l.length ≤ 4503599627370496) : ∀ (d i k : Nat), l.length = i + d → d < k →
    interchangeref07_Same.l0 k (i : Int) a b fl l a' b' fl' l' = some (eqL (l.drop i) (l'.drop i)) := by
  intro d
  induction d with
  | zero =>
    intro i k h hk
    obtain ⟨k, rfl⟩ : ∃ j, k = j + 1 := ⟨k - 1, by omega⟩
    rw [interchangeref07_Same.l0, if_neg (by omega), List.drop_of_length_le (by omega), List.drop_of_length_le (by omega)]
    rfl
  | succ d ih =>
    intro i k h hk
    obtain ⟨k, rfl⟩ : ∃ j, k = j + 1 := ⟨k - 1, by omega⟩
    have r1 : rd_T42 l (i : Int) = l.getD i z42 := by unfold rd_T42; rw [Int.toNat_natCast]
    have r2 : rd_T42 l' (i : Int) = l'.getD i z42 := by unfold rd_T42; rw [Int.toNat_natCast]
    rw [interchangeref07_Same.l0, if_pos (by omega), if_pos (by omega), if_pos (by omega), w_succ (i := i) (by omega), r1, r2, drop_val l i (by omega), drop_val l' i (by omega), eqL, ih (i + 1) k (by omega) (by omega)]
    generalize l.getD i z42 = x
    generalize l'.getD i z42 = y
    unfold eqV
    cases (x.f0 == y.f0) <;> cases (x.f1.toList == y.f1.toList) <;> rfl
def sameB (a b fl : Int) (l : List S42) (a' b' fl' : Int) (l' : List S42) : Bool := decide (a = a') && decide (b = b') && decide (fl = fl') && eqL l l'
theorem Same_k {k : Nat} (a b fl : Int) (l : List S42) (a' b' fl' : Int) (l' : List S42) (hk : l.length + 3 ≤ k) (hz : l.length ≤ 4503599627370496) : interchangeref07_Same.f k a b fl l a' b' fl' l' = some (sameB a b fl l a' b' fl' l') := by
  obtain ⟨k, rfl⟩ : ∃ j, k = j + 1 := ⟨k - 1, by omega⟩
  have hj : interchangeref07_Same.j0 (k + 1) true a b fl l a' b' fl' l' = some false := by rw [interchangeref07_Same.j0, if_pos rfl]
  unfold interchangeref07_Same.f sameB
  by_cases e1 : a = a'
  · rw [if_pos e1, decide_eq_true e1, Bool.true_and]
    by_cases e2 : b = b'
    · rw [if_pos e2, decide_eq_true e2, Bool.true_and]
      by_cases e3 : fl = fl'
      · rw [if_pos e3, decide_eq_true e3, Bool.true_and]
        by_cases e4 : l.length = l'.length
        · have h0 := same_loop a b fl a' b' fl' l l' e4 hz l.length 0 k (by omega) (by omega)
          rw [interchangeref07_Same.j0, if_neg (by simp [e4])]
          exact h0
        · rw [eqL_len l l' e4, interchangeref07_Same.j0, if_pos (bne_iff_ne.2 (by omega))]
      · rw [if_neg e3, decide_eq_false e3, Bool.false_and, hj]
    · rw [if_neg e2, decide_eq_false e2, Bool.false_and, Bool.false_and, hj]
  · rw [if_neg e1, decide_eq_false e1, Bool.false_and, Bool.false_and, Bool.false_and, hj]
theorem sameB_refl (a b fl : Int) (l : List S42) : sameB a b fl l a b fl l = true := by
  unfold sameB
  rw [decide_eq_true rfl, decide_eq_true rfl, decide_eq_true rfl, eqL_refl]
  rfl
end Go.Proofs.YthpfcplhlhnfeaaDoor.F
namespace Go.Proofs.YthpfcplhlhnfeaaDoor.F
open Go.RowKit Go.Proofs.YthpfcplhlhnfeaaDoorW.PrintWords Go.Proofs.YthpfcplhlhnfeaaDoorW.PrintLast Go.Proofs.YthpfcplhlhnfeaaDoorW.PrintMore
set_option linter.unusedVariables false
set_option linter.unusedSimpArgs false
set_option maxRecDepth 4000
theorem Take_f {s : ByteArray} (h : s.size ≤ 4503599627370496) : props_Take.f s = some (ptakeR s) := by unfold props_Take.f; rw [if_pos h]
theorem ptake_ok {s : ByteArray} (hz : s.size ≤ 4503599627370496) : okH (ptakeR s).2.1 (ptakeR s).2.2.1 (ptakeR s).2.2.2.1 := by
  by_cases h : (ptakeR s).2.2.2.2 = 0
  · exact (bytes_take hz h).1
  · have zr : ∀ e : Int, okH ((0, 0, 0, [], e) : Int × Int × Int × List S42 × Int).2.1 ((0, 0, 0, [], e) : Int × Int × Int × List S42 × Int).2.2.1 ((0, 0, 0, [], e) : Int × Int × Int × List S42 × Int).2.2.2.1 :=
      fun e => ⟨⟨Int.le_refl _, (by decide : (0 : Int) < 18446744073709551616)⟩, ⟨Int.le_refl _, (by decide : (0 : Int) < 18446744073709551616)⟩, Nat.zero_le _, fun v hv => by cases hv⟩
    unfold ptakeR ptMid ptEnd at *
    by_cases e0 : s.size < 14
    · rw [if_pos e0]; exact zr 7
    · rw [if_neg e0] at h ⊢
      split
      · rename_i e1
        rw [if_pos e1] at h
        split
        · exact zr 7
        · rename_i e2
          rw [if_neg e2] at h
          split
          · exact zr 4
          · rename_i e3
            rw [if_neg e3] at h
            exact absurd rfl h
      · exact zr 7
theorem propsBack_pure (b0 : Int × Int × Int × List S42) (b1 : ByteArray) (g0 : (Lit.int .i64 b0.1).wf = true ∧ (Lit.int .u64 b0.2.1).wf = true ∧ (Lit.int .u64 b0.2.2.1).wf = true ∧ (b0.2.2.2.length ≤ maxLen ∧ ∀ x ∈ b0.2.2.2, good_42 x)) (g1 : b1.size ≤ maxLen)
    (z0 : (True ∧ True ∧ True ∧ (b0.2.2.2.length * Tryd.prog.bytesOf 42 ≤ 140737488351232 ∧ ∀ x ∈ b0.2.2.2, sized_42 x))) (zb : b1.size ≤ 140737488351232) : ∃ k : Nat, interchangelaw07_PropsBack.f k b0.1 b0.2.1 b0.2.2.1 b0.2.2.2 b1 = some true := by
  obtain ⟨a, b, fl, l⟩ := b0
  have ok : okH b fl l := vals_ok g0.2.1 g0.2.2.1 g0.2.2.2 z0.2.2.2
  have hsz := z0.2.2.2.2
  have sz : RightR a b fl l = 0 → (headB b fl ++ propsB l (whichF fl 0) 0).size ≤ 4503599627370496 := by
    intro hr
    obtain ⟨hf, _, _⟩ := right_form hr
    rw [size_append, headB_size ok.1.1 ok.1.2 hf.2.1]
    have hs : ∀ (is : List Nat) (n : Nat), n + is.length ≤ l.length → (propsB l is n).size ≤ 140737488351248 * is.length := by
      intro is
      induction is with
      | nil => intro n _; exact Nat.zero_le _
      | cons i is ih =>
        intro n hn
        rw [List.length_cons] at hn ⊢
        have h1 : (propB i (l.getD n z42)).size ≤ 140737488351248 := by
          have hg : l.getD n z42 ∈ l := by
            have : l.getD n z42 = l[n]'(by omega) := by simp [show n < l.length by omega]
            rw [this]
            exact List.getElem_mem _
          have h2 := (hsz _ hg).2
          unfold propB
          have p1 := pnum_size 1 (l.getD n z42).f0
          have p2 := pnum_size 8 (l.getD n z42).f0
          have p3 := lay_size 1 (l.getD n z42).f1
          split
          · omega
          · split
            · omega
            · split
              · omega
              · omega
        have h2 := ih (n + 1) (by omega)
        rw [propsB, size_append]
        omega
    have h1 := hs (whichF fl 0) 0 (by rw [Nat.zero_add, hf.2.2.2]; exact Nat.le_refl _)
    have := whichF_len fl
    omega
  obtain ⟨k, hk⟩ : ∃ k : Nat, l.length + 100 ≤ k := ⟨_, Nat.le_refl _⟩
  obtain ⟨k, rfl⟩ : ∃ j, k = j + 1 := ⟨k - 1, by omega⟩
  refine ⟨k + 1, ?_⟩
  clear z0 hsz g0 g1
  have z1 : b1.size ≤ 4503599627370496 := by omega
  have okt := ptake_ok z1
  have hT := Take_f z1
  have hB := Bytes_f (a := (ptakeR b1).1) okt
  have hR := Right_k (k := k) (by omega) (ptakeR b1).1 (ptakeR b1).2.1 (ptakeR b1).2.2.1 (ptakeR b1).2.2.2.1 okt
  have hR1 := Right_k (k := k + 1) (by omega) (ptakeR b1).1 (ptakeR b1).2.1 (ptakeR b1).2.2.1 (ptakeR b1).2.2.2.1 okt
  have hbk := bytes_take z1
  show interchangelaw07_PropsBack.f (k + 1) a b fl l b1 = some true
  unfold interchangelaw07_PropsBack.f
  rw [shown_t, Option.bind_some, Bytes_f ok, Option.bind_some]
  generalize ptakeR b1 = T at *
  by_cases e : RightR a b fl l = 0
  · have hbt : bytesR a b fl l = (headB b fl ++ propsB l (whichF fl 0) 0, 0) := by unfold bytesR; rw [if_pos e]
    rw [hbt]
    dsimp only
    rw [if_pos rfl, Take_f (sz e), Option.bind_some, take_bytes ok e]
    dsimp only
    rw [if_pos rfl, Same_k a b fl l a b fl l (by omega) ok.2.2.1, Option.bind_some, sameB_refl]
    rw [interchangelaw07_PropsBack.j0, if_neg (by decide), hT, Option.bind_some, hB, Option.bind_some, if_pos rfl]
    by_cases e2 : T.2.2.2.2 = 0
    · obtain ⟨_, h2, h3⟩ := hbk e2
      have hbt2 : bytesR T.1 T.2.1 T.2.2.1 T.2.2.2.1 = (headB T.2.1 T.2.2.1 ++ propsB T.2.2.2.1 (whichF T.2.2.1 0) 0, 0) := by unfold bytesR; rw [if_pos h2]
      rw [if_pos e2, hbt2]
      dsimp only
      rw [if_pos rfl, h3, if_pos rfl, hR, Option.bind_some, h2]
      rfl
    · rw [if_neg e2]
  · have hbt : bytesR a b fl l = (⟨#[]⟩, RightR a b fl l) := by unfold bytesR; rw [if_neg e]
    rw [hbt]
    dsimp only
    rw [if_neg e, hT, Option.bind_some, hB, Option.bind_some, if_pos rfl]
    by_cases e2 : T.2.2.2.2 = 0
    · obtain ⟨_, h2, h3⟩ := hbk e2
      have hbt2 : bytesR T.1 T.2.1 T.2.2.1 T.2.2.2.1 = (headB T.2.1 T.2.2.1 ++ propsB T.2.2.2.1 (whichF T.2.2.1 0) 0, 0) := by unfold bytesR; rw [if_pos h2]
      rw [if_pos e2, hbt2]
      dsimp only
      rw [if_pos rfl, h3, if_pos rfl, hR1, Option.bind_some, h2]
      rfl
    · rw [if_neg e2]
end Go.Proofs.YthpfcplhlhnfeaaDoor.F
namespace Go.Proofs.YthpfcplhlhnfeaaDoor.F
open Go.ChangeShapes Go.WideShapes Go.ChangeAt Go.RowKit Go.Proofs.YthpfcplhlhnfeaaDoorW.PrintWords Go.Proofs.YthpfcplhlhnfeaaDoorW.PrintLast
set_option linter.unusedVariables false
set_option linter.unusedSimpArgs false
set_option maxRecDepth 4000
set_option linter.unnecessarySimpa false

set_option maxHeartbeats 2000000 in
theorem propsBack_contract (H : Type) (enc : TypeId × Value → H) (W : World) (base : Nat) (args : Array Value) (ds gs : List (DataW H)) (before : List MemPlace)
    (hval0 : ∀ (j : Nat) t v, Tryd.f3.params[j]? = some t → args[j]? = some v → Value.okWide Tryd.prog W .any base t v)
    (hW : DataW.Whole enc Tryd.prog Tryd.f3.params.toList Rows.propsBackSpec.vars false W args.toList ds gs before) (hL : laidMetH Tryd.prog Rows.propsBackRow.laid W)
    (hsz : (DataW.weightsEach Tryd.prog (Tryd.f3.params.toList ++ (OpenSpec.ofChange Rows.propsBackSpec).bare.plain.varTypes Tryd.prog) (ds ++ gs)).all (· ≤ reachBytes) = true) :
    Calls Tryd.prog 3 args W fun e W' => ∃ v, e = .returned v ∧ Rows.propsBackSpec.post enc Tryd.prog Tryd.f3 false true false false W args v W' := by
  have hW' := hW
  obtain ⟨p, q, hA0, hV, rfl, hfz, hnd⟩ := hW
  have hA : DataW.TrodAll enc Tryd.prog W 0 (fun _ => true) true Tryd.f3.params.toList args.toList ds p := hA0
  have hval : ∀ (j : Nat) t v, Tryd.f3.params[j]? = some t → args[j]? = some v → Value.okWide Tryd.prog W .any base t v := hval0
  have hsz' : (DataW.weightsEach Tryd.prog (Tryd.f3.params.toList ++ []) (ds ++ gs)).all (· ≤ reachBytes) = true := hsz
  rw [Tryd.params3] at hA hval hsz'
  obtain ⟨v0, vs0, d0, ds0, p0, q0, hargs, rfl, rfl, h0, r0⟩ := trodAll_cons hA
  obtain ⟨v1, vs1, d1, ds1, p1, q1, rfl, rfl, rfl, h1, r1⟩ := trodAll_cons r0
  obtain ⟨rfl, rfl, rfl⟩ := trodAll_nil r1
  obtain rfl : args = #[v0, v1] := by cases args; simp_all
  obtain ⟨rfl, rfl⟩ := trodVars_none hV
  have hg := laid_of hL
  have k0 := h0
  have lt0 : ∀ x ∈ p0, x.block < W.heap.size := by obtain ⟨m, hm⟩ := k0; exact DataW.trod_lt m _ _ _ hm
  obtain ⟨fuel0, hf0⟩ := h0
  obtain ⟨b0, e0, g0, z0, u0⟩ := (opened_struct4 (n0 := 1) (n1 := 1) (n2 := 1) (n3 := 1) Tryd.underlying25 (by kernel_rfl) (by kernel_rfl) rfl (opened_int (k := .i64) Tryd.underlying3) (by kernel_rfl) rfl (opened_int (k := .u64) Tryd.underlying22) (by kernel_rfl) rfl (opened_int (k := .u64) Tryd.underlying22) (by kernel_rfl) rfl (opened_slice Tryd.underlying23 (by kernel_rfl) opened_42)).out enc W fuel0 _ _ hf0
  obtain ⟨c0_0_0, c0_0_1, c0_0_2, c0_0_3, eq0_0, e0_0_0, e0_0_1, e0_0_2, e0_0_3⟩ := e0
  replace e0_0_0 : c0_0_0 = [.int .i64 b0.1] := e0_0_0
  subst e0_0_0
  replace e0_0_1 : c0_0_1 = [.int .u64 b0.2.1] := e0_0_1
  subst e0_0_1
  replace e0_0_2 : c0_0_2 = [.int .u64 b0.2.2.1] := e0_0_2
  subst e0_0_2
  obtain ⟨A0_0_3, cc0_0_3, rfl, hc0_0_3, hr0_0_3⟩ := e0_0_3
  (try subst eq0_0)
  have hvv0 := shape_struct Tryd.underlying25 (hval 0 25 v0 rfl rfl) eq0_0
  simp only [List.cons_append, List.nil_append] at hvv0
  subst hvv0
  have k1 := h1
  have lt1 : ∀ x ∈ p1, x.block < W.heap.size := by obtain ⟨m, hm⟩ := k1; exact DataW.trod_lt m _ _ _ hm
  obtain ⟨fuel1, hf1⟩ := h1
  obtain ⟨b1, e1, g1, z1, u1⟩ := (opened_string Tryd.underlying9).out enc W fuel1 _ _ hf1
  obtain rfl := shape_string Tryd.underlying9 (hval 1 9 v1 rfl rfl) e1
  obtain ⟨k, hpure⟩ := propsBack_pure b0 b1 g0 g1 (z0 fun n hn => of_decide_eq_true (List.all_eq_true.1 hsz' n (DataW.weights_mem_each (j := 0) rfl rfl n hn))) (z1 fun n hn => of_decide_eq_true (List.all_eq_true.1 hsz' n (DataW.weights_mem_each (j := 1) rfl rfl n hn)))
  refine (interchangelaw07_PropsBack.calls k b0.1 b0.2.1 b0.2.2.1 A0_0_3 cc0_0_3 b0.2.2.2 b1 W hg hr0_0_3 hc0_0_3 hpure).mono fun e W' ⟨he, bel⟩ => ?_
  subst he
  exact ⟨_, rfl, _, _, _, [], _, [], hW', trodAll_mk1 (shut_bool Tryd.underlying4 _), (trodAll_cons_mk (Below.trod laid_out (by kernel_rfl) (of_decide_eq_true (by kernel_rfl)) k0 bel lt0) (trodAll_cons_mk (Below.trod laid_out (by kernel_rfl) (of_decide_eq_true (by kernel_rfl)) k1 bel lt1) trodAll_mk0)), rfl, bel.frame _, fun h => by cases h⟩

theorem propsBack_reads (os : Os) {H : Type} (enc : TypeId × Value → H) : ∃ places, DataW.whole enc Tryd.prog ((laid_world os).forCall (fun _ _ => 0) ⟨#[], #[.agg #[.int .i64 0, .int .u64 0, .int .u64 0, .slice none 0 0], .string ByteArray.empty], []⟩).memory Tryd.f3.params.toList Rows.propsBackSpec.vars false (#[.agg #[.int .i64 0, .int .u64 0, .int .u64 0, .slice none 0 0], .string ByteArray.empty] : Array Value).toList 8 = some ([.agg [.lit (.int .i64 0), .lit (.int .u64 0), .lit (.int .u64 0), .nil], .lit (.string [])], [], places) :=
  ⟨[], by kernel_rfl⟩
theorem propsBack_met (os : Os) : laidMet Tryd.prog Rows.propsBackRow.laid ((laid_world os).forCall (fun _ _ => 0) ⟨#[], #[.agg #[.int .i64 0, .int .u64 0, .int .u64 0, .slice none 0 0], .string ByteArray.empty], []⟩).memory :=
  laidMet_of_run' 8 (by kernel_rfl) (by kernel_rfl)
set_option maxRecDepth 100000 in
theorem propsBack_lifted (os : Os) (started : os.Started) (H : Type) (enc : TypeId × Value → H) (F : Stop.Interp) :
    ReturnsInHanded {} Tryd.checked os 3 .any ((OpenSpec.ofChange Rows.propsBackSpec).preRow enc Tryd.prog Tryd.f3 Rows.propsBackRow.domain false Rows.propsBackRow.laid) (((OpenSpec.ofChange Rows.propsBackSpec).at F).post enc Tryd.prog Tryd.f3 false true false false) := by
  obtain ⟨places, hx⟩ := propsBack_reads os enc
  refine returnsInHanded_of_row (C := Tryd.checked) (s := (OpenSpec.ofChange Rows.propsBackSpec)) own_knob started (by kernel_rfl) Tryd.func3
    (witness_row_at (enc := enc) (C := Tryd.checked) false (laid_world os) #[.agg #[.int .i64 0, .int .u64 0, .int .u64 0, .slice none 0 0], .string ByteArray.empty] rfl (by kernel_rfl) (by kernel_rfl) (by kernel_rfl)
      (OpenSpec.preRow_of_cond 8 hx (by kernel_rfl) (fun k hk => by cases hk) (by kernel_rfl) (propsBack_met os))) ?_
  intro W base args ds gs before hval hW _ hcond hsz hL _ _
  exact propsBack_contract H enc W base args ds gs before hval hW hL hsz
theorem propsBack_said : Rows.PropsBackSaid :=
  OpenClaim.holds_of_cond 3 Tryd.f3 rfl rfl rfl rfl rfl rfl rfl ⟨rfl, rfl, rfl, rfl, rfl⟩ rfl rfl rfl rfl rfl (by kernel_rfl) Tryd.func3 (by kernel_rfl)
    (of_decide_eq_true (by kernel_rfl)) (by unfold Func.isWrapper; first | (rw [if_pos (by decide +kernel)]; kernel_rfl) | (rw [if_neg (by decide +kernel)]; exact ⟨rfl, rfl⟩))
    (fun os started H enc _ F => by rw [OpenClaim.pre_eq_preRow]; exact propsBack_lifted os started H enc F)
theorem propsBack_plain (f : FuncId) (fn : Func) (hf : Tryd.pinned.checked.prog.funcNamed "interchange/interchangelaw07.PropsBack" = some f) (hfn : Tryd.pinned.checked.prog.funcs[f]? = some fn) :
    false = Tryd.pinned.checked.prog.looks [] ∧ ∀ (j : Nat) t, fn.params[j]? = some t → Tryd.pinned.checked.prog.wantsStandIn t = false := by
  obtain rfl : f = 3 := Option.some.inj ((show Tryd.prog.funcNamed "interchange/interchangelaw07.PropsBack" = some 3 by kernel_rfl).symm.trans hf) |>.symm
  obtain rfl : fn = Tryd.f3 := (Option.some.inj (Tryd.func3.symm.trans hfn)).symm
  refine ⟨by kernel_rfl, fun j t ht => ?_⟩
  rw [Tryd.params3] at ht
  have hm := Array.mem_of_getElem? ht
  simp only [List.mem_toArray, List.mem_cons, List.not_mem_nil, or_false] at hm
  rcases hm with rfl | rfl
  · exact (show Tryd.prog.wantsStandIn 25 = false by kernel_rfl)
  · exact (show Tryd.prog.wantsStandIn 9 = false by kernel_rfl)
theorem propsBack_holds : Rows.PropsBackCardSaid :=
  Claim7.holds_tied_plain_at .later [] _ _ _ _ propsBack_said (fun _ h => by cases h) (by kernel_rfl) (fun _ h => by cases h) propsBack_row_tie rfl ⟨rfl, rfl⟩ (by kernel_rfl) rfl propsBack_plain (by kernel_rfl)
#print axioms propsBack_holds
end Go.Proofs.YthpfcplhlhnfeaaDoor.F
