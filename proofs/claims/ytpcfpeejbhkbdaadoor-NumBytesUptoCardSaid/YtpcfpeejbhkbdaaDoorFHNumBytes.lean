/- The walk of NumBytes: bits have as many bytes as are needed; of whole bytes they are their own. -/
import Derived.Test.YtpcfpeejbhkbdaaDoorFPbitsput
import Derived.Test.YtpcfpeejbhkbdaaDoorFPrefBits
import Derived.Test.YtpcfpeejbhkbdaaDoorFHshown01
namespace Go.Proofs.YtpcfpeejbhkbdaaDoor.F
open Go.RowKit Go.Proofs.YtpcfpeejbhkbdaaDoorW.PrintWords Go.Proofs.YtpcfpeejbhkbdaaDoorW.PrintLast Go.Proofs.YtpcfpeejbhkbdaaDoorW.PrintMore
set_option linter.unusedVariables false
set_option linter.unusedSimpArgs false

section
variable {P : Program} {ops : Array Oper} {rest : List Oper} {o : Oper} {a : Act} {Q : Exit → Act → World → Prop}
theorem wpList_of_step {w : World} (hw : Region.wanted o (yielded ops a.tmps) = true) (h : if Region.wanted o (yielded ops a.tmps) = true then Oper.wp P o a w (wpList P ops Q rest) Q else wpList P ops Q rest (a.put o.dst undef) w) : wpList P ops Q (o :: rest) a w := by
  rw [if_pos hw] at h
  simp only [wpList, hw, if_true]
  exact .inl h
end
theorem own_empty (w w2 : World) (h : w.heap.size ≤ w2.heap.size) : Kd.R Kd.bool 4 (w2.alloc (.cells #[] 4)) w.heap.size (fun _ => True) (.slice (some ⟨w2.heap.size, 0, none⟩) 0 0) [] :=
  ⟨fun _ _ => trivial, [], ⟨rfl, .inr ⟨w2.heap.size, 0, #[], rfl, h, heap_alloc_new w2 _, Nat.le_refl _, by decide, rfl, rfl⟩⟩, Reps.none _ _⟩
theorem bits_whole (l m : List Bool) (h : l.length % 8 = 0) : bitsR (l ++ m) = bitsR l ++ bitsR m := by
  unfold bitsR
  rw [toBA_append]
  congr 1
  apply List.ext_getElem?
  intro g
  have hn : ((l ++ m).length + 7) / 8 = (l.length + 7) / 8 + (m.length + 7) / 8 := by rw [List.length_append]; omega
  rcases Nat.lt_or_ge g ((l.length + 7) / 8) with hg | hg
  · rw [List.getElem?_append_left (by simp; omega), List.getElem?_map, List.getElem?_map, List.getElem?_range (by omega), List.getElem?_range hg]
    have : byteAll (l ++ m) g = byteAll l g := psum_congr fun j hj => by
      rw [List.getD_eq_getElem?_getD, List.getD_eq_getElem?_getD, List.getElem?_append_left (by omega)]
    simp [this]
  · rw [List.getElem?_append_right (by simp; omega)]
    simp only [List.length_map, List.length_range, List.getElem?_map]
    rcases Nat.lt_or_ge g (((l ++ m).length + 7) / 8) with hg2 | hg2
    · rw [List.getElem?_range hg2, List.getElem?_range (by omega)]
      have : byteAll (l ++ m) g = byteAll m (g - (l.length + 7) / 8) := psum_congr fun j hj => by
        rw [List.getD_eq_getElem?_getD, List.getD_eq_getElem?_getD, List.getElem?_append_right (by omega)]
        congr 2
        omega
      simp [this]
    · rw [List.getElem?_eq_none (by simp; omega), List.getElem?_eq_none (by simp; omega)]
      rfl

def interchangelaw01_NumBytes.f (l0 l1 : List Bool) : Option Bool := if l0.length ≤ 1048576 ∧ l1.length ≤ 1048576 then some true else none

set_option maxHeartbeats 4000000 in
set_option maxRecDepth 100000 in
theorem numBytes_walk (A0 : Option Addr) (c0 : Nat) (l0 : List Bool) (A1 : Option Addr) (c1 : Nat) (l1 : List Bool) (w : World) (hg : Laid w) (hr0 : Kd.C Kd.bool w A0 l0.length l0) (hc0 : l0.length ≤ c0) (hr1 : Kd.C Kd.bool w A1 l1.length l1) (hc1 : l1.length ≤ c1)
    (h0 : l0.length ≤ 1048576) (h1 : l1.length ≤ 1048576) (hm : l0.length % 8 = 0) :
    Calls Tryd.prog 4 #[.slice A0 l0.length c0, .slice A1 l1.length c1] w fun e w' => e = .returned (.bool true) ∧ Below w.heap.size w w' := by
  have HG := Aside0.mk hg
  have HR0 := Aside0.mk hr0
  have HR1 := Aside0.mk hr1
  have hb0 := Aside0.mk (bits_at l0 (by omega))
  have hb1 := Aside0.mk (bits_at l1 (by omega))
  have hb2 := Aside0.mk (bits_at (l0 ++ l1) (by rw [List.length_append]; omega))
  have hrb := Aside0.mk (rb_k (k := 10 * ((l0.length + 7) / 8) + 1) l0 (by omega) (by omega))
  have hw := Aside0.mk (bits_whole l0 l1 hm)
  have hs : (((bitsR l0).size : Int) != ((l0.length : Int) + 7) / 8) = false := by rw [bitsR_size, bne_eq_false_iff_eq]; omega
  have hs2 : (((l0.length : Int) % 8) != 0) = false := by rw [bne_eq_false_iff_eq]; omega
  have hs3 : (bitsR l0).size ≤ 1048576 := by rw [bitsR_size]; omega
  have hs4 : (bitsR l1).size ≤ 1048576 := by rw [bitsR_size]; omega
  have HM := Aside0.mk hm
  clear hg hr0 hr1 hm
  go_enter Tryd.func4, Tryd.ntmps4
  go_wp2_with fail
  refine (interchangelaw01_shown.calls true _ HG.out rfl).mono ?_
  rintro e w1 ⟨rfl, hx⟩
  have HB1 := Aside0.mk hx
  clear hx
  go_wp2_with fail
  refine (num_Bits.calls A0 c0 l0 (bitsR l0) _ (Kd.C_below HR0.out HB1.out) hc0 hb0.out).mono ?_
  rintro e w2 ⟨rfl, hx⟩
  have HB2 := Aside0.mk (below_step HB1.out hx)
  clear hx HB1
  have HO := Aside0.mk (own_empty w w2 HB2.out.size)
  have HR0' := Aside0.mk (Kd.C_alloc (Kd.C_below HR0.out HB2.out) (.cells #[] 4))
  have HR1' := Aside0.mk (Kd.C_alloc (Kd.C_below HR1.out HB2.out) (.cells #[] 4))
  have HB3 := Aside0.mk (below_alloc HB2.out (.cells #[] 4))
  have hk1 := (HB3.out).size
  go_wp2_with (first | (at_builtin; (refine wpList_of_step ?hw (Kd.R_append_rows_step Kd.bool (w0 := w) w.heap.size ?hw (.tmp 24) (.tmp 25) 28 4 (.bool false) 1 rfl Tryd.underlying28 info4 rfl (by decide) (by decide) _ [] l0 _ _ _ (fun _ => True) (fun _ => False) rfl rfl HO.out HR0'.out (fun _ _ h => h) (fun _ h => h.elim) (fun _ _ => trivial) HB3.out hk1 (by simp; omega) ?_)); (case hw => rfl); intro v1 w3 ho3 hb3 hg3 hat3; have HO3 : Aside0 (Kd.R Kd.bool 4 w3 w.heap.size (fun _ => True) v1 l0) := Aside0.mk ho3; have HB4 := Aside0.mk hb3; have HR3 := Aside0.mk (Kd.C_below HR1.out HB4.out); have hk3 := hb3.size; clear ho3 hb3 hg3 hat3) | (at_builtin; (refine wpList_of_step ?hw (Kd.R_append_rows_step Kd.bool (w0 := w) w.heap.size ?hw (.tmp 26) (.tmp 27) 28 4 (.bool false) 1 rfl Tryd.underlying28 info4 rfl (by decide) (by decide) v1 l0 l1 _ _ _ (fun _ => True) (fun _ => False) rfl rfl HO3.out HR3.out (fun _ _ h => h) (fun _ h => h.elim) (fun _ _ => trivial) HB4.out hk3 (by omega) ?_)); (case hw => rfl); intro v2 w4 ho4 hb4 hg4 hat4; have HO4 := Aside0.mk ho4; have HB5 := Aside0.mk hb4; have HR0'' := Aside0.mk (Kd.C_below HR0.out HB5.out); have HR1'' := Aside0.mk (Kd.C_below HR1.out HB5.out); have hk5 := hb4.size; clear ho4 hb4 hg4 hat4))
  obtain ⟨A2, c2, hv2, hc2, hr2⟩ := Kd.R_reads HO4.out
  subst hv2
  have HR2 := Aside0.mk hr2
  clear hr2
  go_wp2_with fail
  refine (num_Bits.calls A2 c2 (l0 ++ l1) (bitsR (l0 ++ l1)) _ HR2.out hc2 hb2.out).mono ?_
  rintro e w5 ⟨rfl, hx⟩
  have HB6 := Aside0.mk (below_step HB5.out hx)
  clear hx
  go_wp2_with fail
  refine (num_Bits.calls A1 c1 l1 (bitsR l1) _ (Kd.C_below HR1.out HB6.out) hc1 hb1.out).mono ?_
  rintro e w6 ⟨rfl, hx⟩
  have HB7 := Aside0.mk (below_step HB6.out hx)
  clear hx
  have heq : ((bitsR (l0 ++ l1)).toList == (bitsR l0 ++ bitsR l1).toList) = true := by rw [hw.out]; simp
  go_wp2_with fail
  refine (interchangeref01_Bits.calls (10 * ((l0.length + 7) / 8) + 1) A0 c0 l0 (bitsR l0) _ (Kd.C_below HR0.out HB7.out) hc0 hrb.out).mono ?_
  rintro e w7 ⟨rfl, hx⟩
  have HB8 := Aside0.mk (below_step HB7.out hx)
  clear hx
  go_wp2
  go_ret
  exact ⟨by simp, HB8.out⟩
theorem numBytes_walk2 (A0 : Option Addr) (c0 : Nat) (l0 : List Bool) (A1 : Option Addr) (c1 : Nat) (l1 : List Bool) (w : World) (hg : Laid w) (hr0 : Kd.C Kd.bool w A0 l0.length l0) (hc0 : l0.length ≤ c0)
    (h0 : l0.length ≤ 1048576) (hm : ¬ l0.length % 8 = 0) :
    Calls Tryd.prog 4 #[.slice A0 l0.length c0, .slice A1 l1.length c1] w fun e w' => e = .returned (.bool true) ∧ Below w.heap.size w w' := by
  have HG := Aside0.mk hg
  have HR0 := Aside0.mk hr0
  have hb0 := Aside0.mk (bits_at l0 (by omega))
  have hs : (((bitsR l0).size : Int) != ((l0.length : Int) + 7) / 8) = false := by rw [bitsR_size, bne_eq_false_iff_eq]; omega
  have hs2 : (((l0.length : Int) % 8) != 0) = true := by rw [bne_iff_ne]; omega
  have hs3 : (bitsR l0).size ≤ 1048576 := by rw [bitsR_size]; omega
  clear hg hr0 hm
  go_enter Tryd.func4, Tryd.ntmps4
  go_wp2_with fail
  refine (interchangelaw01_shown.calls true _ HG.out rfl).mono ?_
  rintro e w1 ⟨rfl, hx⟩
  have HB1 := Aside0.mk hx
  clear hx
  go_wp2_with fail
  refine (num_Bits.calls A0 c0 l0 (bitsR l0) _ (Kd.C_below HR0.out HB1.out) hc0 hb0.out).mono ?_
  rintro e w2 ⟨rfl, hx⟩
  have HB2 := Aside0.mk (below_step HB1.out hx)
  clear hx HB1
  go_wp2
  go_ret
  exact ⟨rfl, HB2.out⟩
theorem interchangelaw01_NumBytes.calls (A0 : Option Addr) (c0 : Nat) (l0 : List Bool) (A1 : Option Addr) (c1 : Nat) (l1 : List Bool) (r : Bool) (w : World) (hg : Laid w) (hr0 : Kd.C Kd.bool w A0 l0.length l0) (hc0 : l0.length ≤ c0) (hr1 : Kd.C Kd.bool w A1 l1.length l1) (hc1 : l1.length ≤ c1)
    (h : interchangelaw01_NumBytes.f l0 l1 = some r) :
    Calls Tryd.prog 4 #[.slice A0 l0.length c0, .slice A1 l1.length c1] w fun e w' => e = .returned (.bool r) ∧ Below w.heap.size w w' := by
  unfold interchangelaw01_NumBytes.f at h
  split at h
  · rename_i hl
    obtain rfl := Option.some.inj h
    by_cases hm : l0.length % 8 = 0
    · exact numBytes_walk A0 c0 l0 A1 c1 l1 w hg hr0 hc0 hr1 hc1 hl.1 hl.2 hm
    · exact numBytes_walk2 A0 c0 l0 A1 c1 l1 w hg hr0 hc0 hl.1 hm
  · cases h
theorem sum_ones (l : List Bool) : (l.map fun _ => 1).sum = l.length := by
  induction l with
  | nil => rfl
  | cons a l ih => rw [List.map_cons, List.sum_cons, ih, List.length_cons]; omega
theorem numBytes_pure (b0 b1 : List Bool) (g0 : b0.length ≤ maxLen ∧ ∀ x ∈ b0, True) (g1 : b1.length ≤ maxLen ∧ ∀ x ∈ b1, True) (hb : ((b0.map fun _ => 1).sum + 1) + ((b1.map fun _ => 1).sum + 1) ≤ 1048576) : ∃ k : Nat, interchangelaw01_NumBytes.f b0 b1 = some true := by
  rw [sum_ones, sum_ones] at hb
  exact ⟨0, by unfold interchangelaw01_NumBytes.f; rw [if_pos ⟨by omega, by omega⟩]⟩
end Go.Proofs.YtpcfpeejbhkbdaaDoor.F
