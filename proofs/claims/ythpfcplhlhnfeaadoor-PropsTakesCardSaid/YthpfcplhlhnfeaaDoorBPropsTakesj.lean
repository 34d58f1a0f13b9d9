/- Heads' bytes, which are right, and the heads of bytes, are as the document says, for every input. -/
import Derived.Test.YthpfcplhlhnfeaaDoorRows
import Derived.SizedLaws
import Derived.ProofKit
import Derived.OpenShut
import Derived.Deep.Slices
import Derived.Lib.LaidTab
import Derived.Deep.DeepHandedRow
import Derived.Test.YthpfcplhlhnfeaaDoorCards
import Derived.Test.YthpfcplhlhnfeaaDoorTie
import Derived.WalkKit
import Derived.Carry
import Derived.SevenTiedAt
import Derived.Test.YthpfcplhlhnfeaaDoorBPropsTakesa
import Derived.Test.YthpfcplhlhnfeaaDoorBPropsTakesb
import Derived.Test.YthpfcplhlhnfeaaDoorBPropsTakesc
import Derived.Test.YthpfcplhlhnfeaaDoorBPropsTakesd
import Derived.Test.YthpfcplhlhnfeaaDoorBPropsTakese
import Derived.Test.YthpfcplhlhnfeaaDoorBPropsTakesf
import Derived.Test.YthpfcplhlhnfeaaDoorBPropsTakesg
import Derived.Test.YthpfcplhlhnfeaaDoorBPropsTakesh
import Derived.Test.YthpfcplhlhnfeaaDoorBPropsTakesi
namespace Go.Proofs.YthpfcplhlhnfeaaDoor.F
open Go.RowKit Go.Proofs.YthpfcplhlhnfeaaDoorW.PrintWords Go.Proofs.YthpfcplhlhnfeaaDoorW.PrintLast Go.Proofs.YthpfcplhlhnfeaaDoorW.PrintMore
set_option linter.unusedVariables false
set_option linter.unusedSimpArgs false
set_option maxRecDepth 4000

theorem drop_split {β : Type} (cs : List β) (o n : Nat) : cs.drop o = (cs.drop o).take n ++ cs.drop (o + n) := by
  rw [← List.drop_drop, List.take_append_drop]

structure Opened {α : Type} (t : TypeId) (R : World → α → List Value → Prop) (good sized : α → Prop) (bulk : α → Nat) : Prop where
  out : ∀ {H : Type} (enc : TypeId × Value → H) (W : World) (fuel : Nat) (cs : List Value) (y : DataW H × List MemPlace),
    DataW.trod enc Tryd.prog W 0 (fun _ => true) true fuel t cs = some y → ∃ a : α, R W a cs ∧ good a ∧ ((∀ n ∈ y.1.weights Tryd.prog t, n ≤ reachBytes) → sized a) ∧ bulk a ≤ Rows.uptoBulk y.1

theorem Opened.iso {α β : Type} {t : TypeId} {R : World → α → List Value → Prop} {g s : α → Prop} {b : α → Nat} (h : Opened t R g s b) (f : α → β) {R' : World → β → List Value → Prop} {g' s' : β → Prop} {b' : β → Nat}
    (hR : ∀ W a cs, R W a cs → R' W (f a) cs) (hg : ∀ a, g a → g' (f a)) (hs : ∀ a, s a → s' (f a)) (hb : ∀ a, b' (f a) ≤ b a) : Opened t R' g' s' b' := by
  constructor
  intro H enc W fuel cs y hy
  obtain ⟨a, r, k, z, u⟩ := h.out enc W fuel cs y hy
  exact ⟨f a, hR _ _ _ r, hg _ k, fun hw => hs _ (z hw), Nat.le_trans (hb a) u⟩

theorem opened_int {t : TypeId} {k : IntKind} (ht : Tryd.prog.underlying t = some (.int k)) : Opened t (Kd.int k).K (fun a => (Lit.int k a).wf = true) (fun _ => True) (fun _ => 1) := by
  constructor
  intro H enc W fuel cs y hy
  cases fuel with
  | zero => simp [DataW.trod] at hy
  | succ fuel =>
    unfold DataW.trod at hy
    rw [ht] at hy
    split at hy <;> simp_all
    obtain ⟨⟨rfl, h⟩, rfl⟩ := hy
    exact ⟨_, rfl, h, by simp [Rows.uptoBulk]⟩
theorem opened_bool {t : TypeId} (ht : Tryd.prog.underlying t = some .bool) : Opened t Kd.bool.K (fun _ => True) (fun _ => True) (fun _ => 1) := by
  constructor
  intro H enc W fuel cs y hy
  cases fuel with
  | zero => simp [DataW.trod] at hy
  | succ fuel =>
    unfold DataW.trod at hy
    rw [ht] at hy
    cases cs with
    | nil => simp at hy
    | cons v r =>
      cases r with
      | cons _ _ => cases v <;> simp at hy
      | nil =>
        cases v <;> simp at hy
        rename_i b
        subst hy
        exact ⟨b, rfl, trivial, fun _ => trivial, by simp [Rows.uptoBulk]⟩
theorem opened_string {t : TypeId} (ht : Tryd.prog.underlying t = some .string) : Opened t Kd.string.K (fun a => a.size ≤ maxLen) (fun a => a.size ≤ 140737488351232) (fun a => a.size + 1) := by
  constructor
  intro H enc W fuel cs y hy
  cases fuel with
  | zero => simp [DataW.trod] at hy
  | succ fuel =>
    unfold DataW.trod at hy
    rw [ht] at hy
    cases cs with
    | nil => simp at hy
    | cons v r =>
      cases r with
      | cons _ _ => cases v <;> simp at hy
      | nil =>
        cases v <;> simp at hy
        rename_i s
        obtain ⟨h, rfl⟩ := hy
        have e : s.data.toList.length = s.size := by simp
        refine ⟨s, rfl, h, ?_, ?_⟩
        · intro hw
          have := hw s.data.toList.length (by simp [DataW.weights])
          rw [e] at this
          exact Nat.le_trans this (by decide)
        · simp only [Rows.uptoBulk]; omega

/-- a value's shape, out of its one cell -/
theorem shape_int {t : TypeId} {k : IntKind} {W : World} {r : Reach} {b : Nat} {v : Value} {a : Int} (ht : Tryd.prog.underlying t = some (.int k)) (hv : Value.okWide Tryd.prog W r b t v) (h : (Kd.int k).K W a v.cells.toList) : v = .int k a := by
  obtain ⟨n, rfl⟩ := WideShapes.okWide_int ht hv
  have h' : [Value.int k n] = [Value.int k a] := h
  simpa using h'
theorem shape_bool {t : TypeId} {W : World} {r : Reach} {b : Nat} {v : Value} {a : Bool} (ht : Tryd.prog.underlying t = some .bool) (hv : Value.okWide Tryd.prog W r b t v) (h : Kd.bool.K W a v.cells.toList) : v = .bool a := by
  obtain ⟨n, rfl⟩ := WideShapes.okWide_bool ht hv
  have h' : [Value.bool n] = [Value.bool a] := h
  simpa using h'
theorem shape_string {t : TypeId} {W : World} {r : Reach} {b : Nat} {v : Value} {a : ByteArray} (ht : Tryd.prog.underlying t = some .string) (hv : Value.okWide Tryd.prog W r b t v) (h : Kd.string.K W a v.cells.toList) : v = .string a := by
  obtain ⟨n, rfl⟩ := WideShapes.okWide_string ht hv
  have h' : [Value.string n] = [Value.string a] := h
  simpa using h'
theorem shape_slice {α : Type} {t e : TypeId} {d : Kd α} {W : World} {r : Reach} {b : Nat} {v : Value} {l : List α} (ht : Tryd.prog.underlying t = some (.slice e)) (hv : Value.okWide Tryd.prog W r b t v) (h : (Kd.slice e d).K W l v.cells.toList) : ∃ A c, v = .slice A l.length c ∧ l.length ≤ c ∧ d.C W A l.length l := by
  obtain ⟨a, n, m, rfl⟩ := WideShapes.okWide_slice ht hv
  obtain ⟨A, c, h1, h2, h3⟩ := h
  have h' : [Value.slice a n m] = [Value.slice A l.length c] := h1
  exact ⟨A, c, by simpa using h', h2, h3⟩
theorem shape_struct {t : TypeId} {fs : Array Field} {W : World} {r : Reach} {b : Nat} {v : Value} {l : List Value} (ht : Tryd.prog.underlying t = some (.struct fs)) (hv : Value.okWide Tryd.prog W r b t v) (h : v.cells.toList = l) : v = .agg l.toArray := by
  obtain ⟨cs, rfl, _⟩ := WideShapes.okWide_struct ht hv
  have h' : cs.toList = l := h
  subst h'
  rfl
theorem laid_out : laidOutB Tryd.prog = true := by kernel_rfl
theorem own_knob : ownKnob Tryd.prog.godebug = none := by kernel_rfl

theorem exists_list {α : Type} {n : Nat} {p : Nat → α → Prop} (h : ∀ i, i < n → ∃ x, p i x) : ∃ l : List α, l.length = n ∧ ∀ i x, l[i]? = some x → p i x := by
  induction n with
  | zero => exact ⟨[], rfl, fun i x hx => by simp at hx⟩
  | succ n ih =>
    obtain ⟨l, hl, hp⟩ := ih (fun i hi => h i (by omega))
    obtain ⟨x, hx⟩ := h n (by omega)
    refine ⟨l ++ [x], by simp [hl], fun i y hy => ?_⟩
    rcases Nat.lt_trichotomy i l.length with hlt | heq | hgt
    · rw [List.getElem?_append_left hlt] at hy; exact hp i y hy
    · subst heq
      rw [List.getElem?_append_right (Nat.le_refl _)] at hy
      simp at hy
      subst hy
      rw [hl]; exact hx
    · rw [List.getElem?_append_right (by omega)] at hy
      have : i - l.length = (i - l.length - 1) + 1 := by omega
      rw [this] at hy
      simp at hy

theorem bulk_sum {α H : Type} (b : α → Nat) : ∀ (l : List α) (ds : List (DataW H)), l.length = ds.length → (∀ (i : Nat) (x : α) (d : DataW H), l[i]? = some x → ds[i]? = some d → b x ≤ Rows.uptoBulk d) → (l.map b).sum ≤ Rows.uptoBulkAll ds
  | [], [], _, _ => by simp [Rows.uptoBulkAll]
  | x :: l, d :: ds, h, hb => by
    have h1 := hb 0 x d rfl rfl
    have h2 := bulk_sum b l ds (by simpa using h) (fun i y e hy he => hb (i + 1) y e (by simpa using hy) (by simpa using he))
    simp only [List.map_cons, List.sum_cons, Rows.uptoBulkAll]
    omega
  | [], _ :: _, h, _ => by simp at h
  | _ :: _, [], h, _ => by simp at h

theorem weights_mem_all {H : Type} {P : Program} {e : TypeId} : ∀ {ds : List (DataW H)} {d : DataW H} {n : Nat}, d ∈ ds → n ∈ d.weights P e → n ∈ DataW.weightsAll P e ds
  | x :: ds, d, n, hd, hn => by
    simp only [DataW.weightsAll, List.mem_append]
    rcases List.mem_cons.1 hd with rfl | hd
    · exact .inl hn
    · exact .inr (weights_mem_all hd hn)
  | [], _, _, hd, _ => by simp at hd

theorem opened_slice {α : Type} {t e : TypeId} {d : Kd α} {g s : α → Prop} {b : α → Nat} (ht : Tryd.prog.underlying t = some (.slice e)) (hsz : Tryd.prog.cellsOf e = d.sz) (h : Opened e d.K g s b) :
    Opened t (Kd.slice e d).K (fun l => l.length ≤ maxLen ∧ ∀ x ∈ l, g x) (fun l => l.length * Tryd.prog.bytesOf e ≤ 140737488351232 ∧ ∀ x ∈ l, s x) (fun l => (l.map b).sum + 1) := by
  constructor
  intro H enc W fuel cs y hy
  rcases DataW.trod_slice ht hy with ⟨rfl, rfl⟩ | ⟨a, len, cap, elems, rest, n, rfl, rfl, rfl, hba, hl, hm, hlen, hel, _, _⟩
  · refine ⟨[], ⟨none, 0, rfl, Nat.le_refl _, rfl, by simp, fun h0 => absurd h0 (by simp)⟩, ⟨by simp, by simp⟩, fun _ => ⟨by simp, by simp⟩, by simp [Rows.uptoBulk]⟩
  · have hx : ∀ i, i < len → ∃ x : α, (∃ c y, W.cells? 0 (a.add (i * Tryd.prog.cellsOf e)) (Tryd.prog.cellsOf e) = some c ∧ elems[i]? = some y ∧ d.K W x c ∧ g x ∧ ((∀ n ∈ y.1.weights Tryd.prog e, n ≤ reachBytes) → s x) ∧ b x ≤ Rows.uptoBulk y.1) := by
      intro i hi
      have h1 := hel i hi
      have h2 : elems[i]? = some elems[i] := List.getElem?_eq_getElem (by omega)
      rw [h2] at h1
      obtain ⟨c, hc, hd⟩ := Option.bind_eq_some_iff.1 h1
      obtain ⟨x, r, k, z, u⟩ := h.out enc W n c _ hd
      exact ⟨x, c, _, hc, h2, r, k, z, u⟩
    obtain ⟨l, hll, hp⟩ := exists_list hx
    have hmem : ∀ x ∈ l, ∃ y, y ∈ elems ∧ g x ∧ ((∀ n ∈ y.1.weights Tryd.prog e, n ≤ reachBytes) → s x) := by
      intro x hx
      obtain ⟨i, hi⟩ := List.mem_iff_getElem?.1 hx
      obtain ⟨c, y, _, hy, _, k, z, _⟩ := hp i x hi
      exact ⟨y, List.mem_of_getElem? hy, k, z⟩
    refine ⟨l, ⟨some a, cap, by rw [hll], by omega, rfl, ?_, fun h0 => ⟨a, rfl, fun j p hj => ?_⟩⟩, ⟨by omega, fun x hx => ?_⟩, fun hw => ⟨?_, fun x hx => ?_⟩, ?_⟩
    · unfold maxLen at hm; omega
    · obtain ⟨c, y, hc, _, r, _⟩ := hp j p hj
      obtain ⟨_, hc1, hc2⟩ := World.cells?_some hc
      refine ⟨c, d.K_len r, r, fun i u hu => ?_⟩
      have := hc2 i (by have := (List.getElem?_eq_some_iff.1 hu).1; omega)
      rw [hu, hsz, Deep.add_add] at this
      exact this
    · obtain ⟨y, _, k, _⟩ := hmem x hx
      exact k
    · have := hw ((elems.length + rest.length) * Tryd.prog.bytesOf e) (by simp [DataW.weights, ht])
      have h2 : l.length * Tryd.prog.bytesOf e ≤ (elems.length + rest.length) * Tryd.prog.bytesOf e := Nat.mul_le_mul_right _ (by omega)
      exact Nat.le_trans (Nat.le_trans h2 this) (by decide)
    · obtain ⟨y, hy, _, z⟩ := hmem x hx
      exact z fun n hn => hw n (by
        simp only [DataW.weights, ht, List.mem_cons, List.mem_append]
        exact .inr (.inl (weights_mem_all (List.mem_map_of_mem hy) hn)))
    · have := bulk_sum b l (elems.map (·.1)) (by simp; omega) (fun i x dd hx hd => by
        obtain ⟨c, y, _, hy, _, _, _, u⟩ := hp i x hx
        rw [List.getElem?_map, hy] at hd
        simp at hd
        subst hd
        exact u)
      simp only [Rows.uptoBulk]
      omega

theorem cells_split1 {β : Type} {cs : List β} {n0 : Nat} (h : cs.length = n0) : cs = (cs.drop (0)).take n0 := by
  have q : (cs.drop (0)).take n0 = cs.drop (0) := List.take_of_length_le (by rw [List.length_drop]; omega)
  rw [q]
  rfl
theorem opened_struct1 {α0 : Type} {t : TypeId} {f0 : Field} {n0 : Nat}
    {R0 : World → α0 → List Value → Prop} {g0 s0 : α0 → Prop} {b0 : α0 → Nat}
    (hs : Tryd.prog.underlying t = some (.struct #[f0])) (hc : Tryd.prog.cellsOf t = n0)
    (hn0 : Tryd.prog.cellsOf f0.type = n0) (ho0 : f0.offset = 0) (h0 : Opened f0.type R0 g0 s0 b0)
    : Opened t (fun W (a : α0) cs => ∃ c0, cs = c0 ∧ R0 W a c0) (fun a => g0 a) (fun a => s0 a) (fun a => b0 a) := by
  constructor
  intro H enc W fuel cs y hy
  obtain ⟨xs, m, rfl, rfl, hl, hx, hf⟩ := DataW.trod_struct hs hy
  obtain ⟨x0, rfl⟩ : ∃ x0, xs = [x0] := by
    match xs, hx with
    | [x0], _ => exact ⟨x0, rfl⟩
  have e0 := hf 0 f0 rfl
  rw [hn0, ho0] at e0
  obtain ⟨a0, r0, k0, z0, u0⟩ := h0.out enc W m _ _ (e0.trans rfl)
  rw [hc] at hl
  refine ⟨a0, ⟨_, ?_, r0⟩, k0, fun hw => ?_, ?_⟩
  · exact cells_split1 hl
  · have hw' : ∀ n ∈ DataW.weightsEach Tryd.prog [f0.type] [x0.1], n ≤ reachBytes := fun n hn => hw n (by simp only [DataW.weights, hs]; exact hn)
    exact z0 fun n hn => hw' n (DataW.weights_mem_each (j := 0) rfl rfl n hn)
  · simp only [Rows.uptoBulk, Rows.uptoBulkAll, List.map]
    omega

theorem cells_split2 {β : Type} {cs : List β} {n0 n1 : Nat} (h : cs.length = n0 + n1) : cs = (cs.drop (0)).take n0 ++ ((cs.drop (n0)).take n1) := by
  have p0 := drop_split cs (0) n0
  rw [Nat.zero_add] at p0
  have q : (cs.drop (n0)).take n1 = cs.drop (n0) := List.take_of_length_le (by rw [List.length_drop]; omega)
  rw [q]
  rw [← p0]
  rfl
theorem opened_struct2 {α0 α1 : Type} {t : TypeId} {f0 f1 : Field} {n0 n1 : Nat}
    {R0 : World → α0 → List Value → Prop} {g0 s0 : α0 → Prop} {b0 : α0 → Nat}
    {R1 : World → α1 → List Value → Prop} {g1 s1 : α1 → Prop} {b1 : α1 → Nat}
    (hs : Tryd.prog.underlying t = some (.struct #[f0, f1])) (hc : Tryd.prog.cellsOf t = n0 + n1)
    (hn0 : Tryd.prog.cellsOf f0.type = n0) (ho0 : f0.offset = 0) (h0 : Opened f0.type R0 g0 s0 b0)
    (hn1 : Tryd.prog.cellsOf f1.type = n1) (ho1 : f1.offset = n0) (h1 : Opened f1.type R1 g1 s1 b1)
    : Opened t (fun W (a : α0 × α1) cs => ∃ c0 c1, cs = c0 ++ (c1) ∧ R0 W a.1 c0 ∧ R1 W a.2 c1) (fun a => g0 a.1 ∧ g1 a.2) (fun a => s0 a.1 ∧ s1 a.2) (fun a => b0 a.1 + b1 a.2) := by
  constructor
  intro H enc W fuel cs y hy
  obtain ⟨xs, m, rfl, rfl, hl, hx, hf⟩ := DataW.trod_struct hs hy
  obtain ⟨x0, x1, rfl⟩ : ∃ x0 x1, xs = [x0, x1] := by
    match xs, hx with
    | [x0, x1], _ => exact ⟨x0, x1, rfl⟩
  have e0 := hf 0 f0 rfl
  rw [hn0, ho0] at e0
  obtain ⟨a0, r0, k0, z0, u0⟩ := h0.out enc W m _ _ (e0.trans rfl)
  have e1 := hf 1 f1 rfl
  rw [hn1, ho1] at e1
  obtain ⟨a1, r1, k1, z1, u1⟩ := h1.out enc W m _ _ (e1.trans rfl)
  rw [hc] at hl
  refine ⟨(a0, a1), ⟨_, _, ?_, r0, r1⟩, ⟨k0, k1⟩, fun hw => ?_, ?_⟩
  · exact cells_split2 hl
  · have hw' : ∀ n ∈ DataW.weightsEach Tryd.prog [f0.type, f1.type] [x0.1, x1.1], n ≤ reachBytes := fun n hn => hw n (by simp only [DataW.weights, hs]; exact hn)
    exact ⟨z0 fun n hn => hw' n (DataW.weights_mem_each (j := 0) rfl rfl n hn), z1 fun n hn => hw' n (DataW.weights_mem_each (j := 1) rfl rfl n hn)⟩
  · simp only [Rows.uptoBulk, Rows.uptoBulkAll, List.map]
    omega

theorem cells_split3 {β : Type} {cs : List β} {n0 n1 n2 : Nat} (h : cs.length = n0 + n1 + n2) : cs = (cs.drop (0)).take n0 ++ ((cs.drop (n0)).take n1 ++ ((cs.drop (n0 + n1)).take n2)) := by
  have p0 := drop_split cs (0) n0
  rw [Nat.zero_add] at p0
  have p1 := drop_split cs (n0) n1
  have q : (cs.drop (n0 + n1)).take n2 = cs.drop (n0 + n1) := List.take_of_length_le (by rw [List.length_drop]; omega)
  rw [q]
  rw [← p1]
  rw [← p0]
  rfl
theorem opened_struct3 {α0 α1 α2 : Type} {t : TypeId} {f0 f1 f2 : Field} {n0 n1 n2 : Nat}
    {R0 : World → α0 → List Value → Prop} {g0 s0 : α0 → Prop} {b0 : α0 → Nat}
    {R1 : World → α1 → List Value → Prop} {g1 s1 : α1 → Prop} {b1 : α1 → Nat}
    {R2 : World → α2 → List Value → Prop} {g2 s2 : α2 → Prop} {b2 : α2 → Nat}
    (hs : Tryd.prog.underlying t = some (.struct #[f0, f1, f2])) (hc : Tryd.prog.cellsOf t = n0 + n1 + n2)
    (hn0 : Tryd.prog.cellsOf f0.type = n0) (ho0 : f0.offset = 0) (h0 : Opened f0.type R0 g0 s0 b0)
    (hn1 : Tryd.prog.cellsOf f1.type = n1) (ho1 : f1.offset = n0) (h1 : Opened f1.type R1 g1 s1 b1)
    (hn2 : Tryd.prog.cellsOf f2.type = n2) (ho2 : f2.offset = n0 + n1) (h2 : Opened f2.type R2 g2 s2 b2)
    : Opened t (fun W (a : α0 × α1 × α2) cs => ∃ c0 c1 c2, cs = c0 ++ (c1 ++ (c2)) ∧ R0 W a.1 c0 ∧ R1 W a.2.1 c1 ∧ R2 W a.2.2 c2) (fun a => g0 a.1 ∧ g1 a.2.1 ∧ g2 a.2.2) (fun a => s0 a.1 ∧ s1 a.2.1 ∧ s2 a.2.2) (fun a => b0 a.1 + b1 a.2.1 + b2 a.2.2) := by
  constructor
  intro H enc W fuel cs y hy
  obtain ⟨xs, m, rfl, rfl, hl, hx, hf⟩ := DataW.trod_struct hs hy
  obtain ⟨x0, x1, x2, rfl⟩ : ∃ x0 x1 x2, xs = [x0, x1, x2] := by
    match xs, hx with
    | [x0, x1, x2], _ => exact ⟨x0, x1, x2, rfl⟩
  have e0 := hf 0 f0 rfl
  rw [hn0, ho0] at e0
  obtain ⟨a0, r0, k0, z0, u0⟩ := h0.out enc W m _ _ (e0.trans rfl)
  have e1 := hf 1 f1 rfl
  rw [hn1, ho1] at e1
  obtain ⟨a1, r1, k1, z1, u1⟩ := h1.out enc W m _ _ (e1.trans rfl)
  have e2 := hf 2 f2 rfl
  rw [hn2, ho2] at e2
  obtain ⟨a2, r2, k2, z2, u2⟩ := h2.out enc W m _ _ (e2.trans rfl)
  rw [hc] at hl
  refine ⟨(a0, a1, a2), ⟨_, _, _, ?_, r0, r1, r2⟩, ⟨k0, k1, k2⟩, fun hw => ?_, ?_⟩
  · exact cells_split3 hl
  · have hw' : ∀ n ∈ DataW.weightsEach Tryd.prog [f0.type, f1.type, f2.type] [x0.1, x1.1, x2.1], n ≤ reachBytes := fun n hn => hw n (by simp only [DataW.weights, hs]; exact hn)
    exact ⟨z0 fun n hn => hw' n (DataW.weights_mem_each (j := 0) rfl rfl n hn), z1 fun n hn => hw' n (DataW.weights_mem_each (j := 1) rfl rfl n hn), z2 fun n hn => hw' n (DataW.weights_mem_each (j := 2) rfl rfl n hn)⟩
  · simp only [Rows.uptoBulk, Rows.uptoBulkAll, List.map]
    omega

theorem cells_split4 {β : Type} {cs : List β} {n0 n1 n2 n3 : Nat} (h : cs.length = n0 + n1 + n2 + n3) : cs = (cs.drop (0)).take n0 ++ ((cs.drop (n0)).take n1 ++ ((cs.drop (n0 + n1)).take n2 ++ ((cs.drop (n0 + n1 + n2)).take n3))) := by
  have p0 := drop_split cs (0) n0
  rw [Nat.zero_add] at p0
  have p1 := drop_split cs (n0) n1
  have p2 := drop_split cs (n0 + n1) n2
  have q : (cs.drop (n0 + n1 + n2)).take n3 = cs.drop (n0 + n1 + n2) := List.take_of_length_le (by rw [List.length_drop]; omega)
  rw [q]
  rw [← p2]
  rw [← p1]
  rw [← p0]
  rfl
theorem opened_struct4 {α0 α1 α2 α3 : Type} {t : TypeId} {f0 f1 f2 f3 : Field} {n0 n1 n2 n3 : Nat}
    {R0 : World → α0 → List Value → Prop} {g0 s0 : α0 → Prop} {b0 : α0 → Nat}
    {R1 : World → α1 → List Value → Prop} {g1 s1 : α1 → Prop} {b1 : α1 → Nat}
    {R2 : World → α2 → List Value → Prop} {g2 s2 : α2 → Prop} {b2 : α2 → Nat}
    {R3 : World → α3 → List Value → Prop} {g3 s3 : α3 → Prop} {b3 : α3 → Nat}
    (hs : Tryd.prog.underlying t = some (.struct #[f0, f1, f2, f3])) (hc : Tryd.prog.cellsOf t = n0 + n1 + n2 + n3)
    (hn0 : Tryd.prog.cellsOf f0.type = n0) (ho0 : f0.offset = 0) (h0 : Opened f0.type R0 g0 s0 b0)
    (hn1 : Tryd.prog.cellsOf f1.type = n1) (ho1 : f1.offset = n0) (h1 : Opened f1.type R1 g1 s1 b1)
    (hn2 : Tryd.prog.cellsOf f2.type = n2) (ho2 : f2.offset = n0 + n1) (h2 : Opened f2.type R2 g2 s2 b2)
    (hn3 : Tryd.prog.cellsOf f3.type = n3) (ho3 : f3.offset = n0 + n1 + n2) (h3 : Opened f3.type R3 g3 s3 b3)
    : Opened t (fun W (a : α0 × α1 × α2 × α3) cs => ∃ c0 c1 c2 c3, cs = c0 ++ (c1 ++ (c2 ++ (c3))) ∧ R0 W a.1 c0 ∧ R1 W a.2.1 c1 ∧ R2 W a.2.2.1 c2 ∧ R3 W a.2.2.2 c3) (fun a => g0 a.1 ∧ g1 a.2.1 ∧ g2 a.2.2.1 ∧ g3 a.2.2.2) (fun a => s0 a.1 ∧ s1 a.2.1 ∧ s2 a.2.2.1 ∧ s3 a.2.2.2) (fun a => b0 a.1 + b1 a.2.1 + b2 a.2.2.1 + b3 a.2.2.2) := by
  constructor
  intro H enc W fuel cs y hy
  obtain ⟨xs, m, rfl, rfl, hl, hx, hf⟩ := DataW.trod_struct hs hy
  obtain ⟨x0, x1, x2, x3, rfl⟩ : ∃ x0 x1 x2 x3, xs = [x0, x1, x2, x3] := by
    match xs, hx with
    | [x0, x1, x2, x3], _ => exact ⟨x0, x1, x2, x3, rfl⟩
  have e0 := hf 0 f0 rfl
  rw [hn0, ho0] at e0
  obtain ⟨a0, r0, k0, z0, u0⟩ := h0.out enc W m _ _ (e0.trans rfl)
  have e1 := hf 1 f1 rfl
  rw [hn1, ho1] at e1
  obtain ⟨a1, r1, k1, z1, u1⟩ := h1.out enc W m _ _ (e1.trans rfl)
  have e2 := hf 2 f2 rfl
  rw [hn2, ho2] at e2
  obtain ⟨a2, r2, k2, z2, u2⟩ := h2.out enc W m _ _ (e2.trans rfl)
  have e3 := hf 3 f3 rfl
  rw [hn3, ho3] at e3
  obtain ⟨a3, r3, k3, z3, u3⟩ := h3.out enc W m _ _ (e3.trans rfl)
  rw [hc] at hl
  refine ⟨(a0, a1, a2, a3), ⟨_, _, _, _, ?_, r0, r1, r2, r3⟩, ⟨k0, k1, k2, k3⟩, fun hw => ?_, ?_⟩
  · exact cells_split4 hl
  · have hw' : ∀ n ∈ DataW.weightsEach Tryd.prog [f0.type, f1.type, f2.type, f3.type] [x0.1, x1.1, x2.1, x3.1], n ≤ reachBytes := fun n hn => hw n (by simp only [DataW.weights, hs]; exact hn)
    exact ⟨z0 fun n hn => hw' n (DataW.weights_mem_each (j := 0) rfl rfl n hn), z1 fun n hn => hw' n (DataW.weights_mem_each (j := 1) rfl rfl n hn), z2 fun n hn => hw' n (DataW.weights_mem_each (j := 2) rfl rfl n hn), z3 fun n hn => hw' n (DataW.weights_mem_each (j := 3) rfl rfl n hn)⟩
  · simp only [Rows.uptoBulk, Rows.uptoBulkAll, List.map]
    omega

theorem cells_split5 {β : Type} {cs : List β} {n0 n1 n2 n3 n4 : Nat} (h : cs.length = n0 + n1 + n2 + n3 + n4) : cs = (cs.drop (0)).take n0 ++ ((cs.drop (n0)).take n1 ++ ((cs.drop (n0 + n1)).take n2 ++ ((cs.drop (n0 + n1 + n2)).take n3 ++ ((cs.drop (n0 + n1 + n2 + n3)).take n4)))) := by
  have p0 := drop_split cs (0) n0
  rw [Nat.zero_add] at p0
  have p1 := drop_split cs (n0) n1
  have p2 := drop_split cs (n0 + n1) n2
  have p3 := drop_split cs (n0 + n1 + n2) n3
  have q : (cs.drop (n0 + n1 + n2 + n3)).take n4 = cs.drop (n0 + n1 + n2 + n3) := List.take_of_length_le (by rw [List.length_drop]; omega)
  rw [q]
  rw [← p3]
  rw [← p2]
  rw [← p1]
  rw [← p0]
  rfl
theorem opened_struct5 {α0 α1 α2 α3 α4 : Type} {t : TypeId} {f0 f1 f2 f3 f4 : Field} {n0 n1 n2 n3 n4 : Nat}
    {R0 : World → α0 → List Value → Prop} {g0 s0 : α0 → Prop} {b0 : α0 → Nat}
    {R1 : World → α1 → List Value → Prop} {g1 s1 : α1 → Prop} {b1 : α1 → Nat}
    {R2 : World → α2 → List Value → Prop} {g2 s2 : α2 → Prop} {b2 : α2 → Nat}
    {R3 : World → α3 → List Value → Prop} {g3 s3 : α3 → Prop} {b3 : α3 → Nat}
    {R4 : World → α4 → List Value → Prop} {g4 s4 : α4 → Prop} {b4 : α4 → Nat}
    (hs : Tryd.prog.underlying t = some (.struct #[f0, f1, f2, f3, f4])) (hc : Tryd.prog.cellsOf t = n0 + n1 + n2 + n3 + n4)
    (hn0 : Tryd.prog.cellsOf f0.type = n0) (ho0 : f0.offset = 0) (h0 : Opened f0.type R0 g0 s0 b0)
    (hn1 : Tryd.prog.cellsOf f1.type = n1) (ho1 : f1.offset = n0) (h1 : Opened f1.type R1 g1 s1 b1)
    (hn2 : Tryd.prog.cellsOf f2.type = n2) (ho2 : f2.offset = n0 + n1) (h2 : Opened f2.type R2 g2 s2 b2)
    (hn3 : Tryd.prog.cellsOf f3.type = n3) (ho3 : f3.offset = n0 + n1 + n2) (h3 : Opened f3.type R3 g3 s3 b3)
    (hn4 : Tryd.prog.cellsOf f4.type = n4) (ho4 : f4.offset = n0 + n1 + n2 + n3) (h4 : Opened f4.type R4 g4 s4 b4)
    : Opened t (fun W (a : α0 × α1 × α2 × α3 × α4) cs => ∃ c0 c1 c2 c3 c4, cs = c0 ++ (c1 ++ (c2 ++ (c3 ++ (c4)))) ∧ R0 W a.1 c0 ∧ R1 W a.2.1 c1 ∧ R2 W a.2.2.1 c2 ∧ R3 W a.2.2.2.1 c3 ∧ R4 W a.2.2.2.2 c4) (fun a => g0 a.1 ∧ g1 a.2.1 ∧ g2 a.2.2.1 ∧ g3 a.2.2.2.1 ∧ g4 a.2.2.2.2) (fun a => s0 a.1 ∧ s1 a.2.1 ∧ s2 a.2.2.1 ∧ s3 a.2.2.2.1 ∧ s4 a.2.2.2.2) (fun a => b0 a.1 + b1 a.2.1 + b2 a.2.2.1 + b3 a.2.2.2.1 + b4 a.2.2.2.2) := by
  constructor
  intro H enc W fuel cs y hy
  obtain ⟨xs, m, rfl, rfl, hl, hx, hf⟩ := DataW.trod_struct hs hy
  obtain ⟨x0, x1, x2, x3, x4, rfl⟩ : ∃ x0 x1 x2 x3 x4, xs = [x0, x1, x2, x3, x4] := by
    match xs, hx with
    | [x0, x1, x2, x3, x4], _ => exact ⟨x0, x1, x2, x3, x4, rfl⟩
  have e0 := hf 0 f0 rfl
  rw [hn0, ho0] at e0
  obtain ⟨a0, r0, k0, z0, u0⟩ := h0.out enc W m _ _ (e0.trans rfl)
  have e1 := hf 1 f1 rfl
  rw [hn1, ho1] at e1
  obtain ⟨a1, r1, k1, z1, u1⟩ := h1.out enc W m _ _ (e1.trans rfl)
  have e2 := hf 2 f2 rfl
  rw [hn2, ho2] at e2
  obtain ⟨a2, r2, k2, z2, u2⟩ := h2.out enc W m _ _ (e2.trans rfl)
  have e3 := hf 3 f3 rfl
  rw [hn3, ho3] at e3
  obtain ⟨a3, r3, k3, z3, u3⟩ := h3.out enc W m _ _ (e3.trans rfl)
  have e4 := hf 4 f4 rfl
  rw [hn4, ho4] at e4
  obtain ⟨a4, r4, k4, z4, u4⟩ := h4.out enc W m _ _ (e4.trans rfl)
  rw [hc] at hl
  refine ⟨(a0, a1, a2, a3, a4), ⟨_, _, _, _, _, ?_, r0, r1, r2, r3, r4⟩, ⟨k0, k1, k2, k3, k4⟩, fun hw => ?_, ?_⟩
  · exact cells_split5 hl
  · have hw' : ∀ n ∈ DataW.weightsEach Tryd.prog [f0.type, f1.type, f2.type, f3.type, f4.type] [x0.1, x1.1, x2.1, x3.1, x4.1], n ≤ reachBytes := fun n hn => hw n (by simp only [DataW.weights, hs]; exact hn)
    exact ⟨z0 fun n hn => hw' n (DataW.weights_mem_each (j := 0) rfl rfl n hn), z1 fun n hn => hw' n (DataW.weights_mem_each (j := 1) rfl rfl n hn), z2 fun n hn => hw' n (DataW.weights_mem_each (j := 2) rfl rfl n hn), z3 fun n hn => hw' n (DataW.weights_mem_each (j := 3) rfl rfl n hn), z4 fun n hn => hw' n (DataW.weights_mem_each (j := 4) rfl rfl n hn)⟩
  · simp only [Rows.uptoBulk, Rows.uptoBulkAll, List.map]
    omega

theorem cells_split6 {β : Type} {cs : List β} {n0 n1 n2 n3 n4 n5 : Nat} (h : cs.length = n0 + n1 + n2 + n3 + n4 + n5) : cs = (cs.drop (0)).take n0 ++ ((cs.drop (n0)).take n1 ++ ((cs.drop (n0 + n1)).take n2 ++ ((cs.drop (n0 + n1 + n2)).take n3 ++ ((cs.drop (n0 + n1 + n2 + n3)).take n4 ++ ((cs.drop (n0 + n1 + n2 + n3 + n4)).take n5))))) := by
  have p0 := drop_split cs (0) n0
  rw [Nat.zero_add] at p0
  have p1 := drop_split cs (n0) n1
  have p2 := drop_split cs (n0 + n1) n2
  have p3 := drop_split cs (n0 + n1 + n2) n3
  have p4 := drop_split cs (n0 + n1 + n2 + n3) n4
  have q : (cs.drop (n0 + n1 + n2 + n3 + n4)).take n5 = cs.drop (n0 + n1 + n2 + n3 + n4) := List.take_of_length_le (by rw [List.length_drop]; omega)
  rw [q]
  rw [← p4]
  rw [← p3]
  rw [← p2]
  rw [← p1]
  rw [← p0]
  rfl
theorem opened_struct6 {α0 α1 α2 α3 α4 α5 : Type} {t : TypeId} {f0 f1 f2 f3 f4 f5 : Field} {n0 n1 n2 n3 n4 n5 : Nat}
    {R0 : World → α0 → List Value → Prop} {g0 s0 : α0 → Prop} {b0 : α0 → Nat}
    {R1 : World → α1 → List Value → Prop} {g1 s1 : α1 → Prop} {b1 : α1 → Nat}
    {R2 : World → α2 → List Value → Prop} {g2 s2 : α2 → Prop} {b2 : α2 → Nat}
    {R3 : World → α3 → List Value → Prop} {g3 s3 : α3 → Prop} {b3 : α3 → Nat}
    {R4 : World → α4 → List Value → Prop} {g4 s4 : α4 → Prop} {b4 : α4 → Nat}
    {R5 : World → α5 → List Value → Prop} {g5 s5 : α5 → Prop} {b5 : α5 → Nat}
    (hs : Tryd.prog.underlying t = some (.struct #[f0, f1, f2, f3, f4, f5])) (hc : Tryd.prog.cellsOf t = n0 + n1 + n2 + n3 + n4 + n5)
    (hn0 : Tryd.prog.cellsOf f0.type = n0) (ho0 : f0.offset = 0) (h0 : Opened f0.type R0 g0 s0 b0)
    (hn1 : Tryd.prog.cellsOf f1.type = n1) (ho1 : f1.offset = n0) (h1 : Opened f1.type R1 g1 s1 b1)
    (hn2 : Tryd.prog.cellsOf f2.type = n2) (ho2 : f2.offset = n0 + n1) (h2 : Opened f2.type R2 g2 s2 b2)
    (hn3 : Tryd.prog.cellsOf f3.type = n3) (ho3 : f3.offset = n0 + n1 + n2) (h3 : Opened f3.type R3 g3 s3 b3)
    (hn4 : Tryd.prog.cellsOf f4.type = n4) (ho4 : f4.offset = n0 + n1 + n2 + n3) (h4 : Opened f4.type R4 g4 s4 b4)
    (hn5 : Tryd.prog.cellsOf f5.type = n5) (ho5 : f5.offset = n0 + n1 + n2 + n3 + n4) (h5 : Opened f5.type R5 g5 s5 b5)
    : Opened t (fun W (a : α0 × α1 × α2 × α3 × α4 × α5) cs => ∃ c0 c1 c2 c3 c4 c5, cs = c0 ++ (c1 ++ (c2 ++ (c3 ++ (c4 ++ (c5))))) ∧ R0 W a.1 c0 ∧ R1 W a.2.1 c1 ∧ R2 W a.2.2.1 c2 ∧ R3 W a.2.2.2.1 c3 ∧ R4 W a.2.2.2.2.1 c4 ∧ R5 W a.2.2.2.2.2 c5) (fun a => g0 a.1 ∧ g1 a.2.1 ∧ g2 a.2.2.1 ∧ g3 a.2.2.2.1 ∧ g4 a.2.2.2.2.1 ∧ g5 a.2.2.2.2.2) (fun a => s0 a.1 ∧ s1 a.2.1 ∧ s2 a.2.2.1 ∧ s3 a.2.2.2.1 ∧ s4 a.2.2.2.2.1 ∧ s5 a.2.2.2.2.2) (fun a => b0 a.1 + b1 a.2.1 + b2 a.2.2.1 + b3 a.2.2.2.1 + b4 a.2.2.2.2.1 + b5 a.2.2.2.2.2) := by
  constructor
  intro H enc W fuel cs y hy
  obtain ⟨xs, m, rfl, rfl, hl, hx, hf⟩ := DataW.trod_struct hs hy
  obtain ⟨x0, x1, x2, x3, x4, x5, rfl⟩ : ∃ x0 x1 x2 x3 x4 x5, xs = [x0, x1, x2, x3, x4, x5] := by
    match xs, hx with
    | [x0, x1, x2, x3, x4, x5], _ => exact ⟨x0, x1, x2, x3, x4, x5, rfl⟩
  have e0 := hf 0 f0 rfl
  rw [hn0, ho0] at e0
  obtain ⟨a0, r0, k0, z0, u0⟩ := h0.out enc W m _ _ (e0.trans rfl)
  have e1 := hf 1 f1 rfl
  rw [hn1, ho1] at e1
  obtain ⟨a1, r1, k1, z1, u1⟩ := h1.out enc W m _ _ (e1.trans rfl)
  have e2 := hf 2 f2 rfl
  rw [hn2, ho2] at e2
  obtain ⟨a2, r2, k2, z2, u2⟩ := h2.out enc W m _ _ (e2.trans rfl)
  have e3 := hf 3 f3 rfl
  rw [hn3, ho3] at e3
  obtain ⟨a3, r3, k3, z3, u3⟩ := h3.out enc W m _ _ (e3.trans rfl)
  have e4 := hf 4 f4 rfl
  rw [hn4, ho4] at e4
  obtain ⟨a4, r4, k4, z4, u4⟩ := h4.out enc W m _ _ (e4.trans rfl)
  have e5 := hf 5 f5 rfl
  rw [hn5, ho5] at e5
  obtain ⟨a5, r5, k5, z5, u5⟩ := h5.out enc W m _ _ (e5.trans rfl)
  rw [hc] at hl
  refine ⟨(a0, a1, a2, a3, a4, a5), ⟨_, _, _, _, _, _, ?_, r0, r1, r2, r3, r4, r5⟩, ⟨k0, k1, k2, k3, k4, k5⟩, fun hw => ?_, ?_⟩
  · exact cells_split6 hl
  · have hw' : ∀ n ∈ DataW.weightsEach Tryd.prog [f0.type, f1.type, f2.type, f3.type, f4.type, f5.type] [x0.1, x1.1, x2.1, x3.1, x4.1, x5.1], n ≤ reachBytes := fun n hn => hw n (by simp only [DataW.weights, hs]; exact hn)
    exact ⟨z0 fun n hn => hw' n (DataW.weights_mem_each (j := 0) rfl rfl n hn), z1 fun n hn => hw' n (DataW.weights_mem_each (j := 1) rfl rfl n hn), z2 fun n hn => hw' n (DataW.weights_mem_each (j := 2) rfl rfl n hn), z3 fun n hn => hw' n (DataW.weights_mem_each (j := 3) rfl rfl n hn), z4 fun n hn => hw' n (DataW.weights_mem_each (j := 4) rfl rfl n hn), z5 fun n hn => hw' n (DataW.weights_mem_each (j := 5) rfl rfl n hn)⟩
  · simp only [Rows.uptoBulk, Rows.uptoBulkAll, List.map]
    omega

theorem cells_split7 {β : Type} {cs : List β} {n0 n1 n2 n3 n4 n5 n6 : Nat} (h : cs.length = n0 + n1 + n2 + n3 + n4 + n5 + n6) : cs = (cs.drop (0)).take n0 ++ ((cs.drop (n0)).take n1 ++ ((cs.drop (n0 + n1)).take n2 ++ ((cs.drop (n0 + n1 + n2)).take n3 ++ ((cs.drop (n0 + n1 + n2 + n3)).take n4 ++ ((cs.drop (n0 + n1 + n2 + n3 + n4)).take n5 ++ ((cs.drop (n0 + n1 + n2 + n3 + n4 + n5)).take n6)))))) := by
  have p0 := drop_split cs (0) n0
  rw [Nat.zero_add] at p0
  have p1 := drop_split cs (n0) n1
  have p2 := drop_split cs (n0 + n1) n2
  have p3 := drop_split cs (n0 + n1 + n2) n3
  have p4 := drop_split cs (n0 + n1 + n2 + n3) n4
  have p5 := drop_split cs (n0 + n1 + n2 + n3 + n4) n5
  have q : (cs.drop (n0 + n1 + n2 + n3 + n4 + n5)).take n6 = cs.drop (n0 + n1 + n2 + n3 + n4 + n5) := List.take_of_length_le (by rw [List.length_drop]; omega)
  rw [q]
  rw [← p5]
  rw [← p4]
  rw [← p3]
  rw [← p2]
  rw [← p1]
  rw [← p0]
  rfl
theorem opened_struct7 {α0 α1 α2 α3 α4 α5 α6 : Type} {t : TypeId} {f0 f1 f2 f3 f4 f5 f6 : Field} {n0 n1 n2 n3 n4 n5 n6 : Nat}
    {R0 : World → α0 → List Value → Prop} {g0 s0 : α0 → Prop} {b0 : α0 → Nat}
    {R1 : World → α1 → List Value → Prop} {g1 s1 : α1 → Prop} {b1 : α1 → Nat}
    {R2 : World → α2 → List Value → Prop} {g2 s2 : α2 → Prop} {b2 : α2 → Nat}
    {R3 : World → α3 → List Value → Prop} {g3 s3 : α3 → Prop} {b3 : α3 → Nat}
    {R4 : World → α4 → List Value → Prop} {g4 s4 : α4 → Prop} {b4 : α4 → Nat}
    {R5 : World → α5 → List Value → Prop} {g5 s5 : α5 → Prop} {b5 : α5 → Nat}
    {R6 : World → α6 → List Value → Prop} {g6 s6 : α6 → Prop} {b6 : α6 → Nat}
    (hs : Tryd.prog.underlying t = some (.struct #[f0, f1, f2, f3, f4, f5, f6])) (hc : Tryd.prog.cellsOf t = n0 + n1 + n2 + n3 + n4 + n5 + n6)
    (hn0 : Tryd.prog.cellsOf f0.type = n0) (ho0 : f0.offset = 0) (h0 : Opened f0.type R0 g0 s0 b0)
    (hn1 : Tryd.prog.cellsOf f1.type = n1) (ho1 : f1.offset = n0) (h1 : Opened f1.type R1 g1 s1 b1)
    (hn2 : Tryd.prog.cellsOf f2.type = n2) (ho2 : f2.offset = n0 + n1) (h2 : Opened f2.type R2 g2 s2 b2)
    (hn3 : Tryd.prog.cellsOf f3.type = n3) (ho3 : f3.offset = n0 + n1 + n2) (h3 : Opened f3.type R3 g3 s3 b3)
    (hn4 : Tryd.prog.cellsOf f4.type = n4) (ho4 : f4.offset = n0 + n1 + n2 + n3) (h4 : Opened f4.type R4 g4 s4 b4)
    (hn5 : Tryd.prog.cellsOf f5.type = n5) (ho5 : f5.offset = n0 + n1 + n2 + n3 + n4) (h5 : Opened f5.type R5 g5 s5 b5)
    (hn6 : Tryd.prog.cellsOf f6.type = n6) (ho6 : f6.offset = n0 + n1 + n2 + n3 + n4 + n5) (h6 : Opened f6.type R6 g6 s6 b6)
    : Opened t (fun W (a : α0 × α1 × α2 × α3 × α4 × α5 × α6) cs => ∃ c0 c1 c2 c3 c4 c5 c6, cs = c0 ++ (c1 ++ (c2 ++ (c3 ++ (c4 ++ (c5 ++ (c6)))))) ∧ R0 W a.1 c0 ∧ R1 W a.2.1 c1 ∧ R2 W a.2.2.1 c2 ∧ R3 W a.2.2.2.1 c3 ∧ R4 W a.2.2.2.2.1 c4 ∧ R5 W a.2.2.2.2.2.1 c5 ∧ R6 W a.2.2.2.2.2.2 c6) (fun a => g0 a.1 ∧ g1 a.2.1 ∧ g2 a.2.2.1 ∧ g3 a.2.2.2.1 ∧ g4 a.2.2.2.2.1 ∧ g5 a.2.2.2.2.2.1 ∧ g6 a.2.2.2.2.2.2) (fun a => s0 a.1 ∧ s1 a.2.1 ∧ s2 a.2.2.1 ∧ s3 a.2.2.2.1 ∧ s4 a.2.2.2.2.1 ∧ s5 a.2.2.2.2.2.1 ∧ s6 a.2.2.2.2.2.2) (fun a => b0 a.1 + b1 a.2.1 + b2 a.2.2.1 + b3 a.2.2.2.1 + b4 a.2.2.2.2.1 + b5 a.2.2.2.2.2.1 + b6 a.2.2.2.2.2.2) := by
  constructor
  intro H enc W fuel cs y hy
  obtain ⟨xs, m, rfl, rfl, hl, hx, hf⟩ := DataW.trod_struct hs hy
  obtain ⟨x0, x1, x2, x3, x4, x5, x6, rfl⟩ : ∃ x0 x1 x2 x3 x4 x5 x6, xs = [x0, x1, x2, x3, x4, x5, x6] := by
    match xs, hx with
    | [x0, x1, x2, x3, x4, x5, x6], _ => exact ⟨x0, x1, x2, x3, x4, x5, x6, rfl⟩
  have e0 := hf 0 f0 rfl
  rw [hn0, ho0] at e0
  obtain ⟨a0, r0, k0, z0, u0⟩ := h0.out enc W m _ _ (e0.trans rfl)
  have e1 := hf 1 f1 rfl
  rw [hn1, ho1] at e1
  obtain ⟨a1, r1, k1, z1, u1⟩ := h1.out enc W m _ _ (e1.trans rfl)
  have e2 := hf 2 f2 rfl
  rw [hn2, ho2] at e2
  obtain ⟨a2, r2, k2, z2, u2⟩ := h2.out enc W m _ _ (e2.trans rfl)
  have e3 := hf 3 f3 rfl
  rw [hn3, ho3] at e3
  obtain ⟨a3, r3, k3, z3, u3⟩ := h3.out enc W m _ _ (e3.trans rfl)
  have e4 := hf 4 f4 rfl
  rw [hn4, ho4] at e4
  obtain ⟨a4, r4, k4, z4, u4⟩ := h4.out enc W m _ _ (e4.trans rfl)
  have e5 := hf 5 f5 rfl
  rw [hn5, ho5] at e5
  obtain ⟨a5, r5, k5, z5, u5⟩ := h5.out enc W m _ _ (e5.trans rfl)
  have e6 := hf 6 f6 rfl
  rw [hn6, ho6] at e6
  obtain ⟨a6, r6, k6, z6, u6⟩ := h6.out enc W m _ _ (e6.trans rfl)
  rw [hc] at hl
  refine ⟨(a0, a1, a2, a3, a4, a5, a6), ⟨_, _, _, _, _, _, _, ?_, r0, r1, r2, r3, r4, r5, r6⟩, ⟨k0, k1, k2, k3, k4, k5, k6⟩, fun hw => ?_, ?_⟩
  · exact cells_split7 hl
  · have hw' : ∀ n ∈ DataW.weightsEach Tryd.prog [f0.type, f1.type, f2.type, f3.type, f4.type, f5.type, f6.type] [x0.1, x1.1, x2.1, x3.1, x4.1, x5.1, x6.1], n ≤ reachBytes := fun n hn => hw n (by simp only [DataW.weights, hs]; exact hn)
    exact ⟨z0 fun n hn => hw' n (DataW.weights_mem_each (j := 0) rfl rfl n hn), z1 fun n hn => hw' n (DataW.weights_mem_each (j := 1) rfl rfl n hn), z2 fun n hn => hw' n (DataW.weights_mem_each (j := 2) rfl rfl n hn), z3 fun n hn => hw' n (DataW.weights_mem_each (j := 3) rfl rfl n hn), z4 fun n hn => hw' n (DataW.weights_mem_each (j := 4) rfl rfl n hn), z5 fun n hn => hw' n (DataW.weights_mem_each (j := 5) rfl rfl n hn), z6 fun n hn => hw' n (DataW.weights_mem_each (j := 6) rfl rfl n hn)⟩
  · simp only [Rows.uptoBulk, Rows.uptoBulkAll, List.map]
    omega

theorem cells_split8 {β : Type} {cs : List β} {n0 n1 n2 n3 n4 n5 n6 n7 : Nat} (h : cs.length = n0 + n1 + n2 + n3 + n4 + n5 + n6 + n7) : cs = (cs.drop (0)).take n0 ++ ((cs.drop (n0)).take n1 ++ ((cs.drop (n0 + n1)).take n2 ++ ((cs.drop (n0 + n1 + n2)).take n3 ++ ((cs.drop (n0 + n1 + n2 + n3)).take n4 ++ ((cs.drop (n0 + n1 + n2 + n3 + n4)).take n5 ++ ((cs.drop (n0 + n1 + n2 + n3 + n4 + n5)).take n6 ++ ((cs.drop (n0 + n1 + n2 + n3 + n4 + n5 + n6)).take n7))))))) := by
  have p0 := drop_split cs (0) n0
  rw [Nat.zero_add] at p0
  have p1 := drop_split cs (n0) n1
  have p2 := drop_split cs (n0 + n1) n2
  have p3 := drop_split cs (n0 + n1 + n2) n3
  have p4 := drop_split cs (n0 + n1 + n2 + n3) n4
  have p5 := drop_split cs (n0 + n1 + n2 + n3 + n4) n5
  have p6 := drop_split cs (n0 + n1 + n2 + n3 + n4 + n5) n6
  have q : (cs.drop (n0 + n1 + n2 + n3 + n4 + n5 + n6)).take n7 = cs.drop (n0 + n1 + n2 + n3 + n4 + n5 + n6) := List.take_of_length_le (by rw [List.length_drop]; omega)
  rw [q]
  rw [← p6]
  rw [← p5]
  rw [← p4]
  rw [← p3]
  rw [← p2]
  rw [← p1]
  rw [← p0]
  rfl
theorem opened_struct8 {α0 α1 α2 α3 α4 α5 α6 α7 : Type} {t : TypeId} {f0 f1 f2 f3 f4 f5 f6 f7 : Field} {n0 n1 n2 n3 n4 n5 n6 n7 : Nat}
    {R0 : World → α0 → List Value → Prop} {g0 s0 : α0 → Prop} {b0 : α0 → Nat}
    {R1 : World → α1 → List Value → Prop} {g1 s1 : α1 → Prop} {b1 : α1 → Nat}
    {R2 : World → α2 → List Value → Prop} {g2 s2 : α2 → Prop} {b2 : α2 → Nat}
    {R3 : World → α3 → List Value → Prop} {g3 s3 : α3 → Prop} {b3 : α3 → Nat}
    {R4 : World → α4 → List Value → Prop} {g4 s4 : α4 → Prop} {b4 : α4 → Nat}
    {R5 : World → α5 → List Value → Prop} {g5 s5 : α5 → Prop} {b5 : α5 → Nat}
    {R6 : World → α6 → List Value → Prop} {g6 s6 : α6 → Prop} {b6 : α6 → Nat}
    {R7 : World → α7 → List Value → Prop} {g7 s7 : α7 → Prop} {b7 : α7 → Nat}
    (hs : Tryd.prog.underlying t = some (.struct #[f0, f1, f2, f3, f4, f5, f6, f7])) (hc : Tryd.prog.cellsOf t = n0 + n1 + n2 + n3 + n4 + n5 + n6 + n7)
    (hn0 : Tryd.prog.cellsOf f0.type = n0) (ho0 : f0.offset = 0) (h0 : Opened f0.type R0 g0 s0 b0)
    (hn1 : Tryd.prog.cellsOf f1.type = n1) (ho1 : f1.offset = n0) (h1 : Opened f1.type R1 g1 s1 b1)
    (hn2 : Tryd.prog.cellsOf f2.type = n2) (ho2 : f2.offset = n0 + n1) (h2 : Opened f2.type R2 g2 s2 b2)
    (hn3 : Tryd.prog.cellsOf f3.type = n3) (ho3 : f3.offset = n0 + n1 + n2) (h3 : Opened f3.type R3 g3 s3 b3)
    (hn4 : Tryd.prog.cellsOf f4.type = n4) (ho4 : f4.offset = n0 + n1 + n2 + n3) (h4 : Opened f4.type R4 g4 s4 b4)
    (hn5 : Tryd.prog.cellsOf f5.type = n5) (ho5 : f5.offset = n0 + n1 + n2 + n3 + n4) (h5 : Opened f5.type R5 g5 s5 b5)
    (hn6 : Tryd.prog.cellsOf f6.type = n6) (ho6 : f6.offset = n0 + n1 + n2 + n3 + n4 + n5) (h6 : Opened f6.type R6 g6 s6 b6)
    (hn7 : Tryd.prog.cellsOf f7.type = n7) (ho7 : f7.offset = n0 + n1 + n2 + n3 + n4 + n5 + n6) (h7 : Opened f7.type R7 g7 s7 b7)
    : Opened t (fun W (a : α0 × α1 × α2 × α3 × α4 × α5 × α6 × α7) cs => ∃ c0 c1 c2 c3 c4 c5 c6 c7, cs = c0 ++ (c1 ++ (c2 ++ (c3 ++ (c4 ++ (c5 ++ (c6 ++ (c7))))))) ∧ R0 W a.1 c0 ∧ R1 W a.2.1 c1 ∧ R2 W a.2.2.1 c2 ∧ R3 W a.2.2.2.1 c3 ∧ R4 W a.2.2.2.2.1 c4 ∧ R5 W a.2.2.2.2.2.1 c5 ∧ R6 W a.2.2.2.2.2.2.1 c6 ∧ R7 W a.2.2.2.2.2.2.2 c7) (fun a => g0 a.1 ∧ g1 a.2.1 ∧ g2 a.2.2.1 ∧ g3 a.2.2.2.1 ∧ g4 a.2.2.2.2.1 ∧ g5 a.2.2.2.2.2.1 ∧ g6 a.2.2.2.2.2.2.1 ∧ g7 a.2.2.2.2.2.2.2) (fun a => s0 a.1 ∧ s1 a.2.1 ∧ s2 a.2.2.1 ∧ s3 a.2.2.2.1 ∧ s4 a.2.2.2.2.1 ∧ s5 a.2.2.2.2.2.1 ∧ s6 a.2.2.2.2.2.2.1 ∧ s7 a.2.2.2.2.2.2.2) (fun a => b0 a.1 + b1 a.2.1 + b2 a.2.2.1 + b3 a.2.2.2.1 + b4 a.2.2.2.2.1 + b5 a.2.2.2.2.2.1 + b6 a.2.2.2.2.2.2.1 + b7 a.2.2.2.2.2.2.2) := by
  constructor
  intro H enc W fuel cs y hy
  obtain ⟨xs, m, rfl, rfl, hl, hx, hf⟩ := DataW.trod_struct hs hy
  obtain ⟨x0, x1, x2, x3, x4, x5, x6, x7, rfl⟩ : ∃ x0 x1 x2 x3 x4 x5 x6 x7, xs = [x0, x1, x2, x3, x4, x5, x6, x7] := by
    match xs, hx with
    | [x0, x1, x2, x3, x4, x5, x6, x7], _ => exact ⟨x0, x1, x2, x3, x4, x5, x6, x7, rfl⟩
  have e0 := hf 0 f0 rfl
  rw [hn0, ho0] at e0
  obtain ⟨a0, r0, k0, z0, u0⟩ := h0.out enc W m _ _ (e0.trans rfl)
  have e1 := hf 1 f1 rfl
  rw [hn1, ho1] at e1
  obtain ⟨a1, r1, k1, z1, u1⟩ := h1.out enc W m _ _ (e1.trans rfl)
  have e2 := hf 2 f2 rfl
  rw [hn2, ho2] at e2
  obtain ⟨a2, r2, k2, z2, u2⟩ := h2.out enc W m _ _ (e2.trans rfl)
  have e3 := hf 3 f3 rfl
  rw [hn3, ho3] at e3
  obtain ⟨a3, r3, k3, z3, u3⟩ := h3.out enc W m _ _ (e3.trans rfl)
  have e4 := hf 4 f4 rfl
  rw [hn4, ho4] at e4
  obtain ⟨a4, r4, k4, z4, u4⟩ := h4.out enc W m _ _ (e4.trans rfl)
  have e5 := hf 5 f5 rfl
  rw [hn5, ho5] at e5
  obtain ⟨a5, r5, k5, z5, u5⟩ := h5.out enc W m _ _ (e5.trans rfl)
  have e6 := hf 6 f6 rfl
  rw [hn6, ho6] at e6
  obtain ⟨a6, r6, k6, z6, u6⟩ := h6.out enc W m _ _ (e6.trans rfl)
  have e7 := hf 7 f7 rfl
  rw [hn7, ho7] at e7
  obtain ⟨a7, r7, k7, z7, u7⟩ := h7.out enc W m _ _ (e7.trans rfl)
  rw [hc] at hl
  refine ⟨(a0, a1, a2, a3, a4, a5, a6, a7), ⟨_, _, _, _, _, _, _, _, ?_, r0, r1, r2, r3, r4, r5, r6, r7⟩, ⟨k0, k1, k2, k3, k4, k5, k6, k7⟩, fun hw => ?_, ?_⟩
  · exact cells_split8 hl
  · have hw' : ∀ n ∈ DataW.weightsEach Tryd.prog [f0.type, f1.type, f2.type, f3.type, f4.type, f5.type, f6.type, f7.type] [x0.1, x1.1, x2.1, x3.1, x4.1, x5.1, x6.1, x7.1], n ≤ reachBytes := fun n hn => hw n (by simp only [DataW.weights, hs]; exact hn)
    exact ⟨z0 fun n hn => hw' n (DataW.weights_mem_each (j := 0) rfl rfl n hn), z1 fun n hn => hw' n (DataW.weights_mem_each (j := 1) rfl rfl n hn), z2 fun n hn => hw' n (DataW.weights_mem_each (j := 2) rfl rfl n hn), z3 fun n hn => hw' n (DataW.weights_mem_each (j := 3) rfl rfl n hn), z4 fun n hn => hw' n (DataW.weights_mem_each (j := 4) rfl rfl n hn), z5 fun n hn => hw' n (DataW.weights_mem_each (j := 5) rfl rfl n hn), z6 fun n hn => hw' n (DataW.weights_mem_each (j := 6) rfl rfl n hn), z7 fun n hn => hw' n (DataW.weights_mem_each (j := 7) rfl rfl n hn)⟩
  · simp only [Rows.uptoBulk, Rows.uptoBulkAll, List.map]
    omega

end Go.Proofs.YthpfcplhlhnfeaaDoor.F
namespace Go.Proofs.YthpfcplhlhnfeaaDoor.F
open Go.RowKit Go.Proofs.YthpfcplhlhnfeaaDoorW.PrintWords Go.Proofs.YthpfcplhlhnfeaaDoorW.PrintLast Go.Proofs.YthpfcplhlhnfeaaDoorW.PrintMore
set_option linter.unusedVariables false
set_option linter.unusedSimpArgs false
set_option maxRecDepth 4000
theorem g_widths : Tryd.prog.globalNamed "interchange/num.widths" = some 0 := by kernel_rfl
theorem g_widths_type : (Tryd.prog.globals[0]?).map (·.type) = some 96 := by kernel_rfl
theorem cells_widths : Tryd.prog.cellsOf 96 = 4 := by kernel_rfl
theorem cells_int : Tryd.prog.cellsOf 3 = 1 := by kernel_rfl
theorem table_widths {W : World} (h : laidMetH Tryd.prog [("interchange/num.widths", Rows.laid_interchange_num_widths)] W) : Lib.TabIs Tryd.prog W "interchange/num.widths" .i64 [1, 2, 4, 8] :=
  Lib.tabIs_of_head (rest := []) g_widths g_widths_type Tryd.underlying96 Tryd.underlying3 cells_int cells_widths h
theorem laid_of {W : World} (h : laidMetH Tryd.prog [("interchange/num.widths", Rows.laid_interchange_num_widths)] W) : Laid W :=
  ⟨(table_widths h).cell g_widths 0 (by decide), (table_widths h).cell g_widths 1 (by decide), (table_widths h).cell g_widths 2 (by decide), (table_widths h).cell g_widths 3 (by decide)⟩
noncomputable def laid_world (os : Os) : World :=
  { World.holding Tryd.prog os ⟨#[], #[], []⟩ with heap := (World.holding Tryd.prog os ⟨#[], #[], []⟩).heap.modify 0 fun
      | .cells _ t frozen => .cells #[.int .i64 1, .int .i64 2, .int .i64 4, .int .i64 8] t frozen
      | o => o }
end Go.Proofs.YthpfcplhlhnfeaaDoor.F
namespace Go.Proofs.YthpfcplhlhnfeaaDoor.F
open Go.RowKit Go.Proofs.YthpfcplhlhnfeaaDoorW.PrintWords Go.Proofs.YthpfcplhlhnfeaaDoorW.PrintLast
set_option linter.unusedVariables false

/-! elements of type 42 -/
def good_42 (a : S42) : Prop := (Lit.int .u64 a.f0).wf = true ∧ a.f1.size ≤ maxLen
def sized_42 (a : S42) : Prop := True ∧ a.f1.size ≤ 140737488351232
def bulk_42 (a : S42) : Nat := (fun _ => 1) a.f0 + (fun a => a.size + 1) a.f1
theorem opened_42 : Opened 42 k42.K good_42 sized_42 bulk_42 :=
  Opened.iso (opened_struct2 (n0 := 1) (n1 := 1) Tryd.underlying42 (by kernel_rfl) (by kernel_rfl) rfl (opened_int (k := .u64) Tryd.underlying22) (by kernel_rfl) rfl (opened_string Tryd.underlying9)) (fun a => S42.mk a.1 a.2) (by rintro W a cs ⟨c0, c1, e, r0, r1⟩; exact ⟨c0, _, e, r0, r1⟩) (fun a h => h) (fun a h => h) (fun a => Nat.le_refl _)
end Go.Proofs.YthpfcplhlhnfeaaDoor.F
namespace Go.Proofs.YthpfcplhlhnfeaaDoor.F
open Go.RowKit Go.Proofs.YthpfcplhlhnfeaaDoorW.PrintWords Go.Proofs.YthpfcplhlhnfeaaDoorW.PrintLast Go.Proofs.YthpfcplhlhnfeaaDoorW.PrintMore
set_option linter.unusedVariables false
set_option linter.unusedSimpArgs false
set_option maxRecDepth 4000
theorem shown_t : interchangelaw07_shown.f = some true := by
  unfold interchangelaw07_shown.f
  have h : props_Bytes.f 60 5 0 ([] : List S42) = some (⟨#[0, 60, 0, 0, 0, 0, 0, 0, 0, 0, 0, 5, 0, 0]⟩, 0) := by
    unfold props_Bytes.f
    rw [if_pos (by decide)]
    decide +kernel
  rw [h]
  decide +kernel
theorem vals_ok {b fl : Int} {l : List S42} (h1 : (Lit.int .u64 b).wf = true) (h2 : (Lit.int .u64 fl).wf = true) (h3 : l.length ≤ maxLen ∧ ∀ x ∈ l, good_42 x) (hs : l.length * Tryd.prog.bytesOf 42 ≤ 140737488351232 ∧ ∀ x ∈ l, sized_42 x) : okH b fl l := by
  have hb : Tryd.prog.bytesOf 42 = 24 := by kernel_rfl
  have hl := hs.1
  rw [hb] at hl
  exact ⟨u64_bounds h1, u64_bounds h2, by omega, fun v hv => ⟨(u64_bounds (h3.2 v hv).1).1, (u64_bounds (h3.2 v hv).1).2, Nat.le_trans (hs.2 v hv).2 (by decide)⟩⟩
theorem val_ok {v0 : Int} {v1 : ByteArray} (h : (Lit.int .u64 v0).wf = true) (hs : v1.size ≤ 140737488351232) : okV ⟨v0, v1⟩ := ⟨(u64_bounds h).1, (u64_bounds h).2, Nat.le_trans hs (by decide)⟩
theorem okH.len {b fl : Int} {l : List S42} (h : okH b fl l) (b' : Int) (h' : 0 ≤ b' ∧ b' < 18446744073709551616) : okH b' fl l := ⟨h', h.2⟩
theorem Bytes_f {a b fl : Int} {l : List S42} (h : okH b fl l) : props_Bytes.f a b fl l = some (bytesR a b fl l) := by unfold props_Bytes.f; rw [if_pos h]
theorem Get_f {a b fl : Int} {l : List S42} (h : okH b fl l) (i : Int) : props_Get.f a b fl l i = some (getR a b fl l i) := by unfold props_Get.f; rw [if_pos h]
theorem RightR_size {a b fl : Int} {l : List S42} (h : RightR a b fl l = 0) (b' : Int) : RightR a b' fl l = if 65536 < b' then 4 else 0 := by
  obtain ⟨h1, h2, h3⟩ := right_form h
  unfold RightR
  rw [if_pos h1, h3]
theorem pnum8_size {v : Int} (h0 : 0 ≤ v) (h1 : v < 18446744073709551616) : (pnum 8 v).size = 8 := by
  unfold pnum putR
  rw [if_pos (.inr (.inr (.inr rfl))), if_pos (by show v < 18446744073709551616; omega), toBA_size, be_length]
  rfl
theorem pnum2_size {v : Int} (h1 : v ≤ 65535) : (pnum 2 v).size = 2 := by
  unfold pnum putR
  rw [if_pos (.inr (.inl rfl)), if_pos (by show v < 65536; omega), toBA_size, be_length]
  rfl
theorem headB_size {b fl : Int} (h0 : 0 ≤ b) (h1 : b < 18446744073709551616) (h2 : fl ≤ 65535) : (headB b fl).size = 14 := by
  unfold headB
  rw [size_append, size_append, size_append, pnum8_size h0 h1, pnum2_size h2, pnum2_size (by decide), pnum2_size (by decide)]
end Go.Proofs.YthpfcplhlhnfeaaDoor.F
namespace Go.Proofs.YthpfcplhlhnfeaaDoor.F
open Go.RowKit Go.Proofs.YthpfcplhlhnfeaaDoorW.PrintWords Go.Proofs.YthpfcplhlhnfeaaDoorW.PrintLast Go.Proofs.YthpfcplhlhnfeaaDoorW.PrintMore
set_option linter.unusedVariables false
set_option linter.unusedSimpArgs false
set_option maxRecDepth 4000
theorem pnum_take {n v : Int} (hn : isW n) (h0 : 0 ≤ v) (hv : v < 256 ^ n.toNat) (more : ByteArray) : takeR (pnum n v ++ more) n = (v, more, 0) := by
  have : pnum n v = toBA (be n.toNat v.toNat) := by unfold pnum putR; rw [if_pos hn, if_pos hv]
  rw [this]
  exact take_put more hn h0 hv
theorem pnum_of {s : ByteArray} {n : Int} (h : (takeR s n).2.2 = 0) : pnum n (takeR s n).1 ++ (takeR s n).2.1 = s := by
  obtain ⟨h1, h2⟩ := put_take h
  unfold pnum
  rw [h1]
  exact h2
theorem value_prop {i : Nat} (hi : i < 14) {v : S42} (hv : okV v) (h : rightR (letN i) v.f0 v.f1 = 0) (more : ByteArray) : valueR (letN i) (propB i v ++ more) = (v.f0, v.f1, more, 0) := by
  have hl := letN_isL i hi
  unfold rightR at h
  unfold valueR propB
  generalize letN i = c at hl h ⊢
  by_cases c1 : (c = 111 ∧ ¬ v.f0 < 256) ∨ (c = 83 ∧ 255 < v.f1.size)
  · rw [if_pos c1] at h; exact absurd h (by decide)
  rw [if_neg c1] at h
  by_cases c2 : ((c = 111 ∨ c = 113) ∧ ¬ v.f1.size = 0) ∨ (¬ (c = 111 ∨ c = 113) ∧ ¬ v.f0 = 0)
  · rw [if_pos c2] at h; exact absurd h (by decide)
  rw [if_neg c2] at h
  by_cases c3 : c = 84 ∧ ¬ wholeR v.f1 = 0
  · rw [if_pos c3] at h; exact absurd h (by decide)
  clear h
  by_cases e1 : c = 111
  · have hs : v.f1 = ⟨#[]⟩ := ba_empty (Classical.byContradiction fun hh => c2 (.inl ⟨.inl e1, hh⟩))
    have hlt : v.f0 < 256 := Classical.byContradiction fun hh => c1 (.inl ⟨e1, hh⟩)
    rw [if_pos e1, if_pos e1, pnum_take (.inl rfl) hv.1 (by show v.f0 < 256; exact hlt), hs]
  · rw [if_neg e1, if_neg e1]
    by_cases e2 : c = 113
    · have hs : v.f1 = ⟨#[]⟩ := ba_empty (Classical.byContradiction fun hh => c2 (.inl ⟨.inr e2, hh⟩))
      rw [if_pos e2, if_pos e2, pnum_take (.inr (.inr (.inr rfl))) hv.1 (by show v.f0 < 18446744073709551616; exact hv.2.1), hs]
    · rw [if_neg e2, if_neg e2]
      have hn : v.f0 = 0 := Classical.byContradiction fun hh => c2 (.inr ⟨fun h => h.elim e1 e2, hh⟩)
      by_cases e3 : c = 83
      · have hs : v.f1.size ≤ 255 := by
          by_cases h : 255 < v.f1.size
          · exact absurd (.inr ⟨e3, h⟩) c1
          · omega
        rw [if_pos e3, if_pos e3, lay_take more ((short_iff _).2 hs), hn]
      · rw [if_neg e3, if_neg e3]
        have e4 : c = 84 := by
          rcases hl with h | h | h | h
          · exact absurd h e3
          · exact h
          · exact absurd h e1
          · exact absurd h e2
        have hw : wholeR v.f1 = 0 := Classical.byContradiction fun hh => c3 ⟨e4, hh⟩
        rw [whole_taken hw more, hn]
theorem prop_value {i : Nat} {s : ByteArray} (h : (valueR (letN i) s).2.2.2 = 0) : propB i ⟨(valueR (letN i) s).1, (valueR (letN i) s).2.1⟩ ++ (valueR (letN i) s).2.2.1 = s := by
  unfold propB
  unfold valueR at h ⊢
  generalize letN i = c at h ⊢
  by_cases e1 : c = 111
  · rw [if_pos e1] at h
    rw [if_pos e1, if_pos e1]
    exact pnum_of h
  · rw [if_neg e1] at h
    rw [if_neg e1, if_neg e1]
    by_cases e2 : c = 113
    · rw [if_pos e2] at h
      rw [if_pos e2, if_pos e2]
      exact pnum_of h
    · rw [if_neg e2] at h
      rw [if_neg e2, if_neg e2]
      by_cases e3 : c = 83
      · rw [if_pos e3] at h
        rw [if_pos e3, if_pos e3]
        exact (take_lay h).2
      · rw [if_neg e3] at h
        rw [if_neg e3, if_neg e3]
        by_cases e : (tabR s).2.1 = 0
        · obtain ⟨a, ha, _⟩ := tab_pre e
          have := taken_pre e ha
          show (takenR s (tabR s)).1 ++ (takenR s (tabR s)).2.1 = s
          rw [this]
          exact ha.symm
        · have hh : (takenR s (tabR s)).2.2 = 0 := h
          unfold takenR at hh
          rw [if_neg e] at hh
          exact absurd hh e
/-- the values of right properties, taken -/
theorem ptGo_props (l : List S42) (hl : ∀ n, n < l.length → okV (l.getD n z42)) : ∀ (is : List Nat) (n : Nat), (∀ i ∈ is, i < 14) → n + is.length = l.length → valsGo l is n = 0 → ptGo is (propsB l is n) (l.take n) = (l, ⟨#[]⟩, 0)
  | [], n, _, hn, _ => by
    rw [ptGo, propsB, List.take_of_length_le (by simp only [List.length_nil] at hn; omega)]
  | i :: is, n, hi, hn, hv => by
    rw [List.length_cons] at hn
    have hlt : n < l.length := by omega
    rw [valsGo] at hv
    by_cases e : rightR (letN i) (l.getD n z42).f0 (l.getD n z42).f1 = 0
    · rw [if_pos e] at hv
      have hp := value_prop (hi i (List.mem_cons_self ..)) (hl n hlt) e (propsB l is (n + 1))
      have ht : l.take n ++ [l.getD n z42] = l.take (n + 1) := by
        rw [List.take_add_one]
        simp [hlt]
      rw [ptGo, propsB, hp]
      dsimp only
      rw [if_pos rfl]
      have := ptGo_props l hl is (n + 1) (fun j hj => hi j (List.mem_cons_of_mem _ hj)) (by omega) hv
      rw [← ht] at this
      exact this
    · rw [if_neg e] at hv
      exact absurd hv e
theorem which_lt (fl : Int) : ∀ i ∈ whichF fl 0, i < 14 := by
  have h : ∀ (d i : Nat), ∀ k ∈ whichN fl d i, k < i + d := by
    intro d
    induction d with
    | zero => intro i k h; simp [whichN] at h
    | succ d ih =>
      intro i k h
      rw [whichN] at h
      split at h
      · rcases List.mem_cons.1 h with rfl | h
        · omega
        · have := ih (i + 1) k h; omega
      · have := ih (i + 1) k h; omega
  intro i hi
  have := h 14 0 i hi
  omega
/-- laid and taken -/
theorem take_bytes {a b fl : Int} {l : List S42} (ok : okH b fl l) (h : RightR a b fl l = 0) : ptakeR (headB b fl ++ propsB l (whichF fl 0) 0) = (a, b, fl, l, 0) := by
  obtain ⟨hf, hb, hv⟩ := right_form h
  have ha : a = 60 := hf.1
  subst ha
  have e : headB b fl ++ propsB l (whichF fl 0) 0 = pnum 2 60 ++ (pnum 2 0 ++ (pnum 8 b ++ (pnum 2 fl ++ propsB l (whichF fl 0) 0))) := by unfold headB; simp only [app_assoc]
  have hz : ¬ (headB b fl ++ propsB l (whichF fl 0) 0).size < 14 := by
    rw [size_append, headB_size ok.1.1 ok.1.2 hf.2.1]; omega
  have t1 := pnum_take (n := 2) (v := 60) (.inr (.inl rfl)) (by decide) (by decide) (pnum 2 0 ++ (pnum 8 b ++ (pnum 2 fl ++ propsB l (whichF fl 0) 0)))
  have t2 := pnum_take (n := 2) (v := 0) (.inr (.inl rfl)) (by decide) (by decide) (pnum 8 b ++ (pnum 2 fl ++ propsB l (whichF fl 0) 0))
  have t3 := pnum_take (n := 8) (v := b) (.inr (.inr (.inr rfl))) ok.1.1 (by show b < 18446744073709551616; exact ok.1.2) (pnum 2 fl ++ propsB l (whichF fl 0) 0)
  have t4 := pnum_take (n := 2) (v := fl) (.inr (.inl rfl)) ok.2.1.1 (by show fl < 65536; have := hf.2.1; omega) (propsB l (whichF fl 0) 0)
  have hg := ptGo_props l (fun n hn => ok.at hn) (whichF fl 0) 0 (which_lt fl) (by rw [Nat.zero_add]; exact hf.2.2.2) hv
  rw [List.take_zero] at hg
  unfold ptakeR
  rw [if_neg hz]
  unfold pt14 pt12 pt4 pt2
  rw [e, t1]
  dsimp only
  rw [t2]
  dsimp only
  rw [t3]
  dsimp only
  rw [t4]
  dsimp only
  unfold ptMid
  rw [hg]
  dsimp only
  rw [if_pos rfl]
  unfold ptEnd
  rw [if_neg, if_neg hb]
  rintro (h | h | h | h)
  · exact h rfl
  · exact h rfl
  · exact h hf
  · exact h hv
/-- the taken values' bytes -/
theorem ptGo_bytes : ∀ (is : List Nat) (s : ByteArray) (acc : List S42), s.size ≤ 4503599627370496 → (∀ v ∈ acc, okV v) → (ptGo is s acc).2.2 = 0 →
    ∃ ext, (ptGo is s acc).1 = acc ++ ext ∧ ext.length = is.length ∧ (∀ v ∈ acc ++ ext, okV v) ∧ ∀ l : List S42, (∃ tl, l = acc ++ ext ++ tl) → propsB l is acc.length ++ (ptGo is s acc).2.1 = s
  | [], s, acc, _, hok, _ => ⟨[], by rw [ptGo]; simp, rfl, by simpa using hok, fun l _ => by rw [propsB, ptGo]; exact eq_of_list (by rw [append_data]; simp)⟩
  | i :: is, s, acc, hz, hok, h => by
    rw [ptGo] at h ⊢
    by_cases e : (valueR (letN i) s).2.2.2 = 0
    · rw [if_pos e] at h ⊢
      have hvs := value_size (letN i) s
      have hp := prop_value e
      obtain ⟨ext, h1, h2, h3, h4⟩ := ptGo_bytes is (valueR (letN i) s).2.2.1 (acc ++ [⟨(valueR (letN i) s).1, (valueR (letN i) s).2.1⟩]) (by omega) (fun v hv => by
        rcases List.mem_append.1 hv with hv | hv
        · exact hok v hv
        · obtain rfl := List.mem_singleton.1 hv
          exact ⟨hvs.2.2.1, hvs.2.2.2, by show (valueR (letN i) s).2.1.size ≤ 4503599627370496; omega⟩) h
      generalize valueR (letN i) s = V at *
      refine ⟨⟨V.1, V.2.1⟩ :: ext, by rw [h1]; simp, by simp [h2], by simpa using h3, fun l hl => ?_⟩
      obtain ⟨tl, rfl⟩ := hl
      have h5 := h4 (acc ++ ⟨V.1, V.2.1⟩ :: ext ++ tl) ⟨tl, by simp⟩
      have hg : (acc ++ ⟨V.1, V.2.1⟩ :: ext ++ tl).getD acc.length z42 = ⟨V.1, V.2.1⟩ := by simp
      rw [propsB, hg, app_assoc]
      rw [List.length_append, List.length_singleton] at h5
      rw [h5]
      exact hp
    · rw [if_neg e] at h
      exact absurd h (by show ¬ (7 : Int) = 0; decide)
theorem take_zero {s : ByteArray} {n : Int} (hn : isW n) (h : n ≤ (s.size : Int)) : (takeR s n).2.2 = 0 := by
  unfold takeR
  rw [if_pos hn, if_neg (by omega)]
theorem take_zero_size {s : ByteArray} {n : Int} (hn : isW n) (h : (takeR s n).2.2 = 0) : (takeR s n).2.1.size = s.size - n.toNat := by
  unfold takeR at h ⊢
  rw [if_pos hn] at h ⊢
  by_cases e : (s.size : Int) < n
  · rw [if_pos e] at h; exact absurd h (by show ¬ (2 : Int) = 0; decide)
  · rw [if_neg e]
    exact extract_size' s n.toNat
/-- taken and laid -/
theorem bytes_take {s : ByteArray} (hz : s.size ≤ 4503599627370496) (h : (ptakeR s).2.2.2.2 = 0) :
    okH (ptakeR s).2.1 (ptakeR s).2.2.1 (ptakeR s).2.2.2.1 ∧ RightR (ptakeR s).1 (ptakeR s).2.1 (ptakeR s).2.2.1 (ptakeR s).2.2.2.1 = 0 ∧ headB (ptakeR s).2.1 (ptakeR s).2.2.1 ++ propsB (ptakeR s).2.2.2.1 (whichF (ptakeR s).2.2.1 0) 0 = s := by
  unfold ptakeR at *
  by_cases e0 : s.size < 14
  · rw [if_pos e0] at h; exact absurd h (by decide)
  rw [if_neg e0] at h ⊢
  have r2 : (takeR s 2).2.2 = 0 := take_zero (.inr (.inl rfl)) (by omega)
  have z2 := take_zero_size (.inr (.inl rfl)) r2
  have r4 : (takeR (pt2 s) 2).2.2 = 0 := take_zero (.inr (.inl rfl)) (by unfold pt2; omega)
  have z4 := take_zero_size (.inr (.inl rfl)) r4
  have r12 : (takeR (pt4 s) 8).2.2 = 0 := take_zero (.inr (.inr (.inr rfl))) (by unfold pt4; unfold pt2 at z4 ⊢; omega)
  have z12 := take_zero_size (.inr (.inr (.inr rfl))) r12
  have r14 : (takeR (pt12 s) 2).2.2 = 0 := take_zero (.inr (.inl rfl)) (by unfold pt12; unfold pt4 at z12 ⊢; unfold pt2 at z4 z12 ⊢; omega)
  have p2 := pnum_of r2
  have p4 := pnum_of r4
  have p12 := pnum_of r12
  have p14 := pnum_of r14
  have z14 : (pt14 s).size ≤ s.size := Nat.le_trans (Nat.le_trans (Nat.le_trans (take_rest _ _) (take_rest _ _)) (take_rest _ _)) (take_rest _ _)
  have b12 := take_bound (pt4 s) 8
  have b14 := take_bound (pt12 s) 2
  have q2 : pnum 2 (takeR s 2).1 ++ pt2 s = s := p2
  have q4 : pnum 2 (takeR (pt2 s) 2).1 ++ pt4 s = pt2 s := p4
  have q12 : pnum 8 (takeR (pt4 s) 8).1 ++ pt12 s = pt4 s := p12
  have q14 : pnum 2 (takeR (pt12 s) 2).1 ++ pt14 s = pt12 s := p14
  clear p2 p4 p12 p14 r2 r4 r12 r14 z2 z4 z12
  generalize (takeR s 2).1 = a at *
  generalize (takeR (pt2 s) 2).1 = wt at *
  generalize (takeR (pt4 s) 8).1 = b at *
  generalize (takeR (pt12 s) 2).1 = fl at *
  unfold ptMid at *
  by_cases e1 : (ptGo (whichF fl 0) (pt14 s) []).2.2 = 0
  · rw [if_pos e1] at h ⊢
    obtain ⟨ext, h1, h2, h3, h4⟩ := ptGo_bytes (whichF fl 0) (pt14 s) [] (by omega) (fun v hv => by cases hv) e1
    rw [List.nil_append] at h1 h3
    rw [h1] at h ⊢
    have h4 := h4 ext ⟨[], by simp⟩
    unfold ptEnd at *
    by_cases e2 : (ptGo (whichF fl 0) (pt14 s) []).2.1.size ≠ 0 ∨ wt ≠ 0 ∨ ¬ FormR a fl ext ∨ ¬ valuesR fl ext = 0
    · rw [if_pos e2] at h; exact absurd h (by decide)
    · rw [if_neg e2] at h ⊢
      by_cases e3 : 65536 < b
      · rw [if_pos e3] at h; exact absurd h (by decide)
      · rw [if_neg e3]
        have f1 : (ptGo (whichF fl 0) (pt14 s) []).2.1.size = 0 := Classical.byContradiction fun hh => e2 (.inl hh)
        have f2 : wt = 0 := Classical.byContradiction fun hh => e2 (.inr (.inl hh))
        have f3 : FormR a fl ext := Classical.byContradiction fun hh => e2 (.inr (.inr (.inl hh)))
        have f4 : valuesR fl ext = 0 := Classical.byContradiction fun hh => e2 (.inr (.inr (.inr hh)))
        rw [ba_empty f1, app_empty] at h4
        dsimp only
        refine ⟨⟨b12, b14, by have := whichF_len fl; omega, h3⟩, ?_, ?_⟩
        · unfold RightR
          rw [if_pos f3, if_neg e3, f4]
        · have ha := f3.1
          subst ha f2
          show headB b fl ++ propsB ext (whichF fl 0) ([] : List S42).length = s
          rw [h4]
          unfold headB
          simp only [app_assoc]
          rw [q14, q12, q4, q2]
  · rw [if_neg e1] at h; exact absurd h (by decide)
end Go.Proofs.YthpfcplhlhnfeaaDoor.F
namespace Go.Proofs.YthpfcplhlhnfeaaDoor.F
open Go.RowKit Go.Proofs.YthpfcplhlhnfeaaDoorW.PrintWords Go.Proofs.YthpfcplhlhnfeaaDoorW.PrintLast Go.Proofs.YthpfcplhlhnfeaaDoorW.PrintMore
set_option linter.unusedVariables false
set_option linter.unusedSimpArgs false
set_option maxRecDepth 4000
def eqV (x y : S42) : Bool := (x.f0 == y.f0) && (x.f1.toList == y.f1.toList)
def eqL : List S42 → List S42 → Bool
  | [], [] => true
  | x :: xs, y :: ys => eqV x y && eqL xs ys
  | _, _ => false
theorem eqV_refl (x : S42) : eqV x x = true := by unfold eqV; rw [beq_iff_eq.2 rfl, beq_iff_eq.2 rfl]; rfl
theorem eqL_refl : ∀ l, eqL l l = true
  | [] => rfl
  | x :: l => by rw [eqL, eqV_refl, eqL_refl l]; rfl
theorem eqL_len : ∀ l l', l.length ≠ l'.length → eqL l l' = false
  | [], [], h => absurd rfl h
  | [], _ :: _, _ => rfl
  | _ :: _, [], _ => rfl
  | x :: l, y :: l', h => by
    rw [eqL, eqL_len l l' (by simpa using h)]
    exact Bool.and_false _
theorem drop_val (l : List S42) (i : Nat) (h : i < l.length) : l.drop i = l.getD i z42 :: l.drop (i + 1) := by
  rw [List.drop_eq_getElem_cons h]
  simp [h]
theorem same_loop (a b fl a' b' fl' : Int) (l l' : List S42) (hl : l.length = l'.length) (hz : l.length ≤ 4503599627370496) : ∀ (d i k : Nat), l.length = i + d → d < k →
    interchangeref07_Same.l0 k (i : Int) a b fl l a' b' fl' l' = some (eqL (l.drop i) (l'.drop i)) := by
  intro d
  induction d with
  | zero =>
    intro i k h hk
    obtain ⟨k, rfl⟩ : ∃ j, k = j + 1 := ⟨k - 1, by omega⟩
    rw [interchangeref07_Same.l0, if_neg (by omega), List.drop_of_length_le (by omega), List.drop_of_length_le (by omega)]
    rfl
  | succ d ih =>
    intro i k h hk
    obtain ⟨k, rfl⟩ : ∃ j, k = j + 1 := ⟨k - 1, by omega⟩
    have r1 : rd_T42 l (i : Int) = l.getD i z42 := by unfold rd_T42; rw [Int.toNat_natCast]
    have r2 : rd_T42 l' (i : Int) = l'.getD i z42 := by unfold rd_T42; rw [Int.toNat_natCast]
    rw [interchangeref07_Same.l0, if_pos (by omega), if_pos (by omega), if_pos (by omega), w_succ (i := i) (by omega), r1, r2, drop_val l i (by omega), drop_val l' i (by omega), eqL, ih (i + 1) k (by omega) (by omega)]
    generalize l.getD i z42 = x
    generalize l'.getD i z42 = y
    unfold eqV
    cases (x.f0 == y.f0) <;> cases (x.f1.toList == y.f1.toList) <;> rfl
def sameB (a b fl : Int) (l : List S42) (a' b' fl' : Int) (l' : List S42) : Bool := decide (a = a') && decide (b = b') && decide (fl = fl') && eqL l l'
theorem Same_k {k : Nat} (a b fl : Int) (l : List S42) (a' b' fl' : Int) (l' : List S42) (hk : l.length + 3 ≤ k) (hz : l.length ≤ 4503599627370496) : interchangeref07_Same.f k a b fl l a' b' fl' l' = some (sameB a b fl l a' b' fl' l') := by
  obtain ⟨k, rfl⟩ : ∃ j, k = j + 1 := ⟨k - 1, by omega⟩
  have hj : interchangeref07_Same.j0 (k + 1) true a b fl l a' b' fl' l' = some false := by rw [interchangeref07_Same.j0, if_pos rfl]
  unfold interchangeref07_Same.f sameB
  by_cases e1 : a = a'
  · rw [if_pos e1, decide_eq_true e1, Bool.true_and]
    by_cases e2 : b = b'
    · rw [if_pos e2, decide_eq_true e2, Bool.true_and]
      by_cases e3 : fl = fl'
      · rw [if_pos e3, decide_eq_true e3, Bool.true_and]
        by_cases e4 : l.length = l'.length
        · have h0 := same_loop a b fl a' b' fl' l l' e4 hz l.length 0 k (by omega) (by omega)
          rw [interchangeref07_Same.j0, if_neg (by simp [e4])]
          exact h0
        · rw [eqL_len l l' e4, interchangeref07_Same.j0, if_pos (bne_iff_ne.2 (by omega))]
      · rw [if_neg e3, decide_eq_false e3, Bool.false_and, hj]
    · rw [if_neg e2, decide_eq_false e2, Bool.false_and, Bool.false_and, hj]
  · rw [if_neg e1, decide_eq_false e1, Bool.false_and, Bool.false_and, Bool.false_and, hj]
theorem sameB_refl (a b fl : Int) (l : List S42) : sameB a b fl l a b fl l = true := by
  unfold sameB
  rw [decide_eq_true rfl, decide_eq_true rfl, decide_eq_true rfl, eqL_refl]
  rfl
end Go.Proofs.YthpfcplhlhnfeaaDoor.F
namespace Go.Proofs.YthpfcplhlhnfeaaDoor.F
open Go.RowKit Go.Proofs.YthpfcplhlhnfeaaDoorW.PrintWords Go.Proofs.YthpfcplhlhnfeaaDoorW.PrintLast Go.Proofs.YthpfcplhlhnfeaaDoorW.PrintMore
set_option linter.unusedVariables false
set_option linter.unusedSimpArgs false
set_option maxRecDepth 4000
abbrev intsOf (l : List Nat) : List Int := l.map (fun n : Nat => (n : Int))
theorem pow_half (m : Nat) (hm : m < 63) : IntKind.u64.wrap (Int.tdiv (2 ^ (m + 1)) 2) = (2 : Int) ^ m := by
  have h : ∀ m : Fin 63, IntKind.u64.wrap (Int.tdiv (2 ^ (m.val + 1)) 2) = (2 : Int) ^ m.val := by decide +kernel
  exact h ⟨m, hm⟩
theorem which_loop (fl : Int) (h0 : 0 ≤ fl) (h1 : fl < 18446744073709551616) : ∀ (d i k : Nat) (pre : List Int), 14 = i + d → d < k → pre.length ≤ i →
    interchangeref07_Which.l0 k fl pre (2 ^ (15 - i)) (i : Int) = some (pre ++ intsOf (whichF fl i)) := by
  intro d
  induction d with
  | zero =>
    intro i k pre h hk hp
    obtain ⟨k, rfl⟩ : ∃ j, k = j + 1 := ⟨k - 1, by omega⟩
    rw [interchangeref07_Which.l0, if_neg (by omega), whichF_end fl i (by omega)]
    simp
  | succ d ih =>
    intro i k pre h hk hp
    obtain ⟨k, rfl⟩ : ∃ j, k = j + 1 := ⟨k - 1, by omega⟩
    obtain ⟨m, hm⟩ : ∃ m, 15 - i = m + 1 := ⟨14 - i, by omega⟩
    have hm2 : 15 - (i + 1) = m := by omega
    have hpos : (0 : Int) < 2 ^ (15 - i) := Int.pow_pos (by decide)
    have hw1 : wrap64 ((i : Int) + 1) = ((i + 1 : Nat) : Int) := w_succ (by omega)
    have hq : IntKind.u64.wrap (Int.tdiv fl (2 ^ (15 - i))) = fl / 2 ^ (15 - i) := by
      rw [Int.tdiv_eq_ediv_of_nonneg h0]
      exact wrapU (Int.ediv_nonneg h0 (Int.le_of_lt hpos)) (Int.lt_of_le_of_lt (Int.ediv_le_self _ h0) h1)
    have hh : IntKind.u64.wrap (Int.tdiv (2 ^ (15 - i)) 2) = (2 : Int) ^ (15 - (i + 1)) := by rw [hm, hm2]; exact pow_half m (by omega)
    have hb : (Int.tmod (fl / 2 ^ (15 - i)) 2 = 1) ↔ hasB fl i = true := by
      rw [Int.tmod_eq_emod_of_nonneg (Int.ediv_nonneg h0 (Int.le_of_lt hpos))]
      unfold hasB
      exact (decide_eq_true_iff).symm
    rw [interchangeref07_Which.l0, if_pos (by omega), if_neg (by omega), hq, hh, hw1, whichF_step fl i (by omega)]
    by_cases e : hasB fl i = true
    · rw [if_pos (hb.2 e), if_pos (by omega), if_pos e, ih (i + 1) k (pre ++ [(i : Int)]) (by omega) (by omega) (by simp; omega)]
      simp
    · rw [if_neg (fun h => e (hb.1 h)), if_neg e, ih (i + 1) k pre (by omega) (by omega) (by omega)]
theorem Which_k {k : Nat} (hk : 15 ≤ k) (fl : Int) (h0 : 0 ≤ fl) (h1 : fl < 18446744073709551616) : interchangeref07_Which.f k fl = some (intsOf (whichF fl 0)) := by
  have := which_loop fl h0 h1 14 0 k [] (by omega) (by omega) (by simp)
  unfold interchangeref07_Which.f
  rw [show ((0 : Nat) : Int) = 0 from rfl] at this
  exact this
theorem rval_k {k : Nat} (hk : 14 ≤ k) (c n : Int) (s : ByteArray) (hc : isL c) (h0 : 0 ≤ n) (hz : s.size ≤ 4503599627370496) : interchangeref07_val.f k c n s = some (rightR c n s) := by
  obtain ⟨k, rfl⟩ : ∃ j, k = j + 2 := ⟨k - 2, by omega⟩
  have hd := rDeep_k (k := k) (by omega) s (by omega)
  have hdr : (deepR s).2 = 0 ↔ wholeR s = 0 := by
    unfold deepR
    by_cases e : wholeR s = 0
    · rw [if_pos e]; first | done | exact ⟨fun _ => e, fun _ => rfl⟩
    · rw [if_neg e]; first | done | exact ⟨fun h => absurd h e, fun h => absurd h e⟩
  unfold interchangeref07_val.f rightR
  rcases hc with rfl | rfl | rfl | rfl
  · rw [if_neg (by decide), if_pos rfl, interchangeref07_val.j0]
    by_cases e1 : 255 < s.size
    · rw [decide_eq_true (by omega), if_pos rfl, if_pos (.inr ⟨rfl, e1⟩)]
    · rw [decide_eq_false (by omega), if_neg (by decide), if_neg (by decide), if_neg (fun h => h.elim (fun h => absurd h.1 (by decide)) (fun h => e1 h.2)), interchangeref07_val.j1, if_neg (by decide)]
      by_cases e2 : n = 0
      · rw [if_pos e2, if_neg (by decide), if_neg (fun h => h.elim (fun h => absurd h.1 (by decide)) (fun h => h.2 e2)), if_neg (fun h => absurd h.1 (by decide))]
      · rw [if_neg e2, if_pos (.inr ⟨by decide, e2⟩)]
  · rw [if_neg (by decide), if_neg (by decide), interchangeref07_val.j0, if_neg (by decide), if_neg (by decide), if_neg (fun h => h.elim (fun h => absurd h.1 (by decide)) (fun h => absurd h.1 (by decide))), interchangeref07_val.j1, if_neg (by decide)]
    by_cases e2 : n = 0
    · rw [if_pos e2, if_pos rfl, if_neg (fun h => h.elim (fun h => absurd h.1 (by decide)) (fun h => h.2 e2)), hd, Option.bind_some]
      by_cases e3 : wholeR s = 0
      · rw [if_pos (hdr.2 e3), if_neg (fun h => h.2 e3)]
      · rw [if_neg (fun h => e3 (hdr.1 h)), if_pos ⟨rfl, e3⟩]
    · rw [if_neg e2, if_pos (.inr ⟨by decide, e2⟩)]
  · rw [if_pos rfl]
    by_cases e1 : n > 255
    · rw [if_pos e1, interchangeref07_val.j0, if_pos rfl, if_pos (.inl ⟨rfl, by omega⟩)]
    · have r1 : ¬ (((111 : Int) = 111 ∧ ¬ n < 256) ∨ ((111 : Int) = 83 ∧ 255 < s.size)) := fun h => h.elim (fun h => h.2 (by omega)) (fun h => absurd h.1 (by decide))
      rw [if_neg e1, if_neg (by decide), interchangeref07_val.j0, if_neg (by decide), if_pos rfl, interchangeref07_val.j1, if_pos rfl, if_neg r1]
      by_cases e2 : s.size = 0
      · rw [if_neg (by omega), if_neg (fun h => h.elim (fun h => h.2 e2) (fun h => h.1 (.inl rfl))), if_neg (fun h => absurd h.1 (by decide))]
      · rw [if_pos (show (s.size : Int) > 0 by omega), if_pos (.inl ⟨.inl rfl, e2⟩)]
  · have r1 : ¬ (((113 : Int) = 111 ∧ ¬ n < 256) ∨ ((113 : Int) = 83 ∧ 255 < s.size)) := fun h => h.elim (fun h => absurd h.1 (by decide)) (fun h => absurd h.1 (by decide))
    rw [if_neg (by decide), if_neg (by decide), interchangeref07_val.j0, if_neg (by decide), if_neg (by decide), interchangeref07_val.j1, if_pos (by decide), if_neg r1]
    by_cases e2 : s.size = 0
    · rw [if_neg (by omega), if_neg (fun h => h.elim (fun h => h.2 e2) (fun h => h.1 (.inr rfl))), if_neg (fun h => absurd h.1 (by decide))]
    · rw [if_pos (show (s.size : Int) > 0 by omega), if_pos (.inl ⟨.inr rfl, e2⟩)]
theorem rform_k {k : Nat} (hk : 15 ≤ k) (a b fl : Int) (l : List S42) (h0 : 0 ≤ fl) (h1 : fl < 18446744073709551616) : interchangeref07_form.f k a b fl l = some (decide (FormR a fl l)) := by
  unfold interchangeref07_form.f
  by_cases e1 : a = 60
  · rw [if_pos e1]
    by_cases e2 : fl < 65536
    · rw [if_pos e2, Int.tmod_eq_emod_of_nonneg h0]
      by_cases e3 : fl % 4 = 0
      · rw [if_pos e3, Which_k hk fl h0 h1, Option.bind_some, List.length_map]
        by_cases e4 : (whichF fl 0).length = l.length
        · rw [decide_eq_true (show FormR a fl l from ⟨e1, by omega, e3, e4⟩), beq_iff_eq.2 (by omega)]
        · rw [decide_eq_false (show ¬ FormR a fl l from fun h => e4 h.2.2.2), beq_eq_false_iff_ne.2 (by omega)]
      · rw [if_neg e3, decide_eq_false (show ¬ FormR a fl l from fun h => e3 h.2.2.1)]
    · rw [if_neg e2, decide_eq_false (show ¬ FormR a fl l from fun h => e2 (by have := h.2.1; omega))]
  · rw [if_neg e1, decide_eq_false (show ¬ FormR a fl l from fun h => e1 h.1)]
theorem rd_ints (ws : List Nat) (n : Nat) (h : n < ws.length) : rd (intsOf ws) (n : Int) = ((ws.getD n 0 : Nat) : Int) := by
  unfold rd
  rw [Int.toNat_natCast]
  simp [h]
theorem drop_nat (ws : List Nat) (n : Nat) (h : n < ws.length) : ws.drop n = ws.getD n 0 :: ws.drop (n + 1) := by
  rw [List.drop_eq_getElem_cons h]
  simp [h]
theorem at_lt {ws : List Nat} (hw : ∀ i ∈ ws, i < 14) {n : Nat} (h : n < ws.length) : ws.getD n 0 < 14 := by
  have : ws.getD n 0 = ws[n] := by simp [h]
  rw [this]
  exact hw _ (List.getElem_mem h)
theorem rd_val (l : List S42) (n : Nat) : rd_T42 l (n : Int) = l.getD n z42 := by unfold rd_T42; rw [Int.toNat_natCast]
theorem values_loop {a b fl : Int} {l : List S42} (ok : okH b fl l) (ws : List Nat) (hw : ∀ i ∈ ws, i < 14) (hl : ws.length ≤ l.length) : ∀ (d n k : Nat), ws.length = n + d → d + 14 < k →
    interchangeref07_values.l0 k (intsOf ws) (n : Int) a b fl l = some (valsGo l (ws.drop n) n) := by
  intro d
  induction d with
  | zero =>
    intro n k h hk
    obtain ⟨k, rfl⟩ : ∃ j, k = j + 1 := ⟨k - 1, by omega⟩
    rw [interchangeref07_values.l0, if_neg (by rw [List.length_map]; omega), List.drop_of_length_le (by omega)]
    rfl
  | succ d ih =>
    intro n k h hk
    obtain ⟨k, rfl⟩ : ∃ j, k = j + 1 := ⟨k - 1, by omega⟩
    have hlt := at_lt hw (n := n) (by omega)
    have hv := ok.at (n := n) (by omega)
    rw [interchangeref07_values.l0, if_pos (by rw [List.length_map]; omega), if_pos (by omega), rd_ints ws n (by omega), if_pos (by omega), if_pos (by omega), if_pos (by have := ok.2.2.1; omega), rd_val, drop_nat ws n (by omega), valsGo, w_succ (i := n) (by have := ok.2.2.1; omega)]
    have hr := rval_k (k := k) (by omega) (letN (ws.getD n 0)) (l.getD n z42).f0 (l.getD n z42).f1 (letN_isL _ hlt) hv.1 hv.2.2
    have hb : bt (⟨#[83, 83, 84, 111, 111, 83, 83, 83, 83, 113, 83, 83, 83, 83]⟩ : ByteArray) ((ws.getD n 0 : Nat) : Int) = letN (ws.getD n 0) := rfl
    rw [hb, hr, Option.bind_some]
    by_cases e : rightR (letN (ws.getD n 0)) (l.getD n z42).f0 (l.getD n z42).f1 = 0
    · rw [if_pos e, if_pos e, ih (n + 1) k (by omega) (by omega)]
    · rw [if_neg e, if_neg e]
theorem rvalues_k {k : Nat} (hk : 60 ≤ k) {a b fl : Int} {l : List S42} (ok : okH b fl l) (hl : (whichF fl 0).length ≤ l.length) : interchangeref07_values.f k a b fl l = some (valuesR fl l) := by
  unfold interchangeref07_values.f
  have hw := whichF_len fl
  rw [Which_k (by omega) fl ok.2.1.1 ok.2.1.2, Option.bind_some]
  have := values_loop (a := a) ok (whichF fl 0) (which_lt fl) hl (whichF fl 0).length 0 k (by omega) (by omega)
  rw [List.drop_zero] at this
  exact this
theorem rRight_k {k : Nat} (hk : 60 ≤ k) {a b fl : Int} {l : List S42} (ok : okH b fl l) : interchangeref07_Right.f k a b fl l = some (RightR a b fl l) := by
  unfold interchangeref07_Right.f RightR
  rw [rform_k (by omega) a b fl l ok.2.1.1 ok.2.1.2, Option.bind_some]
  by_cases e : FormR a fl l
  · rw [decide_eq_true e, if_pos rfl, if_pos e]
    by_cases e2 : b > 65536
    · rw [if_pos e2, if_pos (show 65536 < b from e2)]
    · rw [if_neg e2, if_neg (show ¬ 65536 < b from e2), rvalues_k hk ok (by rw [e.2.2.2]; exact Nat.le_refl _), Option.bind_some]
  · rw [decide_eq_false e, if_neg (by decide), if_neg e]
theorem api_loop (l l' : List S42) (hl : l.length = l'.length) (hz : l.length ≤ 4503599627370496) : ∀ (d i k : Nat), l.length = i + d → d < k →
    api_Val.l0 k l l' (l.length : Int) (i : Int) = some (eqL (l.drop i) (l'.drop i)) := by
  intro d
  induction d with
  | zero =>
    intro i k h hk
    obtain ⟨k, rfl⟩ : ∃ j, k = j + 1 := ⟨k - 1, by omega⟩
    rw [api_Val.l0, if_neg (by omega), List.drop_of_length_le (by omega), List.drop_of_length_le (by omega)]
    rfl
  | succ d ih =>
    intro i k h hk
    obtain ⟨k, rfl⟩ : ∃ j, k = j + 1 := ⟨k - 1, by omega⟩
    rw [api_Val.l0, if_pos (by omega), if_pos (by omega), if_pos (by omega), if_pos (by omega), w_succ (i := i) (by omega), rd_val, rd_val, drop_val l i (by omega), drop_val l' i (by omega), eqL, ih (i + 1) k (by omega) (by omega)]
    generalize l.getD i z42 = x
    generalize l'.getD i z42 = y
    unfold eqV
    cases (x.f0 == y.f0) <;> cases (x.f1.toList == y.f1.toList) <;> rfl
theorem pSame_k {k : Nat} (a b fl : Int) (l : List S42) (a' b' fl' : Int) (l' : List S42) (hk : l.length + 3 ≤ k) (hz : l.length ≤ 4503599627370496) : props_Same.f k a b fl l a' b' fl' l' = some (sameB a b fl l a' b' fl' l') := by
  unfold props_Same.f sameB
  by_cases e1 : a = a'
  · rw [if_pos e1, decide_eq_true e1, Bool.true_and]
    by_cases e2 : b = b'
    · rw [if_pos e2, decide_eq_true e2, Bool.true_and]
      by_cases e3 : fl = fl'
      · rw [if_pos e3, decide_eq_true e3, Bool.true_and]
        unfold api_Val.f
        by_cases e4 : l.length = l'.length
        · have h0 := api_loop l l' e4 hz l.length 0 k (by omega) (by omega)
          rw [List.drop_zero, List.drop_zero] at h0
          rw [if_pos (by omega)]
          exact (congrArg (fun o => Option.bind o fun t => some t) h0).trans rfl
        · rw [eqL_len l l' e4, if_neg (by omega), Option.bind_some]
      · rw [if_neg e3, decide_eq_false e3, Bool.false_and]
    · rw [if_neg e2, decide_eq_false e2, Bool.false_and, Bool.false_and]
  · rw [if_neg e1, decide_eq_false e1, Bool.false_and, Bool.false_and, Bool.false_and]
end Go.Proofs.YthpfcplhlhnfeaaDoor.F
namespace Go.Proofs.YthpfcplhlhnfeaaDoor.F
open Go.RowKit Go.Proofs.YthpfcplhlhnfeaaDoorW.PrintWords Go.Proofs.YthpfcplhlhnfeaaDoorW.PrintLast Go.Proofs.YthpfcplhlhnfeaaDoorW.PrintMore
set_option linter.unusedVariables false
set_option linter.unusedSimpArgs false
set_option maxRecDepth 4000

theorem rput_loop (d : Nat) : ∀ (k i : Nat) (n : Int) (v : Nat) (l : List UInt8), n = i + d → n ≤ 8 → v < 18446744073709551616 → l.length = i → d < k →
    interchangeref01_Put.l0 k n v (toBA l) i = some (if v < 256 ^ d then (toBA (be d v ++ l), 0) else (⟨#[]⟩, 4)) := by
  induction d with
  | zero =>
    intro k i n v l hn _ _ _ hk
    obtain ⟨k, rfl⟩ : ∃ m, k = m + 1 := ⟨k - 1, by omega⟩
    simp only [interchangeref01_Put.l0]
    rw [if_neg (by omega)]
    by_cases hv : (v : Int) > 0
    · rw [if_pos hv, if_neg (by simp; omega)]
    · rw [if_neg hv, if_pos (by simp; omega)]; rfl
  | succ d ih =>
    intro k i n v l hn h8 hv hl hk
    obtain ⟨k, rfl⟩ : ∃ m, k = m + 1 := ⟨k - 1, by omega⟩
    simp only [interchangeref01_Put.l0, Option.bind_some]
    rw [if_pos (by omega), strOfNums_toBA, toBA_append, if_pos (by rw [toBA_size, toBA_size]; simp; omega)]
    have e1 : IntKind.u64.wrap (Int.tdiv (v : Int) 256) = ((v / 256 : Nat) : Int) := by
      rw [Int.tdiv_eq_ediv_of_nonneg (by omega), wrapU (by omega) (by omega)]; omega
    have e2 : (Int.tmod (v : Int) 256 % 256).toNat = v % 256 := by
      rw [Int.tmod_eq_emod_of_nonneg (by omega)]; omega
    have e3 : wrap64 ((i : Int) + 1) = ((i + 1 : Nat) : Int) := by rw [wrap64_of (by omega) (by omega)]; omega
    rw [e1, e3]
    simp only [List.map_cons, List.map_nil, e2]
    rw [ih k (i + 1) n (v / 256) _ (by omega) h8 (by omega) (by simp; omega) (by omega)]
    have hp : v / 256 < 256 ^ d ↔ v < 256 ^ (d + 1) := by
      rw [Nat.pow_succ, Nat.div_lt_iff_lt_mul (by decide)]
    by_cases hq : v < 256 ^ (d + 1)
    · rw [if_pos hq, if_pos (hp.2 hq)]
      simp [be]
    · rw [if_neg hq, if_neg (fun h => hq (hp.1 h))]

theorem rput_flag (k : Nat) (a0 a1 : Int) : interchangeref01_Put.f k a0 a1 = interchangeref01_Put.j0 k a0 a1 (decide (¬ isW a0)) := by
  unfold interchangeref01_Put.f isW
  by_cases h1 : a0 = 1
  · rw [if_pos h1]; simp [h1]
  by_cases h2 : a0 = 2
  · rw [if_neg h1, if_pos h2]; simp [h2]
  by_cases h4 : a0 = 4
  · rw [if_neg h1, if_neg h2, if_pos h4]; simp [h4]
  rw [if_neg h1, if_neg h2, if_neg h4]
  by_cases h8 : a0 = 8
  · simp [h8]
  · have : (a0 != 8) = true := by simp [h8]
    rw [this]
    simp [h1, h2, h4, h8]
theorem rput_at (a0 a1 : Int) (h0 : 0 ≤ a1) (h1 : a1 < 18446744073709551616) : interchangeref01_Put.f 12 a0 a1 = some (putR a0 a1) := by
  rw [rput_flag]
  unfold putR
  simp only [interchangeref01_Put.j0]
  obtain ⟨v, rfl⟩ := Int.eq_ofNat_of_zero_le h0
  by_cases hw : isW a0
  · obtain ⟨m, rfl⟩ : ∃ m : Nat, a0 = m := ⟨a0.toNat, by rcases hw with h | h | h | h <;> omega⟩
    have hm : m ≤ 8 := by rcases hw with h | h | h | h <;> omega
    rw [if_pos hw, if_neg (by simp [hw]), toBA_nil]
    have L := rput_loop m 11 0 m v [] (by omega) (by omega) (by omega) rfl (by omega)
    rw [List.append_nil] at L
    rw [Int.toNat_natCast, Int.toNat_natCast]
    refine L.trans ?_
    by_cases hv : v < 256 ^ m
    · rw [if_pos hv, if_pos (by have : ((v : Nat) : Int) < ((256 ^ m : Nat) : Int) := by omega
                                simpa using this)]
    · rw [if_neg hv, if_neg (fun h => hv (by have : ((v : Nat) : Int) < ((256 ^ m : Nat) : Int) := by simpa using h
                                             omega))]
      rfl
  · rw [if_neg hw, if_pos (by simp [hw])]
theorem rput_ev (a0 a1 : Int) (h0 : 0 ≤ a1) (h1 : a1 < 18446744073709551616) : Ev (fun k => interchangeref01_Put.f k a0 a1) (putR a0 a1) := Ev.of (interchangeref01_Put.mono a0 a1) (rput_at a0 a1 h0 h1)
theorem rput_k {k : Nat} (hk : 12 ≤ k) (a0 a1 : Int) (h0 : 0 ≤ a1) (h1 : a1 < 18446744073709551616) : interchangeref01_Put.f k a0 a1 = some (putR a0 a1) := at_rounds (interchangeref01_Put.mono a0 a1) hk (rput_at a0 a1 h0 h1)
end Go.Proofs.YthpfcplhlhnfeaaDoor.F
namespace Go.Proofs.YthpfcplhlhnfeaaDoor.F
open Go.RowKit Go.Proofs.YthpfcplhlhnfeaaDoorW.PrintWords Go.Proofs.YthpfcplhlhnfeaaDoorW.PrintLast Go.Proofs.YthpfcplhlhnfeaaDoorW.PrintMore
set_option linter.unusedVariables false
set_option linter.unusedSimpArgs false
set_option maxRecDepth 4000
theorem rshort_f (s : ByteArray) (hz : s.size ≤ 4611686018427387904) : interchangeref02_Short.f s = some (layR 1 s) := by
  unfold interchangeref02_Short.f
  by_cases h : s.size ≤ 255
  · rw [if_neg (by omega), short_ok h, Option.bind_some, strOfNums_toBA]
    have e : ((s.size : Int) % 256).toNat = s.size % 256 := by omega
    simp only [List.map_cons, List.map_nil, e]
    rw [if_pos (by rw [toBA_size]; simp; omega)]
    rfl
  · rw [if_pos (by omega), short_bad h]
theorem bytes_loop {a b fl : Int} {l : List S42} (ok : okH b fl l) (ws : List Nat) (hw : ∀ i ∈ ws, i < 14) (hl : ws.length ≤ l.length) : ∀ (d n k : Nat) (acc : ByteArray), ws.length = n + d → 2 * d + 14 < k → acc.size + d * 4503599627370504 ≤ 9223372036854775807 →
    interchangeref07_Bytes.l0 k acc (intsOf ws) (n : Int) a b fl l = some (acc ++ propsB l (ws.drop n) n, 0) := by
  intro d
  induction d with
  | zero =>
    intro n k acc h hk hz
    obtain ⟨k, rfl⟩ : ∃ j, k = j + 1 := ⟨k - 1, by omega⟩
    rw [interchangeref07_Bytes.l0, if_neg (by rw [List.length_map]; omega), List.drop_of_length_le (by omega)]
    exact congrArg (fun x => some (x, (0 : Int))) (app_empty acc).symm
  | succ d ih =>
    intro n k acc h hk hz
    obtain ⟨k, rfl⟩ : ∃ j, k = j + 2 := ⟨k - 2, by omega⟩
    have hlt := at_lt hw (n := n) (by omega)
    have hv := ok.at (n := n) (by omega)
    have hll := ok.2.2.1
    have hps := propB_size (ws.getD n 0) _ hv
    have hnext := fun (x : ByteArray) (hx : x.size ≤ 4503599627370504) => ih (n + 1) k (acc ++ x) (by omega) (by omega) (by rw [size_append]; omega)
    have hb : bt (⟨#[83, 83, 84, 111, 111, 83, 83, 83, 83, 113, 83, 83, 83, 83]⟩ : ByteArray) ((ws.getD n 0 : Nat) : Int) = letN (ws.getD n 0) := rfl
    rw [interchangeref07_Bytes.l0, if_pos (by rw [List.length_map]; omega), if_pos (by omega), rd_ints ws n (by omega), if_pos (by omega), if_pos (by omega), if_pos (by omega), rd_val, hb, drop_nat ws n (by omega), propsB, ← app_assoc]
    have hL := letN_isL _ hlt
    unfold propB at hps ⊢
    generalize l.getD n z42 = v at hv hps ⊢
    generalize letN (ws.getD n 0) = c at hL hps ⊢
    by_cases e1 : c = 111
    · subst e1
      rw [if_pos rfl] at hps ⊢
      have hn := hnext (pnum 1 v.f0) hps
      rw [if_pos rfl, rput_k (by omega) 1 v.f0 hv.1 hv.2.1, Option.bind_some, interchangeref07_Bytes.j1, if_neg (by decide), if_neg (by decide), w_succ (i := n) (by omega)]
      rw [if_pos (show acc.size + (putR 1 v.f0).1.size ≤ 9223372036854775807 by have : (putR 1 v.f0).1.size ≤ 4503599627370504 := hps; omega)]
      exact hn
    · rw [if_neg e1] at hps ⊢
      rw [if_neg e1, interchangeref07_Bytes.j1, w_succ (i := n) (by omega)]
      by_cases e2 : c = 113
      · subst e2
        rw [if_pos rfl] at hps ⊢
        have hn := hnext (pnum 8 v.f0) hps
        rw [if_pos rfl, rput_k (by omega) 8 v.f0 hv.1 hv.2.1, Option.bind_some, if_neg (by decide)]
        rw [if_pos (show acc.size + (putR 8 v.f0).1.size ≤ 9223372036854775807 by have : (putR 8 v.f0).1.size ≤ 4503599627370504 := hps; omega)]
        exact hn
      · rw [if_neg e2] at hps ⊢
        rw [if_neg e2]
        by_cases e3 : c = 83
        · rw [if_pos e3] at hps ⊢
          have hn := hnext (layR 1 v.f1).1 hps
          rw [if_pos e3, rshort_f v.f1 (by have := hv.2.2; omega), Option.bind_some, if_pos (by omega)]
          exact hn
        · rw [if_neg e3] at hps ⊢
          have hn := hnext v.f1 hps
          rw [if_neg e3, if_pos (by omega)]
          exact hn
theorem rBytes_k {k : Nat} (hk : 100 ≤ k) {a b fl : Int} {l : List S42} (ok : okH b fl l) : interchangeref07_Bytes.f k a b fl l = some (bytesR a b fl l) := by
  unfold interchangeref07_Bytes.f bytesR
  rw [rRight_k (by omega) ok, Option.bind_some]
  by_cases e : RightR a b fl l = 0
  · obtain ⟨hf, _, _⟩ := right_form e
    have s8 := pnum8_size ok.1.1 ok.1.2
    have s2 := pnum2_size hf.2.1
    have hw := whichF_len fl
    have hhd : ((⟨#[0, 60, 0, 0]⟩ : ByteArray) ++ (putR 8 b).1) ++ (putR 2 fl).1 = headB b fl := by
      have h1 : pnum 2 60 ++ pnum 2 0 = (⟨#[0, 60, 0, 0]⟩ : ByteArray) := by decide +kernel
      unfold headB
      rw [h1]
      rfl
    have h4 : (⟨#[0, 60, 0, 0]⟩ : ByteArray).size = 4 := rfl
    have hb := bytes_loop (a := a) ok (whichF fl 0) (which_lt fl) (by rw [hf.2.2.2]; exact Nat.le_refl _) (whichF fl 0).length 0 k (headB b fl) (by omega) (by omega) (by rw [headB_size ok.1.1 ok.1.2 hf.2.1]; omega)
    rw [List.drop_zero] at hb
    rw [if_pos e, if_pos e, rput_k (by omega) 8 b ok.1.1 ok.1.2, Option.bind_some, rput_k (by omega) 2 fl ok.2.1.1 ok.2.1.2, Option.bind_some,
      if_pos (show 4 + (putR 8 b).1.size ≤ 9223372036854775807 by have : (putR 8 b).1.size = 8 := s8; omega),
      if_pos (show ((⟨#[0, 60, 0, 0]⟩ : ByteArray) ++ (putR 8 b).1).size + (putR 2 fl).1.size ≤ 9223372036854775807 by have h1 : (putR 8 b).1.size = 8 := s8; have h2 : (putR 2 fl).1.size = 2 := s2; rw [size_append, h4]; omega),
      Which_k (by omega) fl ok.2.1.1 ok.2.1.2, Option.bind_some, hhd]
    exact hb
  · rw [if_neg e, if_neg e]
theorem rvtake_k {k : Nat} (hk : 12 ≤ k) (c : Int) (s : ByteArray) (hz : s.size ≤ 4611686018427387904) : interchangeref07_take.f k c s = some (valueR c s) := by
  unfold interchangeref07_take.f valueR
  by_cases e1 : c = 111
  · rw [if_pos e1, if_pos e1, rtake_k hk, Option.bind_some]
  · rw [if_neg e1, if_neg e1]
    by_cases e2 : c = 113
    · rw [if_pos e2, if_pos e2, rtake_k hk, Option.bind_some]
    · rw [if_neg e2, if_neg e2]
      by_cases e3 : c = 83
      · rw [if_pos e3, if_pos e3, rtshort_f s hz, Option.bind_some]
      · rw [if_neg e3, if_neg e3, rTake_k hk s hz, Option.bind_some]
/-- the end of the reference's Take -/
def rEnd (a b fl : Int) (l : List S42) (rest : ByteArray) : Int × Int × Int × List S42 × Int := ptEnd a b fl 0 l rest
theorem rtk_loop {a b fl : Int} (hb : 0 ≤ b ∧ b < 18446744073709551616) (hfl : 0 ≤ fl ∧ fl < 18446744073709551616) : ∀ (d n k : Nat) (s : ByteArray) (acc : List S42), (whichF fl 0).length = n + d → d + 80 < k → s.size ≤ 4503599627370496 → acc.length = n → (∀ v ∈ acc, okV v) →
    interchangeref07_Take.l0 k b (intsOf (whichF fl 0)) s (n : Int) a b fl acc = some (if (ptGo ((whichF fl 0).drop n) s acc).2.2 = 0 then ptEnd a b fl 0 (ptGo ((whichF fl 0).drop n) s acc).1 (ptGo ((whichF fl 0).drop n) s acc).2.1 else (0, 0, 0, [], 7)) := by
  intro d
  have hw := whichF_len fl
  induction d with
  | zero =>
    intro n k s acc h hk hz hn hok
    obtain ⟨k, rfl⟩ : ∃ j, k = j + 2 := ⟨k - 2, by omega⟩
    have ok : okH b fl acc := ⟨hb, hfl, by omega, hok⟩
    have hj : interchangeref07_Take.j2 (k + 1) b true a b fl acc = some (0, 0, 0, [], 7) := by rw [interchangeref07_Take.j2, if_pos rfl]
    rw [interchangeref07_Take.l0, if_neg (by rw [List.length_map]; omega), List.drop_of_length_le (by omega), ptGo, if_pos rfl, rform_k (by omega) a b fl acc hfl.1 hfl.2, Option.bind_some]
    dsimp only
    unfold ptEnd
    by_cases e1 : s.size = 0
    · rw [if_neg (show ¬ (s.size : Int) > 0 by omega)]
      by_cases e2 : FormR a fl acc
      · rw [decide_eq_true e2, if_pos rfl, rvalues_k (by omega) ok (by rw [e2.2.2.2]; exact Nat.le_refl _), Option.bind_some]
        by_cases e3 : valuesR fl acc = 0
        · rw [if_neg (show ¬ (s.size ≠ 0 ∨ (0 : Int) ≠ 0 ∨ ¬ FormR a fl acc ∨ ¬ valuesR fl acc = 0) from fun h => h.elim (fun h => h e1) (fun h => h.elim (fun h => h rfl) (fun h => h.elim (fun h => h e2) (fun h => h e3)))), e3, interchangeref07_Take.j2, if_neg (by decide)]
          by_cases e4 : 65536 < b
          · rw [if_pos (show b > 65536 from e4), if_pos e4]
          · rw [if_neg (show ¬ b > 65536 from e4), if_neg e4]
        · rw [if_pos (show (s.size ≠ 0 ∨ (0 : Int) ≠ 0 ∨ ¬ FormR a fl acc ∨ ¬ valuesR fl acc = 0) from .inr (.inr (.inr e3))), bne_iff_ne.2 e3, hj]
      · rw [decide_eq_false e2, if_neg (by decide), if_pos (show (s.size ≠ 0 ∨ (0 : Int) ≠ 0 ∨ ¬ FormR a fl acc ∨ ¬ valuesR fl acc = 0) from .inr (.inr (.inl e2))), hj]
    · rw [if_pos (show (s.size : Int) > 0 by omega), if_pos (show (s.size ≠ 0 ∨ (0 : Int) ≠ 0 ∨ ¬ FormR a fl acc ∨ ¬ valuesR fl acc = 0) from .inl e1), hj]
  | succ d ih =>
    intro n k s acc h hk hz hn hok
    obtain ⟨k, rfl⟩ : ∃ j, k = j + 1 := ⟨k - 1, by omega⟩
    have hlt := at_lt (which_lt fl) (n := n) (by omega)
    have hb' : bt (⟨#[83, 83, 84, 111, 111, 83, 83, 83, 83, 113, 83, 83, 83, 83]⟩ : ByteArray) (((whichF fl 0).getD n 0 : Nat) : Int) = letN ((whichF fl 0).getD n 0) := rfl
    have hvs := value_size (letN ((whichF fl 0).getD n 0)) s
    rw [interchangeref07_Take.l0, if_pos (by rw [List.length_map]; omega), if_pos (by omega), rd_ints _ n (by omega), if_pos (by omega), if_pos (by omega), hb', rvtake_k (by omega) _ s (by omega), Option.bind_some, drop_nat (whichF fl 0) n (by omega), ptGo]
    generalize valueR (letN ((whichF fl 0).getD n 0)) s = V at hvs ⊢
    by_cases e : V.2.2.2 = 0
    · rw [if_pos e, if_pos e, if_pos (by omega), w_succ (i := n) (by omega)]
      exact ih (n + 1) k V.2.2.1 (acc ++ [⟨V.1, V.2.1⟩]) (by omega) (by omega) (by omega) (by rw [List.length_append, hn]; rfl) (fun v hv => by
        rcases List.mem_append.1 hv with hv | hv
        · exact hok v hv
        · obtain rfl := List.mem_singleton.1 hv
          exact ⟨hvs.2.2.1, hvs.2.2.2, by show V.2.1.size ≤ 4503599627370496; omega⟩)
    · rw [if_neg e, if_neg e]
      rfl
theorem take_fst {s : ByteArray} {n : Int} (hn : isW n) (h : n ≤ (s.size : Int)) : (takeR s n).1 = ((beNum (s.data.toList.take n.toNat) : Nat) : Int) ∧ (takeR s n).2.1 = s.extract n.toNat s.size := by
  unfold takeR
  rw [if_pos hn, if_neg (by omega)]
  exact ⟨rfl, rfl⟩
theorem bt_list (s : ByteArray) (i : Nat) (h : i < s.size) : bt s (i : Int) = ((s.data.toList.getD i 0).toNat : Int) := by
  have h2 : i < s.data.toList.length := by rw [size_list]; exact h
  have e := bt_at s (i : Int) (by rw [Int.toNat_natCast]; exact h)
  rw [← e]
  simp only [Int.toNat_natCast]
  rw [List.getD_eq_getElem?_getD, List.getElem?_eq_getElem h2]
  rfl
theorem four_list {s : ByteArray} (h : 4 ≤ s.size) : ∃ x0 x1 x2 x3 t, s.data.toList = x0 :: x1 :: x2 :: x3 :: t := by
  have hs := size_list s
  match hl : s.data.toList with
  | x0 :: x1 :: x2 :: x3 :: t => exact ⟨x0, x1, x2, x3, t, rfl⟩
  | [] => rw [hl] at hs; simp only [List.length_nil] at hs; omega
  | [_] => rw [hl] at hs; simp only [List.length_cons, List.length_nil] at hs; omega
  | [_, _] => rw [hl] at hs; simp only [List.length_cons, List.length_nil] at hs; omega
  | [_, _, _] => rw [hl] at hs; simp only [List.length_cons, List.length_nil] at hs; omega
theorem extract_mid (s : ByteArray) (i j : Nat) : s.extract i j = toBA ((s.data.toList.drop i).take (j - i)) := by
  refine eq_of_list ?_
  rw [toBA_list, ByteArray.data_extract, Array.toList_extract, List.extract_eq_take_drop]
theorem pts {s : ByteArray} (h : 14 ≤ s.size) : pt2 s = s.extract 2 s.size ∧ pt4 s = s.extract 4 s.size ∧ pt12 s = s.extract 12 s.size ∧ pt14 s = s.extract 14 s.size := by
  have x : ∀ i j : Nat, (s.extract i s.size).extract j (s.extract i s.size).size = s.extract (i + j) s.size := by
    intro i j
    refine eq_of_list ?_
    rw [extract_drop, extract_drop, extract_drop, toBA_list, toBA_list, toBA_list, List.drop_drop]
  have h2 : pt2 s = s.extract 2 s.size := (take_fst (n := 2) (.inr (.inl rfl)) (by omega)).2
  have z2 : (pt2 s).size = s.size - 2 := by rw [h2]; exact extract_size' s 2
  have h4 : pt4 s = s.extract 4 s.size := by
    have := (take_fst (s := pt2 s) (n := 2) (.inr (.inl rfl)) (by omega)).2
    rw [h2] at this
    unfold pt4
    rw [h2, this]
    exact x 2 2
  have z4 : (pt4 s).size = s.size - 4 := by rw [h4]; exact extract_size' s 4
  have h12 : pt12 s = s.extract 12 s.size := by
    have := (take_fst (s := pt4 s) (n := 8) (.inr (.inr (.inr rfl))) (by omega)).2
    rw [h4] at this
    unfold pt12
    rw [h4, this]
    exact x 4 8
  have z12 : (pt12 s).size = s.size - 12 := by rw [h12]; exact extract_size' s 12
  have h14 : pt14 s = s.extract 14 s.size := by
    have := (take_fst (s := pt12 s) (n := 2) (.inr (.inl rfl)) (by omega)).2
    rw [h12] at this
    unfold pt14
    rw [h12, this]
    exact x 12 2
  exact ⟨h2, h4, h12, h14⟩
theorem ptMid_wt {a b fl wt : Int} {s : ByteArray} (h : ¬ wt = 0) : ptMid a b fl wt s = (0, 0, 0, [], 7) := by
  unfold ptMid ptEnd
  split
  · rw [if_pos (.inr (.inl h))]
  · rfl
theorem rTakeH_k {k : Nat} (hk : 200 ≤ k) (s : ByteArray) (hz : s.size ≤ 4503599627370496) : interchangeref07_Take.f k s = some (ptakeR s) := by
  obtain ⟨k, rfl⟩ : ∃ j, k = j + 1 := ⟨k - 1, by omega⟩
  have hbad : interchangeref07_Take.j0 (k + 1) s true = some (0, 0, 0, [], 7) := by rw [interchangeref07_Take.j0, if_pos rfl]
  unfold interchangeref07_Take.f ptakeR
  by_cases e : s.size < 14
  · rw [if_pos (show (s.size : Int) < 14 by omega), if_pos e, hbad]
  · rw [if_neg (show ¬ (s.size : Int) < 14 by omega), if_neg e, if_pos (show (2 : Int) < (s.size : Int) by omega)]
    obtain ⟨p2, p4, p12, p14⟩ := pts (s := s) (by omega)
    obtain ⟨x0, x1, x2, x3, t, hl⟩ := four_list (s := s) (by omega)
    have b0 := bt_list s 0 (by omega)
    have b1 := bt_list s 1 (by omega)
    have b2 := bt_list s 2 (by omega)
    have b3 := bt_list s 3 (by omega)
    rw [hl] at b0 b1 b2 b3
    have b0 : bt s 0 = (x0.toNat : Int) := b0
    have b1 : bt s 1 = (x1.toNat : Int) := b1
    have b2 : bt s 2 = (x2.toNat : Int) := b2
    have b3 : bt s 3 = (x3.toNat : Int) := b3
    have ha : (takeR s 2).1 = 256 * (x0.toNat : Int) + (x1.toNat : Int) := by
      rw [(take_fst (n := 2) (.inr (.inl rfl)) (by omega)).1, hl]
      show ((beNum [x0, x1] : Nat) : Int) = _
      simp only [beNum, List.foldl_cons, List.foldl_nil]
      omega
    have z2 : (pt2 s).size = s.size - 2 := by rw [p2]; exact extract_size' s 2
    have hw : (takeR (pt2 s) 2).1 = 256 * (x2.toNat : Int) + (x3.toNat : Int) := by
      rw [(take_fst (n := 2) (.inr (.inl rfl)) (by omega)).1, p2, extract_drop, toBA_list, hl]
      show ((beNum [x2, x3] : Nat) : Int) = _
      simp only [beNum, List.foldl_cons, List.foldl_nil]
      omega
    rw [b2]
    by_cases e2 : (x2.toNat : Int) = 0
    · rw [if_pos e2, if_pos (show (3 : Int) < (s.size : Int) by omega), b3]
      by_cases e3 : (x3.toNat : Int) = 0
      · have hw0 : (takeR (pt2 s) 2).1 = 0 := by omega
        have hb := take_bound (pt4 s) 8
        have hf := take_bound (pt12 s) 2
        have z4 : (pt4 s).size = s.size - 4 := by rw [p4]; exact extract_size' s 4
        have z12 : (pt12 s).size = s.size - 12 := by rw [p12]; exact extract_size' s 12
        have m4 : (s.extract 4 12).size = 8 := by rw [extract_mid, toBA_size, List.length_take, List.length_drop, size_list]; omega
        have m12 : (s.extract 12 14).size = 2 := by rw [extract_mid, toBA_size, List.length_take, List.length_drop, size_list]; omega
        have t8 : (takeR (s.extract 4 12) 8).1 = (takeR (pt4 s) 8).1 := by
          rw [(take_fst (n := 8) (.inr (.inr (.inr rfl))) (by omega)).1, (take_fst (n := 8) (.inr (.inr (.inr rfl))) (by omega)).1, p4, extract_drop, extract_mid, toBA_list, toBA_list]
          show ((beNum (((s.data.toList.drop 4).take 8).take 8) : Nat) : Int) = ((beNum ((s.data.toList.drop 4).take 8) : Nat) : Int)
          rw [List.take_take]
          rfl
        have t2 : (takeR (s.extract 12 14) 2).1 = (takeR (pt12 s) 2).1 := by
          rw [(take_fst (n := 2) (.inr (.inl rfl)) (by omega)).1, (take_fst (n := 2) (.inr (.inl rfl)) (by omega)).1, p12, extract_drop, extract_mid, toBA_list, toBA_list]
          show ((beNum (((s.data.toList.drop 12).take 2).take 2) : Nat) : Int) = ((beNum ((s.data.toList.drop 12).take 2) : Nat) : Int)
          rw [List.take_take]
          rfl
        have hx0 := x0.toNat_lt
        have hx1 := x1.toNat_lt
        have hcl : wrap64 (wrap64 (256 * (wrap64 (bt s 0))) + wrap64 (bt s 1)) = (takeR s 2).1 := by
          rw [b0, b1, ha, wrap64_of (x := (x0.toNat : Int)) (by omega) (by omega), wrap64_of (x := (x1.toNat : Int)) (by omega) (by omega), wrap64_of (x := 256 * (x0.toNat : Int)) (by omega) (by omega), wrap64_of (by omega) (by omega)]
        have hlen := whichF_len (takeR (pt12 s) 2).1
        have hloop := rtk_loop (a := (takeR s 2).1) hb hf (whichF (takeR (pt12 s) 2).1 0).length 0 k (pt14 s) [] (by omega) (by omega) (by rw [p14, extract_size']; omega) rfl (fun v hv => by cases hv)
        rw [List.drop_zero] at hloop
        rw [show ((x3.toNat : Int) != 0) = false from bne_eq_false_iff_eq.2 e3, interchangeref07_Take.j0, if_neg (by decide), if_pos (by decide), if_pos (show (12 : Int) ≤ (s.size : Int) by omega), rtake_k (by omega), Option.bind_some, if_pos (by decide), if_pos (show (14 : Int) ≤ (s.size : Int) by omega), rtake_k (by omega), Option.bind_some,
          if_pos (show (0 : Int) < (s.size : Int) by omega), if_pos (show (1 : Int) < (s.size : Int) by omega), t8, t2, Which_k (by omega) _ hf.1 hf.2, Option.bind_some, hcl, ← p14, hw0]
        exact hloop
      · rw [bne_iff_ne.2 e3, hbad, ptMid_wt (by omega)]
    · rw [if_neg e2, hbad, ptMid_wt (by omega)]
end Go.Proofs.YthpfcplhlhnfeaaDoor.F
namespace Go.Proofs.YthpfcplhlhnfeaaDoor.F
open Go.RowKit Go.Proofs.YthpfcplhlhnfeaaDoorW.PrintWords Go.Proofs.YthpfcplhlhnfeaaDoorW.PrintLast Go.Proofs.YthpfcplhlhnfeaaDoorW.PrintMore
set_option linter.unusedVariables false
set_option linter.unusedSimpArgs false
set_option maxRecDepth 4000
theorem Take_f {s : ByteArray} (h : s.size ≤ 4503599627370496) : props_Take.f s = some (ptakeR s) := by unfold props_Take.f; rw [if_pos h]
theorem ptake_len {s : ByteArray} (hz : s.size ≤ 4503599627370496) : (ptakeR s).2.2.2.1.length ≤ 4503599627370496 := by
  by_cases h : (ptakeR s).2.2.2.2 = 0
  · exact (bytes_take hz h).1.2.2.1
  · unfold ptakeR ptMid ptEnd at *
    by_cases e0 : s.size < 14
    · rw [if_pos e0]; exact Nat.zero_le _
    · rw [if_neg e0] at h ⊢
      split
      · rename_i e1
        rw [if_pos e1] at h
        split
        · exact Nat.zero_le _
        · rename_i e2
          rw [if_neg e2] at h
          split
          · exact Nat.zero_le _
          · rename_i e3
            rw [if_neg e3] at h
            exact absurd rfl h
      · exact Nat.zero_le _
theorem propsTakes_pure (b0 : Int × Int × Int × List S42) (b1 : ByteArray) (b2 : Int × Int × Int × List S42) (g0 : (Lit.int .i64 b0.1).wf = true ∧ (Lit.int .u64 b0.2.1).wf = true ∧ (Lit.int .u64 b0.2.2.1).wf = true ∧ (b0.2.2.2.length ≤ maxLen ∧ ∀ x ∈ b0.2.2.2, good_42 x)) (g1 : b1.size ≤ maxLen)
    (g2 : (Lit.int .i64 b2.1).wf = true ∧ (Lit.int .u64 b2.2.1).wf = true ∧ (Lit.int .u64 b2.2.2.1).wf = true ∧ (b2.2.2.2.length ≤ maxLen ∧ ∀ x ∈ b2.2.2.2, good_42 x))
    (z0 : (True ∧ True ∧ True ∧ (b0.2.2.2.length * Tryd.prog.bytesOf 42 ≤ 140737488351232 ∧ ∀ x ∈ b0.2.2.2, sized_42 x))) (zb : b1.size ≤ 140737488351232) (z2 : (True ∧ True ∧ True ∧ (b2.2.2.2.length * Tryd.prog.bytesOf 42 ≤ 140737488351232 ∧ ∀ x ∈ b2.2.2.2, sized_42 x))) :
    ∃ k : Nat, interchangelaw07_PropsTakes.f k b0.1 b0.2.1 b0.2.2.1 b0.2.2.2 b1 b2.1 b2.2.1 b2.2.2.1 b2.2.2.2 = some true := by
  obtain ⟨a, b, fl, l⟩ := b0
  obtain ⟨a', b', fl', l'⟩ := b2
  have ok : okH b fl l := vals_ok g0.2.1 g0.2.2.1 g0.2.2.2 z0.2.2.2
  have z1 : b1.size ≤ 4503599627370496 := by omega
  have hT := Take_f z1
  have hTl := ptake_len z1
  obtain ⟨k, hk1, hk2⟩ : ∃ k : Nat, l.length + 300 ≤ k ∧ (ptakeR b1).2.2.2.1.length + 300 ≤ k := ⟨l.length + 300 + ((ptakeR b1).2.2.2.1.length + 300), by omega, by omega⟩
  have hR := rTakeH_k (k := k) (by omega) b1 z1
  clear z0 zb z2 g0 g1 g2
  refine ⟨k, ?_⟩
  show interchangelaw07_PropsTakes.f k a b fl l b1 a' b' fl' l' = some true
  unfold interchangelaw07_PropsTakes.f
  rw [shown_t, Option.bind_some, Bytes_f ok, Option.bind_some, rBytes_k (by omega) ok, Option.bind_some, hT, Option.bind_some, hR, Option.bind_some]
  generalize ptakeR b1 = T at *
  rw [Same_k T.1 T.2.1 T.2.2.1 T.2.2.2.1 T.1 T.2.1 T.2.2.1 T.2.2.2.1 (by omega) hTl, Option.bind_some, sameB_refl, if_pos rfl, if_pos rfl, if_pos rfl, if_pos rfl, if_pos rfl, Right_k (by omega) a b fl l ok, Option.bind_some]
  have he : RightR a b fl l = (bytesR a b fl l).2 := by
    unfold bytesR
    by_cases e : RightR a b fl l = 0
    · rw [if_pos e]; exact e
    · rw [if_neg e]
  rw [if_pos he, pSame_k a b fl l a' b' fl' l' (by omega) ok.2.2.1, Option.bind_some, Same_k a b fl l a' b' fl' l' (by omega) ok.2.2.1, Option.bind_some, beq_iff_eq.2 rfl]
end Go.Proofs.YthpfcplhlhnfeaaDoor.F
namespace Go.Proofs.YthpfcplhlhnfeaaDoor.F
open Go.ChangeShapes Go.WideShapes Go.ChangeAt Go.RowKit Go.Proofs.YthpfcplhlhnfeaaDoorW.PrintWords Go.Proofs.YthpfcplhlhnfeaaDoorW.PrintLast
set_option linter.unusedVariables false
set_option linter.unusedSimpArgs false
set_option maxRecDepth 4000
set_option linter.unnecessarySimpa false

set_option maxHeartbeats 2000000 in
theorem propsTakes_contract (H : Type) (enc : TypeId × Value → H) (W : World) (base : Nat) (args : Array Value) (ds gs : List (DataW H)) (before : List MemPlace)
    (hval0 : ∀ (j : Nat) t v, Tryd.f4.params[j]? = some t → args[j]? = some v → Value.okWide Tryd.prog W .any base t v)
    (hW : DataW.Whole enc Tryd.prog Tryd.f4.params.toList Rows.propsTakesSpec.vars false W args.toList ds gs before) (hL : laidMetH Tryd.prog Rows.propsTakesRow.laid W)
    (hsz : (DataW.weightsEach Tryd.prog (Tryd.f4.params.toList ++ (OpenSpec.ofChange Rows.propsTakesSpec).bare.plain.varTypes Tryd.prog) (ds ++ gs)).all (· ≤ reachBytes) = true) :
    Calls Tryd.prog 4 args W fun e W' => ∃ v, e = .returned v ∧ Rows.propsTakesSpec.post enc Tryd.prog Tryd.f4 false true false false W args v W' := by
  have hW' := hW
  obtain ⟨p, q, hA0, hV, rfl, hfz, hnd⟩ := hW
  have hA : DataW.TrodAll enc Tryd.prog W 0 (fun _ => true) true Tryd.f4.params.toList args.toList ds p := hA0
  have hval : ∀ (j : Nat) t v, Tryd.f4.params[j]? = some t → args[j]? = some v → Value.okWide Tryd.prog W .any base t v := hval0
  have hsz' : (DataW.weightsEach Tryd.prog (Tryd.f4.params.toList ++ []) (ds ++ gs)).all (· ≤ reachBytes) = true := hsz
  rw [Tryd.params4] at hA hval hsz'
  obtain ⟨v0, vs0, d0, ds0, p0, q0, hargs, rfl, rfl, h0, r0⟩ := trodAll_cons hA
  obtain ⟨v1, vs1, d1, ds1, p1, q1, rfl, rfl, rfl, h1, r1⟩ := trodAll_cons r0
  obtain ⟨v2, vs2, d2, ds2, p2, q2, rfl, rfl, rfl, h2, r2⟩ := trodAll_cons r1
  obtain ⟨rfl, rfl, rfl⟩ := trodAll_nil r2
  obtain rfl : args = #[v0, v1, v2] := by cases args; simp_all
  obtain ⟨rfl, rfl⟩ := trodVars_none hV
  have hg := laid_of hL
  have k0 := h0
  have lt0 : ∀ x ∈ p0, x.block < W.heap.size := by obtain ⟨m, hm⟩ := k0; exact DataW.trod_lt m _ _ _ hm
  obtain ⟨fuel0, hf0⟩ := h0
  obtain ⟨b0, e0, g0, z0, u0⟩ := (opened_struct4 (n0 := 1) (n1 := 1) (n2 := 1) (n3 := 1) Tryd.underlying25 (by kernel_rfl) (by kernel_rfl) rfl (opened_int (k := .i64) Tryd.underlying3) (by kernel_rfl) rfl (opened_int (k := .u64) Tryd.underlying22) (by kernel_rfl) rfl (opened_int (k := .u64) Tryd.underlying22) (by kernel_rfl) rfl (opened_slice Tryd.underlying23 (by kernel_rfl) opened_42)).out enc W fuel0 _ _ hf0
  obtain ⟨c0_0_0, c0_0_1, c0_0_2, c0_0_3, eq0_0, e0_0_0, e0_0_1, e0_0_2, e0_0_3⟩ := e0
  replace e0_0_0 : c0_0_0 = [.int .i64 b0.1] := e0_0_0
  subst e0_0_0
  replace e0_0_1 : c0_0_1 = [.int .u64 b0.2.1] := e0_0_1
  subst e0_0_1
  replace e0_0_2 : c0_0_2 = [.int .u64 b0.2.2.1] := e0_0_2
  subst e0_0_2
  obtain ⟨A0_0_3, cc0_0_3, rfl, hc0_0_3, hr0_0_3⟩ := e0_0_3
  (try subst eq0_0)
  have hvv0 := shape_struct Tryd.underlying25 (hval 0 25 v0 rfl rfl) eq0_0
  simp only [List.cons_append, List.nil_append] at hvv0
  subst hvv0
  have k1 := h1
  have lt1 : ∀ x ∈ p1, x.block < W.heap.size := by obtain ⟨m, hm⟩ := k1; exact DataW.trod_lt m _ _ _ hm
  obtain ⟨fuel1, hf1⟩ := h1
  obtain ⟨b1, e1, g1, z1, u1⟩ := (opened_string Tryd.underlying9).out enc W fuel1 _ _ hf1
  obtain rfl := shape_string Tryd.underlying9 (hval 1 9 v1 rfl rfl) e1
  have k2 := h2
  have lt2 : ∀ x ∈ p2, x.block < W.heap.size := by obtain ⟨m, hm⟩ := k2; exact DataW.trod_lt m _ _ _ hm
  obtain ⟨fuel2, hf2⟩ := h2
  obtain ⟨b2, e2, g2, z2, u2⟩ := (opened_struct4 (n0 := 1) (n1 := 1) (n2 := 1) (n3 := 1) Tryd.underlying25 (by kernel_rfl) (by kernel_rfl) rfl (opened_int (k := .i64) Tryd.underlying3) (by kernel_rfl) rfl (opened_int (k := .u64) Tryd.underlying22) (by kernel_rfl) rfl (opened_int (k := .u64) Tryd.underlying22) (by kernel_rfl) rfl (opened_slice Tryd.underlying23 (by kernel_rfl) opened_42)).out enc W fuel2 _ _ hf2
  obtain ⟨c2_0_0, c2_0_1, c2_0_2, c2_0_3, eq2_0, e2_0_0, e2_0_1, e2_0_2, e2_0_3⟩ := e2
  replace e2_0_0 : c2_0_0 = [.int .i64 b2.1] := e2_0_0
  subst e2_0_0
  replace e2_0_1 : c2_0_1 = [.int .u64 b2.2.1] := e2_0_1
  subst e2_0_1
  replace e2_0_2 : c2_0_2 = [.int .u64 b2.2.2.1] := e2_0_2
  subst e2_0_2
  obtain ⟨A2_0_3, cc2_0_3, rfl, hc2_0_3, hr2_0_3⟩ := e2_0_3
  (try subst eq2_0)
  have hvv2 := shape_struct Tryd.underlying25 (hval 2 25 v2 rfl rfl) eq2_0
  simp only [List.cons_append, List.nil_append] at hvv2
  subst hvv2
  obtain ⟨k, hpure⟩ := propsTakes_pure b0 b1 b2 g0 g1 g2 (z0 fun n hn => of_decide_eq_true (List.all_eq_true.1 hsz' n (DataW.weights_mem_each (j := 0) rfl rfl n hn))) (z1 fun n hn => of_decide_eq_true (List.all_eq_true.1 hsz' n (DataW.weights_mem_each (j := 1) rfl rfl n hn))) (z2 fun n hn => of_decide_eq_true (List.all_eq_true.1 hsz' n (DataW.weights_mem_each (j := 2) rfl rfl n hn)))
  refine (interchangelaw07_PropsTakes.calls k b0.1 b0.2.1 b0.2.2.1 A0_0_3 cc0_0_3 b0.2.2.2 b1 b2.1 b2.2.1 b2.2.2.1 A2_0_3 cc2_0_3 b2.2.2.2 W hg hr0_0_3 hc0_0_3 hr2_0_3 hc2_0_3 hpure).mono fun e W' ⟨he, bel⟩ => ?_
  subst he
  exact ⟨_, rfl, _, _, _, [], _, [], hW', trodAll_mk1 (shut_bool Tryd.underlying4 _), (trodAll_cons_mk (Below.trod laid_out (by kernel_rfl) (of_decide_eq_true (by kernel_rfl)) k0 bel lt0) (trodAll_cons_mk (Below.trod laid_out (by kernel_rfl) (of_decide_eq_true (by kernel_rfl)) k1 bel lt1) (trodAll_cons_mk (Below.trod laid_out (by kernel_rfl) (of_decide_eq_true (by kernel_rfl)) k2 bel lt2) trodAll_mk0))), rfl, bel.frame _, fun h => by cases h⟩

theorem propsTakes_reads (os : Os) {H : Type} (enc : TypeId × Value → H) : ∃ places, DataW.whole enc Tryd.prog ((laid_world os).forCall (fun _ _ => 0) ⟨#[], #[.agg #[.int .i64 0, .int .u64 0, .int .u64 0, .slice none 0 0], .string ByteArray.empty, .agg #[.int .i64 0, .int .u64 0, .int .u64 0, .slice none 0 0]], []⟩).memory Tryd.f4.params.toList Rows.propsTakesSpec.vars false (#[.agg #[.int .i64 0, .int .u64 0, .int .u64 0, .slice none 0 0], .string ByteArray.empty, .agg #[.int .i64 0, .int .u64 0, .int .u64 0, .slice none 0 0]] : Array Value).toList 8 = some ([.agg [.lit (.int .i64 0), .lit (.int .u64 0), .lit (.int .u64 0), .nil], .lit (.string []), .agg [.lit (.int .i64 0), .lit (.int .u64 0), .lit (.int .u64 0), .nil]], [], places) :=
  ⟨[], by kernel_rfl⟩
theorem propsTakes_met (os : Os) : laidMet Tryd.prog Rows.propsTakesRow.laid ((laid_world os).forCall (fun _ _ => 0) ⟨#[], #[.agg #[.int .i64 0, .int .u64 0, .int .u64 0, .slice none 0 0], .string ByteArray.empty, .agg #[.int .i64 0, .int .u64 0, .int .u64 0, .slice none 0 0]], []⟩).memory :=
  laidMet_of_run' 8 (by kernel_rfl) (by kernel_rfl)
set_option maxRecDepth 100000 in
theorem propsTakes_lifted (os : Os) (started : os.Started) (H : Type) (enc : TypeId × Value → H) (F : Stop.Interp) :
    ReturnsInHanded {} Tryd.checked os 4 .any ((OpenSpec.ofChange Rows.propsTakesSpec).preRow enc Tryd.prog Tryd.f4 Rows.propsTakesRow.domain false Rows.propsTakesRow.laid) (((OpenSpec.ofChange Rows.propsTakesSpec).at F).post enc Tryd.prog Tryd.f4 false true false false) := by
  obtain ⟨places, hx⟩ := propsTakes_reads os enc
  refine returnsInHanded_of_row (C := Tryd.checked) (s := (OpenSpec.ofChange Rows.propsTakesSpec)) own_knob started (by kernel_rfl) Tryd.func4
    (witness_row_at (enc := enc) (C := Tryd.checked) false (laid_world os) #[.agg #[.int .i64 0, .int .u64 0, .int .u64 0, .slice none 0 0], .string ByteArray.empty, .agg #[.int .i64 0, .int .u64 0, .int .u64 0, .slice none 0 0]] rfl (by kernel_rfl) (by kernel_rfl) (by kernel_rfl)
      (OpenSpec.preRow_of_cond 8 hx (by kernel_rfl) (fun k hk => by cases hk) (by kernel_rfl) (propsTakes_met os))) ?_
  intro W base args ds gs before hval hW _ hcond hsz hL _ _
  exact propsTakes_contract H enc W base args ds gs before hval hW hL hsz
theorem propsTakes_said : Rows.PropsTakesSaid :=
  OpenClaim.holds_of_cond 4 Tryd.f4 rfl rfl rfl rfl rfl rfl rfl ⟨rfl, rfl, rfl, rfl, rfl⟩ rfl rfl rfl rfl rfl (by kernel_rfl) Tryd.func4 (by kernel_rfl)
    (of_decide_eq_true (by kernel_rfl)) (by unfold Func.isWrapper; first | (rw [if_pos (by decide +kernel)]; kernel_rfl) | (rw [if_neg (by decide +kernel)]; exact ⟨rfl, rfl⟩))
    (fun os started H enc _ F => by rw [OpenClaim.pre_eq_preRow]; exact propsTakes_lifted os started H enc F)
theorem propsTakes_plain (f : FuncId) (fn : Func) (hf : Tryd.pinned.checked.prog.funcNamed "interchange/interchangelaw07.PropsTakes" = some f) (hfn : Tryd.pinned.checked.prog.funcs[f]? = some fn) :
    false = Tryd.pinned.checked.prog.looks [] ∧ ∀ (j : Nat) t, fn.params[j]? = some t → Tryd.pinned.checked.prog.wantsStandIn t = false := by
  obtain rfl : f = 4 := Option.some.inj ((show Tryd.prog.funcNamed "interchange/interchangelaw07.PropsTakes" = some 4 by kernel_rfl).symm.trans hf) |>.symm
  obtain rfl : fn = Tryd.f4 := (Option.some.inj (Tryd.func4.symm.trans hfn)).symm
  refine ⟨by kernel_rfl, fun j t ht => ?_⟩
  rw [Tryd.params4] at ht
  have hm := Array.mem_of_getElem? ht
  simp only [List.mem_toArray, List.mem_cons, List.not_mem_nil, or_false] at hm
  rcases hm with rfl | rfl | rfl
  · exact (show Tryd.prog.wantsStandIn 25 = false by kernel_rfl)
  · exact (show Tryd.prog.wantsStandIn 9 = false by kernel_rfl)
  · exact (show Tryd.prog.wantsStandIn 25 = false by kernel_rfl)
theorem propsTakes_holds : Rows.PropsTakesCardSaid :=
  Claim7.holds_tied_plain_at .later [] _ _ _ _ propsTakes_said (fun _ h => by cases h) (by kernel_rfl) (fun _ h => by cases h) propsTakes_row_tie rfl ⟨rfl, rfl⟩ (by kernel_rfl) rfl propsTakes_plain (by kernel_rfl)
#print axioms propsTakes_holds
end Go.Proofs.YthpfcplhlhnfeaaDoor.F
