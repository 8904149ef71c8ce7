/- Proved: for every input, pollardlaw14.DifferRows returns true and leaves its arguments as they were. No condition. -/
import Derived.Test.YtiknfldhommmpaaProg
import Derived.Shelf.Strings.Builder1
import Derived.Shelf.Strings.Builder2
import Derived.Test.YtiknfldhommmpaaX0
/- From a statement's reading of its arguments to lists in memory, and back. -/
namespace Go.Proofs.Ytiknfldhommmpaa
open Go Go.ChangeShapes Go.WideShapes Go.RowKit
set_option linter.unusedVariables false
set_option linter.unusedSimpArgs false
set_option linter.unusedSectionVars false

/-- What reads as data of a type is one of these; no weight of it is over R. -/
structure Rd (P : Program) (W : World) (R : Nat) (t : TypeId) {α : Type} (en : α → List Value) (ok : α → Prop) : Prop where
  out : ∀ {H : Type} {enc : TypeId × Value → H} {fuel : Nat} {cs : List Value} {x : DataW H × List MemPlace}, DataW.trod enc P W 0 (fun _ => true) true fuel t cs = some x → (∀ k ∈ x.1.weights P t, k ≤ R) → ∃ a, cs = en a ∧ ok a

section
variable {P : Program} {W : World} {R : Nat} {t : TypeId}
theorem Rd_int {k : IntKind} (h : P.underlying t = some (.int k)) : Rd P W R t (fun n : Int => [.int k n]) (fun n => (Lit.int k n).wf = true) :=
  ⟨fun h1 _ => by
    obtain ⟨n, h2, _, h3⟩ := DataW.trod_int h h1
    exact ⟨n, h2, h3⟩⟩
theorem Rd_bool (h : P.underlying t = some .bool) : Rd P W R t (fun b : Bool => [.bool b]) (fun _ => True) :=
  ⟨fun h1 _ => by
    obtain ⟨n, h2, _⟩ := DataW.trod_bool h h1
    exact ⟨n, h2, trivial⟩⟩
theorem Rd_str (h : P.underlying t = some .string) : Rd P W R t (fun s : ByteArray => [.string s]) (fun s => s.size ≤ R) :=
  ⟨fun h1 hw => by
    obtain ⟨s, h2, hx, h3⟩ := DataW.trod_string h h1
    refine ⟨s, h2, ?_⟩
    subst hx
    have := hw s.data.toList.length (by simp [DataW.weights])
    simpa using this⟩
theorem list_of_lt {α : Type} {p : Nat → α → Prop} : ∀ {n : Nat}, (∀ i, i < n → ∃ x, p i x) → ∃ l : List α, l.length = n ∧ ∀ i x, l[i]? = some x → p i x
  | 0, _ => ⟨[], rfl, fun i x h => by simp at h⟩
  | n + 1, h => by
    obtain ⟨l, h1, h2⟩ := list_of_lt (n := n) fun i hi => h i (by omega)
    obtain ⟨x, hx⟩ := h n (by omega)
    refine ⟨l ++ [x], by simp [h1], fun i y hy => ?_⟩
    by_cases hi : i < l.length
    · rw [List.getElem?_append_left hi] at hy; exact h2 i y hy
    · have : i = l.length := by
        have := (List.getElem?_eq_some_iff.1 hy).1
        simp at this; omega
      subst this
      rw [List.getElem?_append_right (Nat.le_refl _)] at hy
      simp at hy
      subst hy; rw [h1]; exact hx
theorem spot_none {W : World} {a : Addr} {v : Value} (h : W.cell? a = some v) : a = ⟨a.block, a.off, none⟩ := by
  unfold World.cell? at h
  split at h
  · split at h
    · cases h
    · rename_i hs
      cases a with
      | mk b o s => cases s with
        | none => rfl
        | some _ => simp at hs
  · cases h
theorem weightsAll_mem {H : Type} {e : TypeId} {d : DataW H} : ∀ {l : List (DataW H)}, d ∈ l → ∀ k ∈ d.weights P e, k ∈ DataW.weightsAll P e l
  | x :: r, h, k, hk => by
    unfold DataW.weightsAll
    rw [List.mem_append]
    rcases List.mem_cons.1 h with rfl | h
    · exact .inl hk
    · exact .inr (weightsAll_mem h k hk)
/-- A slice: its elements lie there. -/
theorem Rd_slice {e : TypeId} {n bytes : Nat} {α : Type} {en : α → Chs} {ok : α → Prop} (hu : P.underlying t = some (.slice e)) (hn : P.cellsOf e = n) (hb : P.bytesOf e = bytes) (h0 : 0 < n) (hl : ∀ a, (en a).flatten.length = n) (E : Rd P W R e (fun a => (en a).flatten) ok) :
    Rd P W R t (fun x : SlH × List α => [slV x.1 x.2]) (fun x => Sl (Old W) en n x.1 x.2 W ∧ x.2.length * bytes ≤ R ∧ ∀ a ∈ x.2, ok a) := by
  refine ⟨fun {H enc fuel cs x} h1 hw => ?_⟩
  rcases Deep.open_slice hu h1 with ⟨rfl, rfl⟩ | ⟨a, len, cap, m, k, D, Pl, rfl, _, h2, h3, h4, rfl, h5⟩
  · exact ⟨(nilH, []), rfl, Sl.nil _ _ _ _, by simp, fun _ h => (nomatch h)⟩
  · have h4 : m = cap := h4
    subst h4
    rw [hn] at h5
    have hwe : ∀ i, i < m → ∀ q ∈ (D i).weights P e, q ≤ R := by
      intro i hi q hq
      refine hw q ?_
      unfold DataW.weights
      rw [hu]
      refine List.mem_cons_of_mem _ (List.mem_append.2 ?_)
      by_cases hil : i < len
      · exact .inl (weightsAll_mem (List.mem_map.2 ⟨i, List.mem_range.2 hil, rfl⟩) q hq)
      · exact .inr (weightsAll_mem (List.mem_map.2 ⟨i - len, List.mem_range.2 (by omega), by rw [show len + (i - len) = i from by omega]⟩) q hq)
    obtain ⟨l, hl1, hl2⟩ := list_of_lt (n := len) (p := fun i (x : α) => W.cells? 0 (a.add (i * n)) n = some (en x).flatten ∧ ok x) fun i hi => by
      obtain ⟨cs', h6, h7⟩ := h5 i (by omega)
      obtain ⟨y, h8, h9⟩ := E.out h7 (hwe i (by omega))
      exact ⟨y, by rw [h6, h8], h9⟩
    have cellAt : ∀ i x, l[i]? = some x → ∀ j v, (en x).flatten[j]? = some v → W.cell? ((a.add (i * n)).add j) = some v := by
      intro i x hx j v hv
      obtain ⟨h6, _⟩ := hl2 i x hx
      obtain ⟨_, _, h7⟩ := World.cells?_some h6
      have hj := (List.getElem?_eq_some_iff.1 hv).1
      rw [h7 j (by rw [hl] at hj; exact hj)]; exact hv
    have haddr : 0 < len → a = ⟨a.block, a.off, none⟩ := by
      intro hp
      have h0l : 0 < l.length := by omega
      have hx : l[0]? = some l[0] := List.getElem?_eq_getElem h0l
      have hf : 0 < (en l[0]).flatten.length := by rw [hl]; exact h0
      have := cellAt 0 _ hx 0 _ (List.getElem?_eq_getElem hf)
      rw [Nat.zero_mul] at this
      exact spot_none this
    refine ⟨(⟨some a, a.block, a.off, m⟩, l), by simp [slV, hl1], ⟨by rw [hl1]; exact h2, h3, fun hp => ?_, fun i x hx => ?_⟩, ?_, fun y hy => ?_⟩
    · have e1 := haddr (by rw [← hl1]; exact hp)
      refine ⟨congrArg some e1, ?_⟩
      have hx : l[0]? = some l[0] := List.getElem?_eq_getElem hp
      have hf : 0 < (en l[0]).flatten.length := by rw [hl]; exact h0
      have := cellAt 0 _ hx 0 _ (List.getElem?_eq_getElem hf)
      rw [Nat.zero_mul] at this
      exact World.block_lt_of_cell? W _ this
    · intro j v hv
      have hil : i < l.length := (List.getElem?_eq_some_iff.1 hx).1
      have := cellAt i x hx j v hv
      rw [haddr (by omega), add_lit, add_lit] at this
      exact this
    · have := hw ((((List.range len).map D).length + ((List.range (m - len)).map fun j => D (len + j)).length) * P.bytesOf e) (by unfold DataW.weights; rw [hu]; exact List.mem_cons_self ..)
      rw [hb] at this
      simp only [List.length_map, List.length_range] at this
      rw [hl1]
      have h6 : len * bytes ≤ (len + (m - len)) * bytes := Nat.mul_le_mul_right _ (by omega)
      omega
    · obtain ⟨i, hi, rfl⟩ := List.getElem_of_mem hy
      exact (hl2 i _ (List.getElem?_eq_getElem hi)).2

theorem cut1 {cs : List Value} {a : Nat} : cs = cs.take a ++ cs.drop a := (List.take_append_drop a cs).symm
theorem weightsEach_get {H : Type} : ∀ {ts : List TypeId} {ds : List (DataW H)} {i : Nat} {u : TypeId} {d : DataW H}, ts[i]? = some u → ds[i]? = some d → ∀ k ∈ d.weights P u, k ∈ DataW.weightsEach P ts ds
  | [], _, _, _, _, h, _, _, _ => by simp at h
  | _ :: _, [], _, _, _, _, h, _, _ => by simp at h
  | t :: ts, d :: ds, 0, u, d', h, h', k, hk => by
    simp at h h'
    subst h h'
    unfold DataW.weightsEach
    exact List.mem_append.2 (.inl hk)
  | t :: ts, d :: ds, i + 1, u, d', h, h', k, hk => by
    unfold DataW.weightsEach
    exact List.mem_append.2 (.inr (weightsEach_get (by simpa using h) (by simpa using h') k hk))
/-- A struct's field, read. -/
theorem struct_part {H : Type} {enc : TypeId × Value → H} {fuel : Nat} {cs : List Value} {x : DataW H × List MemPlace} {fs : Array Field} (hu : P.underlying t = some (.struct fs)) (h : DataW.trod enc P W 0 (fun _ => true) true fuel t cs = some x) (hw : ∀ k ∈ x.1.weights P t, k ≤ R)
    {i : Nat} {f : Field} (hf : fs[i]? = some f) {α : Type} {en : α → List Value} {ok : α → Prop} (E : Rd P W R f.type en ok) : ∃ a, (cs.drop f.offset).take (P.cellsOf f.type) = en a ∧ ok a := by
  obtain ⟨xs, n, _, rfl, hl, hlen, hp⟩ := DataW.trod_struct hu h
  have h1 := hp i f hf
  have hi : i < xs.length := by rw [hlen]; exact (Array.getElem?_eq_some_iff.1 hf).1
  rw [List.getElem?_eq_getElem hi] at h1
  refine E.out h1 fun k hk => hw k ?_
  unfold DataW.weights
  rw [hu]
  exact weightsEach_get (i := i) (u := f.type) (d := xs[i].1) (by simp [hf]) (by simp [List.getElem?_eq_getElem hi]) k hk
theorem struct_len {H : Type} {enc : TypeId × Value → H} {fuel : Nat} {cs : List Value} {x : DataW H × List MemPlace} {fs : Array Field} (hu : P.underlying t = some (.struct fs)) (h : DataW.trod enc P W 0 (fun _ => true) true fuel t cs = some x) : cs.length = P.cellsOf t := by
  obtain ⟨xs, n, _, rfl, hl, _⟩ := DataW.trod_struct hu h
  exact hl
theorem cutL {cs : List Value} {a b : Nat} (h : cs.length = a + b) : (cs.drop a).take b = cs.drop a := List.take_of_length_le (by simp; omega)
end

/-! ### The program's data -/
def i64ok (n : Int) : Prop := (Lit.int .i64 n).wf = true
theorem i64ok_iff {n : Int} : i64ok n ↔ -9223372036854775808 ≤ n ∧ n ≤ 9223372036854775807 := by
  unfold i64ok Lit.wf
  simp [IntKind.min, IntKind.max, IntKind.signed, IntKind.bits]
def Stamp.wf (s : Stamp) : Prop := i64ok s.T ∧ i64ok s.R
section
variable {P : Program} {W : World} {R : Nat} {t : TypeId}
theorem Rd_stamp {f0 f1 : Field} (hu : P.underlying t = some (.struct #[f0, f1])) (hc : P.cellsOf t = 2) (o0 : f0.offset = 0) (o1 : f1.offset = 1) (c0 : P.cellsOf f0.type = 1) (c1 : P.cellsOf f1.type = 1)
    (h0 : P.underlying f0.type = some (.int .i64)) (h1 : P.underlying f1.type = some (.int .i64)) : Rd P W R t (fun s : Stamp => (stampCh s).flatten) Stamp.wf := by
  refine ⟨fun h hw => ?_⟩
  have hl := struct_len hu h
  obtain ⟨a, ha, oka⟩ := struct_part hu h hw (i := 0) (f := f0) rfl (Rd_int h0)
  obtain ⟨b, hb, okb⟩ := struct_part hu h hw (i := 1) (f := f1) rfl (Rd_int h1)
  rw [o0, c0, List.drop_zero] at ha
  rw [o1, c1, cutL (by omega)] at hb
  refine ⟨⟨a, b⟩, ?_, oka, okb⟩
  rename_i cs _
  rw [cut1 (cs := cs) (a := 1), ha, hb]; rfl
/-- An ID: 32 bytes. -/
theorem Rd_id {e : TypeId} (hu : P.underlying t = some (.array 32 e)) (hc : P.cellsOf t = 32) (ce : P.cellsOf e = 1) (he : P.underlying e = some (.int .u8)) : Rd P W R t (fun d : ID => (idCh d).flatten) (fun _ => True) := by
  refine ⟨fun {H enc fuel cs x} h hw => ?_⟩
  obtain ⟨xs, m, _, rfl, hl, hlen, hp⟩ := DataW.trod_array hu h
  rw [hc] at hl
  have one : ∀ i (hi : i < 32), ∃ b : UInt8, cs[i]? = some (byteV b) := by
    intro i hi
    have h1 := hp i hi
    rw [ce, Nat.mul_one, List.getElem?_eq_getElem (by omega)] at h1
    obtain ⟨n, h2, _, h3⟩ := DataW.trod_int he h1
    have h4 : cs[i]? = some (.int .u8 n) := by
      have := congrArg (fun l => l[0]?) h2
      simpa [List.getElem?_take, List.getElem?_drop] using this
    have h5 : 0 ≤ n ∧ n ≤ 255 := by simpa [Lit.wf, IntKind.min, IntKind.max, IntKind.signed, IntKind.bits] using h3
    refine ⟨UInt8.ofNat n.toNat, ?_⟩
    rw [h4]
    unfold byteV
    congr 2
    rw [UInt8.toNat_ofNat', Nat.mod_eq_of_lt (by omega)]
    omega
  obtain ⟨l, hl1, hl2⟩ := list_of_lt (n := 32) (p := fun i (b : UInt8) => cs[i]? = some (byteV b)) one
  refine ⟨⟨l.toArray, by simp [hl1]⟩, ?_, trivial⟩
  rw [List.flatten_cons, List.flatten_nil, List.append_nil, idCells_eq]
  apply List.ext_getElem?
  intro i
  by_cases hi : i < 32
  · rw [hl2 i l[i] (List.getElem?_eq_getElem (by omega))]
    simp [hl1, hi]
  · rw [List.getElem?_eq_none (by omega), List.getElem?_eq_none (by simp [hl1]; omega)]
def Head.wf (x : Head) : Prop := x.tm.wf
theorem Rd_head {f0 f1 : Field} (hu : P.underlying t = some (.struct #[f0, f1])) (hc : P.cellsOf t = 34) (o0 : f0.offset = 0) (o1 : f1.offset = 2) (c0 : P.cellsOf f0.type = 2) (c1 : P.cellsOf f1.type = 32)
    (h0 : Rd P W R f0.type (fun s : Stamp => (stampCh s).flatten) Stamp.wf) (h1 : Rd P W R f1.type (fun d : ID => (idCh d).flatten) (fun _ => True)) : Rd P W R t (fun x : Head => (headCh x).flatten) Head.wf := by
  refine ⟨fun h hw => ?_⟩
  have hl := struct_len hu h
  obtain ⟨a, ha, oka⟩ := struct_part hu h hw (i := 0) (f := f0) rfl h0
  obtain ⟨b, hb, okb⟩ := struct_part hu h hw (i := 1) (f := f1) rfl h1
  rw [o0, c0, List.drop_zero] at ha
  rw [o1, c1, cutL (by omega)] at hb
  refine ⟨⟨a, b⟩, ?_, oka⟩
  rename_i cs _
  rw [cut1 (cs := cs) (a := 2), ha, hb]; rfl
/-- A row, as it is read. -/
def RowS.wf (W : World) (R : Nat) (r : RowS) : Prop := r.node.wf ∧ r.par.wf ∧ r.tm.wf ∧ r.name.size ≤ R ∧ Sl (Old W) headCh 34 r.hh r.heads W ∧ r.heads.length * 48 ≤ R ∧ ∀ x ∈ r.heads, x.wf
theorem Rd_row {f0 f1 f2 f3 f4 : Field} (hu : P.underlying t = some (.struct #[f0, f1, f2, f3, f4])) (hc : P.cellsOf t = 8) (o : f0.offset = 0 ∧ f1.offset = 2 ∧ f2.offset = 4 ∧ f3.offset = 6 ∧ f4.offset = 7)
    (c : P.cellsOf f0.type = 2 ∧ P.cellsOf f1.type = 2 ∧ P.cellsOf f2.type = 2 ∧ P.cellsOf f3.type = 1 ∧ P.cellsOf f4.type = 1)
    (h0 : Rd P W R f0.type (fun s : Stamp => (stampCh s).flatten) Stamp.wf) (h1 : Rd P W R f1.type (fun s : Stamp => (stampCh s).flatten) Stamp.wf) (h2 : Rd P W R f2.type (fun s : Stamp => (stampCh s).flatten) Stamp.wf)
    (h3 : P.underlying f3.type = some .string) (h4 : Rd P W R f4.type (fun x : SlH × List Head => [slV x.1 x.2]) (fun x => Sl (Old W) headCh 34 x.1 x.2 W ∧ x.2.length * 48 ≤ R ∧ ∀ a ∈ x.2, a.wf)) :
    Rd P W R t (fun r : RowS => (rowCh r).flatten) (RowS.wf W R) := by
  refine ⟨fun h hw => ?_⟩
  have hl := struct_len hu h
  obtain ⟨a0, e0, k0⟩ := struct_part hu h hw (i := 0) (f := f0) rfl h0
  obtain ⟨a1, e1, k1⟩ := struct_part hu h hw (i := 1) (f := f1) rfl h1
  obtain ⟨a2, e2, k2⟩ := struct_part hu h hw (i := 2) (f := f2) rfl h2
  obtain ⟨a3, e3, k3⟩ := struct_part hu h hw (i := 3) (f := f3) rfl (Rd_str h3)
  obtain ⟨a4, e4, k4⟩ := struct_part hu h hw (i := 4) (f := f4) rfl h4
  obtain ⟨o0, o1, o2, o3, o4⟩ := o
  obtain ⟨c0, c1, c2, c3, c4⟩ := c
  rw [o0, c0, List.drop_zero] at e0
  rw [o1, c1] at e1
  rw [o2, c2] at e2
  rw [o3, c3] at e3
  rw [o4, c4, cutL (by omega)] at e4
  refine ⟨⟨a0, a1, a2, a3, a4.2, a4.1⟩, ?_, k0, k1, k2, k3, k4⟩
  rename_i cs _ 
  have s1 : cs = cs.take 2 ++ ((cs.drop 2).take 2 ++ ((cs.drop 4).take 2 ++ ((cs.drop 6).take 1 ++ cs.drop 7))) := by
    rw [show cs.drop 7 = (cs.drop 6).drop 1 from by rw [List.drop_drop], List.take_append_drop, show cs.drop 6 = (cs.drop 4).drop 2 from by rw [List.drop_drop], List.take_append_drop, show cs.drop 4 = (cs.drop 2).drop 2 from by rw [List.drop_drop], List.take_append_drop, List.take_append_drop]
  rw [s1, e0, e1, e2, e3, e4]; rfl
end

/-! ### An argument -/
section
variable {P : Program} {W : World} {R : Nat} {t : TypeId} {H : Type} {enc : TypeId × Value → H}
theorem Rd.arg1 {α : Type} {en : α → Value} {ok : α → Prop} (E : Rd P W R t (fun a => [en a]) ok) {v : Value} {d : DataW H} {ps : List MemPlace} (h : DataW.Trod enc P W 0 (fun _ => true) true t v d ps) (hv : v.cells.toList = [v]) (hw : ∀ k ∈ d.weights P t, k ≤ R) : ∃ a, v = en a ∧ ok a := by
  obtain ⟨fuel, h⟩ := h
  obtain ⟨a, h1, h2⟩ := E.out h hw
  rw [hv] at h1
  exact ⟨a, by simpa using h1, h2⟩
theorem Rd.argA {α : Type} {en : α → Chs} {ok : α → Prop} (E : Rd P W R t (fun a => (en a).flatten) ok) {v : Value} {d : DataW H} {ps : List MemPlace} (h : DataW.Trod enc P W 0 (fun _ => true) true t v d ps) (hv : ∃ cs, v = .agg cs) (hw : ∀ k ∈ d.weights P t, k ≤ R) : ∃ a, v = aggOf (en a) ∧ ok a := by
  obtain ⟨fuel, h⟩ := h
  obtain ⟨a, h1, h2⟩ := E.out h hw
  obtain ⟨cs, rfl⟩ := hv
  refine ⟨a, ?_, h2⟩
  have h1 : cs.toList = (en a).flatten := h1
  rw [aggOf, ← h1]
end

/-! ### Behind the call -/
theorem Ext.keptBut {W W' : World} (h : Ext W W') (may : MemPlace → Prop) : W.keptBut W' may := by
  refine ⟨h.os, h.output, fun i hi => ?_⟩
  rw [h.block i hi (fun hn => hn)]
  cases hb : W.heap[i]? with
  | none => trivial
  | some o => cases o <;> simp
theorem frozen_block {W W' : World} {a : Addr} (h : W'.heap[a.block]? = W.heap[a.block]?) : W'.frozen? a = W.frozen? a := by
  unfold World.frozen?; rw [h]
section
variable {P : Program} {H : Type} {enc : TypeId × Value → H} {W W' : World}
theorem Ext.same (h : Ext W W') {p : MemPlace} (hp : p.block < W.heap.size) : W.sameAt W' p := by
  cases p with
  | cell b off => exact World.cell?_of_block (a := ⟨b, off, none⟩) (h.block b hp (fun hn => hn))
  | map b => exact h.block b hp (fun hn => hn)
theorem trodAll_ext (h : Ext W W') {sp : Nat → Bool} : ∀ {ts : List TypeId} {vs : List Value} {ds : List (DataW H)} {ps : List MemPlace}, DataW.TrodAll enc P W 0 sp true ts vs ds ps → (∀ p ∈ ps, p.block < W.heap.size) → DataW.TrodAll enc P W' 0 sp true ts vs ds ps
  | [], [], [], _, h1, _ => h1
  | _ :: _, _ :: _, _ :: _, _, ⟨p, q, ⟨fuel, h1⟩, h2, e⟩, hs =>
    ⟨p, q, ⟨fuel, DataW.trod_carry _ _ _ _ h1 fun x hx => h.same (hs x (by rw [e]; exact List.mem_append_left _ hx))⟩, trodAll_ext h h2 (fun x hx => hs x (by rw [e]; exact List.mem_append_right _ hx)), e⟩
/-- A statement's call that wrote nothing and answers true. -/
theorem post_law {f : Func} {s : ChangeSpec} {apart fresh handsOn again : Bool} {args : Array Value} {ds gs : List (DataW H)} {before : List MemPlace} {bt : TypeId} (hv : s.vars = []) (hl : laidOutB P = true) (hm : mapsRowed P = true)
    (hz : ((List.range P.types.size).all fun t => match P.underlying t with | some (.slice e) => decide (0 < P.cellsOf e) | _ => true) = true) (hts : f.params.toList.all (fun t => decide (t < P.types.size)) = true)
    (hr : f.resultTypes = #[bt]) (hb : P.underlying bt = some .bool) (hW : DataW.Whole enc P f.params.toList s.vars apart W args.toList ds gs before)
    (hres : (s.fn H (ds ++ gs)).results = [.lit (.bool true)]) (harg : (s.fn H (ds ++ gs)).args = ds) (hvar : (s.fn H (ds ++ gs)).vars = []) (hx : Ext W W') : s.post enc P f apart fresh handsOn again W args (.bool true) W' := by
  have hlt := hW.lt
  have hW0 := hW
  obtain ⟨p, q, hA, hV, rfl, hfz, hnd⟩ := hW
  have hV0 := hV
  rw [hv] at hV
  obtain ⟨rfl, rfl⟩ := trodVars_none hV
  have hold : ∀ p' ∈ p ++ [], (fun b => decide (b < W.heap.size)) p'.block = true := fun p' hp => by simpa using hlt p' hp
  have hargs : ∀ sp : Nat → Bool, (∀ p' ∈ p ++ [], sp p'.block = true) → DataW.TrodAll enc P W' 0 sp true f.params.toList args.toList (s.fn H (ds ++ [])).args p := fun sp hsp => by
    rw [harg]
    refine trodAll_ext hx ?_ fun x h => hlt x (by simpa using h)
    exact hA.respare (kids_rows hl hm) (fun t e h => slices_full_of P hz t e h) (fun t ht => of_decide_eq_true (List.all_eq_true.1 hts t ht)) fun x h => hsp x (by simpa using h)
  have hvars : ∀ sp : Nat → Bool, DataW.TrodVars enc P W' sp s.vars (s.fn H (ds ++ [])).vars [] := fun sp => by rw [hv, hvar]; rfl
  have hresT : ∀ (b : Nat) (sp : Nat → Bool) (hd : Bool), DataW.TrodAll enc P W' b sp hd f.resultTypes.toList ((Value.bool true).resultList f.resultTypes.size) (s.fn H (ds ++ [])).results [] := fun b sp hd => by
    rw [hr, hres]
    exact trodAll_cons_mk (p := []) (p' := []) (shut_bool hb _) trodAll_mk0
  refine ⟨ds, [], p ++ [], [], p, [], hW0, hresT _ _ _, hargs _ hold, hvars _, World.keptBut_mono (fun x hx' => ⟨hx', .inr (by simpa using hx')⟩) (hx.keptBut (· ∈ p ++ [])), fun _ => ⟨?_, _, _, ([] ++ p) ++ [], ⟨[] ++ p, [], trodAll_append (hargs _ (fun _ _ => rfl)) (hresT _ _ _), hvars _, rfl, ?_, ?_⟩, ?_⟩⟩
  · intro j t r h1 h2
    rw [hr] at h1 h2
    cases j with
    | zero =>
      simp at h1 h2
      subst h1
      have : r = .bool true := by simpa [Value.resultList] using h2.symm
      subst this
      exact okWide_bool_mk hb _
    | succ j => simp at h1
  · intro b off hp
    have hlt' := hlt _ (show MemPlace.cell b off ∈ p ++ [] by simpa using hp)
    rw [frozen_block (hx.block b hlt' (fun hn => hn))]
    exact hfz b off (by simpa using hp)
  · intro ha
    simpa using hnd ha
  · intro x hx' _
    simpa using hx'
end
end Go.Proofs.Ytiknfldhommmpaa
/- The plain side: what the functions compute, on lists and numbers. -/
namespace Go.Proofs.Ytiknfldhommmpaa
open Go
set_option linter.unusedVariables false
set_option linter.unusedSimpArgs false
set_option linter.unusedSectionVars false

/-- The order of stamps. -/
def cmpInt (a b : Int) : Int := if a < b then -1 else if b < a then 1 else 0
theorem cmpInt_lt {a b : Int} (h : a < b) : cmpInt a b = -1 := if_pos h
theorem cmpInt_gt {a b : Int} (h : ¬ a < b) (h2 : b < a) : cmpInt a b = 1 := by unfold cmpInt; rw [if_neg h, if_pos h2]
theorem cmpInt_eq {a b : Int} (h : ¬ a < b) (h2 : ¬ b < a) : cmpInt a b = 0 := by unfold cmpInt; rw [if_neg h, if_neg h2]
def cmpSt (a b : Stamp) : Int := if a.T < b.T ∨ a.T = b.T ∧ a.R < b.R then -1 else if a.T = b.T ∧ a.R = b.R then 0 else 1

def findRow (xs : List RowS) (s : Stamp) : Int := match xs.findIdx? (fun x => decide (x.node = s)) with | some i => (i : Int) | none => -1
def noneBelow {α : Type} [Inhabited α] (xs : List α) (p : α → Prop) (k : Nat) : Prop := ∀ i, i < k → ¬ p (nth xs i)
theorem noneBelow_zero {α : Type} [Inhabited α] (xs : List α) (p : α → Prop) : noneBelow xs p 0 := fun _ h => absurd h (Nat.not_lt_zero _)
theorem noneBelow_succ {α : Type} [Inhabited α] {xs : List α} {p : α → Prop} {k : Nat} (h : noneBelow xs p k) (hk : ¬ p (nth xs k)) : noneBelow xs p (k + 1) := fun i hi => by
  rcases Nat.lt_or_eq_of_le (Nat.le_of_lt_succ hi) with h1 | h1
  · exact h i h1
  · subst h1; exact hk
theorem findRow_at {xs : List RowS} {s : Stamp} {k : Nat} (h : noneBelow xs (fun x => x.node = s) k) (hk : k < xs.length) (he : (nth xs k).node = s) : findRow xs s = (k : Int) := by
  have : xs.findIdx? (fun x => decide (x.node = s)) = some k := by
    rw [List.findIdx?_eq_some_iff_getElem]
    refine ⟨hk, by rw [← nth_eq hk]; simpa using he, fun j hj => ?_⟩
    have := h j hj
    rw [nth_eq (by omega)] at this
    simpa using this
  simp [findRow, this]
theorem findRow_none {xs : List RowS} {s : Stamp} (h : noneBelow xs (fun x => x.node = s) xs.length) : findRow xs s = -1 := by
  have : xs.findIdx? (fun x => decide (x.node = s)) = none := by
    rw [List.findIdx?_eq_none_iff]
    intro x hx
    obtain ⟨i, hi, rfl⟩ := List.getElem_of_mem hx
    have := h i hi
    rw [nth_eq hi] at this
    simpa using this
  simp [findRow, this]
theorem findRow_lt {xs : List RowS} {s : Stamp} : findRow xs s < xs.length ∧ -1 ≤ findRow xs s := by
  unfold findRow
  split
  · rename_i i h
    have := (List.findIdx?_eq_some_iff_getElem.1 h).1
    omega
  · omega
/-- Rows by their nodes. -/
def tableOf (rows : List RowS) : List (Stamp × RowS) := rows.foldl (fun kv r => kvPut r.node r kv) []
theorem tableOf_succ {rows : List RowS} {k : Nat} (h : k < rows.length) : kvPut (nth rows k).node (nth rows k) (tableOf (rows.take k)) = tableOf (rows.take (k + 1)) := by
  rw [List.take_succ_eq_append_getElem h]
  unfold tableOf
  rw [List.foldl_append, nth_eq h]
  rfl
def placeGo (kv : List (Stamp × RowS)) : Nat → Stamp → Stamp × Bool
  | 0, _ => (⟨0, 0⟩, false)
  | n + 1, s => if s.T = 0 then (s, true) else match kvGet kv s with
    | none => (⟨0, 0⟩, false)
    | some r => placeGo kv n r.par
def placeOf (kv : List (Stamp × RowS)) (s : Stamp) : Stamp × Bool := placeGo kv (kv.length + 1) s
theorem placeGo_next {t : List (Stamp × RowS)} {n k : Nat} {nd : Stamp} {q : Stamp × Bool} (hp : placeGo t (n + 1 - k) nd = q) (hk : k < n + 1) (h0 : ¬ nd.T = 0) (hs : (kvGet t nd).isSome = true) :
    placeGo t (n + 1 - (k + 1)) ((kvGet t nd).getD zeroRow).par = q := by
  subst hp
  rw [show n + 1 - k = (n + 1 - (k + 1)) + 1 from by omega]
  conv => rhs; unfold placeGo
  rw [if_neg h0]
  obtain ⟨r, hr⟩ := Option.isSome_iff_exists.1 hs
  rw [hr]; rfl
theorem placeGo_ret {t : List (Stamp × RowS)} {n k : Nat} {nd : Stamp} {q : Stamp × Bool} (hp : placeGo t (n + 1 - k) nd = q) (hk : k < n + 1) (h0 : nd.T = 0) : q = (nd, true) := by
  subst hp
  rw [show n + 1 - k = (n + 1 - (k + 1)) + 1 from by omega]
  unfold placeGo
  rw [if_pos h0]
theorem placeGo_none {t : List (Stamp × RowS)} {n k : Nat} {nd : Stamp} {q : Stamp × Bool} (hp : placeGo t (n + 1 - k) nd = q) (hk : k < n + 1) (h0 : ¬ nd.T = 0) (hs : (kvGet t nd).isSome = false) : q = (⟨0, 0⟩, false) := by
  subst hp
  rw [show n + 1 - k = (n + 1 - (k + 1)) + 1 from by omega]
  unfold placeGo
  rw [if_neg h0]
  cases hr : kvGet t nd with
  | none => rfl
  | some r => rw [hr] at hs; cases hs
theorem placeGo_end {t : List (Stamp × RowS)} {n k : Nat} {nd : Stamp} {q : Stamp × Bool} (hp : placeGo t (n + 1 - k) nd = q) (hk : ¬ k < n + 1) : q = (⟨0, 0⟩, false) := by
  subst hp
  rw [show n + 1 - k = 0 from by omega]; rfl


def stRight (s : Stamp) : Bool := decide (1 ≤ s.T ∧ s.T ≤ 1099511627776 ∧ 1 ≤ s.R ∧ s.R ≤ 65536)
def badByte (b : UInt8) : Bool := b = 0 || b = 47 || b = 10
def nameOk (s : ByteArray) : Bool := decide (s ≠ ByteArray.empty ∧ s.size ≤ 60 ∧ s ≠ ⟨#[46]⟩ ∧ s ≠ ⟨#[46, 46]⟩ ∧ ∀ j, j < s.size → badByte (sbyte s j) = false)
theorem cmpSt_lt {a b : Stamp} (h : a.T < b.T ∨ a.T = b.T ∧ a.R < b.R) : cmpSt a b = -1 := if_pos h
theorem cmpSt_eq {a b : Stamp} (h : ¬ (a.T < b.T ∨ a.T = b.T ∧ a.R < b.R)) (h2 : a.T = b.T ∧ a.R = b.R) : cmpSt a b = 0 := by unfold cmpSt; rw [if_neg h, if_pos h2]
theorem cmpSt_gt {a b : Stamp} (h : ¬ (a.T < b.T ∨ a.T = b.T ∧ a.R < b.R)) (h2 : ¬ (a.T = b.T ∧ a.R = b.R)) : cmpSt a b = 1 := by unfold cmpSt; rw [if_neg h, if_neg h2]
theorem badByte_eq (b : UInt8) : badByte b = (decide ((b.toNat : Int) = 0) || decide ((b.toNat : Int) = 47) || decide ((b.toNat : Int) = 10)) := by
  have key : ∀ n : Nat, n < 256 → decide (b = UInt8.ofNat n) = decide ((b.toNat : Int) = n) := by
    intro n hn
    rw [decide_eq_decide]
    constructor
    · rintro rfl; simp [Nat.mod_eq_of_lt hn]
    · intro h
      apply UInt8.toNat_inj.1
      simp only [UInt8.toNat_ofNat']
      omega
  have k0 : decide (b = 0) = decide ((b.toNat : Int) = 0) := key 0 (by omega)
  have k1 : decide (b = 47) = decide ((b.toNat : Int) = 47) := key 47 (by omega)
  have k2 : decide (b = 10) = decide ((b.toNat : Int) = 10) := key 10 (by omega)
  unfold badByte
  rw [k0, k1, k2]
theorem badByte_f {b : UInt8} (h : ((¬ (b.toNat : Int) = 0) ∧ ¬ (b.toNat : Int) = 47) ∧ ¬ (b.toNat : Int) = 10) : badByte b = false := by
  obtain ⟨⟨h1, h2⟩, h3⟩ := h; rw [badByte_eq, decide_eq_false h1, decide_eq_false h2, decide_eq_false h3]; rfl
theorem badByte_t {b : UInt8} (h : ((b.toNat : Int) = 0 ∨ (b.toNat : Int) = 47) ∨ (b.toNat : Int) = 10) : badByte b = true := by
  rw [badByte_eq]
  rcases h with (h | h) | h <;> simp [h]
def itemHeadOk (node : Stamp) (hs : List Head) (i : Nat) : Prop := stRight (nth hs i).tm = true ∧ cmpSt (nth hs i).tm node = 1 ∧ (nth hs i).data ≠ zeroId ∧ (i = 0 ∨ cmpSt (nth hs (i - 1)).tm (nth hs i).tm = -1)
instance (node : Stamp) (hs : List Head) (i : Nat) : Decidable (itemHeadOk node hs i) := by unfold itemHeadOk; infer_instance
/-- An item is right. -/
def itemOk (node tm : Stamp) (name : ByteArray) (hs : List Head) : Bool :=
  decide (stRight node = true ∧ stRight tm = true ∧ ¬ cmpSt tm node < 0 ∧ nameOk name = true ∧ hs.length ≤ 1000 ∧ ∀ i, i < hs.length → itemHeadOk node hs i)
def itemOf (r : RowS) (sub : ID) : ItemS := { node := r.node, tm := r.tm, name := r.name, sub := sub, heads := r.heads, hh := r.hh }
def itemOkS (x : ItemS) : Bool := itemOk x.node x.tm x.name x.heads
def dirOk (xs : List ItemS) : Bool := decide (xs.length ≤ 1000 ∧ ∀ i, i < xs.length → itemOkS (nth xs i) = true ∧ (i = 0 ∨ cmpSt (nth xs (i - 1)).node (nth xs i).node = -1))
def lastSt : Stamp := ⟨1099511627776, 65536⟩
/-- What is told of a row: all but where its heads lie. -/
structure RowC where
  node : Stamp
  par : Stamp
  tm : Stamp
  name : ByteArray
  heads : List Head
  deriving DecidableEq, Inhabited
def RowS.core (r : RowS) : RowC := ⟨r.node, r.par, r.tm, r.name, r.heads⟩
def liesGo (rows : List RowS) (over : Stamp) : Nat → Stamp → Bool
  | 0, _ => false
  | n + 1, s => if findRow rows s < 0 ∨ s.T = 0 ∧ (s.R = 0 ∨ s.R = 1) then false else
    if (nth rows (findRow rows s).toNat).par = over then true else liesGo rows over n (nth rows (findRow rows s).toNat).par
def liesOf (rows : List RowS) (node over : Stamp) : Bool := liesGo rows over rows.length node
def rowOkAt (rows : List RowS) (i : Nat) : Prop := itemOk (nth rows i).node (nth rows i).tm (nth rows i).name (nth rows i).heads = true ∧ (nth rows i).node ≠ lastSt ∧ (i = 0 ∨ cmpSt (nth rows (i - 1)).node (nth rows i).node = -1) ∧
  (liesOf rows (nth rows i).node ⟨0, 0⟩ = true ∨ liesOf rows (nth rows i).node ⟨0, 1⟩ = true)
instance (rows : List RowS) (i : Nat) : Decidable (rowOkAt rows i) := by unfold rowOkAt; infer_instance
/-- Rows are a tree, as the document has it. -/
def treeOk (rows : List RowS) : Bool := decide (rows.length ≤ 5000 ∧ ∀ i, i < rows.length → rowOkAt rows i)
def sameRows (a b : List RowS) : Bool := decide (a.map RowS.core = b.map RowS.core)
def aliveRef (rows : List RowS) : List RowS := rows.filter fun r => !liesOf rows r.node ⟨0, 1⟩
def datas (hs : List Head) : List ID := hs.map (·.data)
/-- What Alike looks at. -/
def rowD (r : RowS) : Stamp × Stamp × ByteArray × List ID := (r.node, r.par, r.name, datas r.heads)
def alikeRef (a b : List RowS) : Bool := decide ((aliveRef a).map rowD = (aliveRef b).map rowD)
theorem eq_of_nth {α : Type} [Inhabited α] {a b : List α} (hl : a.length = b.length) (h : ∀ i, i < a.length → nth a i = nth b i) : a = b := by
  apply List.ext_getElem hl
  intro i h1 h2
  have := h i h1
  rwa [nth_eq h1, nth_eq h2] at this
theorem map_eq_nth {α β : Type} [Inhabited α] {a b : List α} {f : α → β} : a.map f = b.map f ↔ a.length = b.length ∧ ∀ i, i < a.length → f (nth a i) = f (nth b i) := by
  constructor
  · intro h
    have hl : a.length = b.length := by simpa using congrArg List.length h
    refine ⟨hl, fun i hi => ?_⟩
    have := congrArg (fun l => l[i]?) h
    simp only [List.getElem?_map, List.getElem?_eq_getElem hi, List.getElem?_eq_getElem (hl ▸ hi), Option.map_some, Option.some.injEq] at this
    rw [nth_eq hi, nth_eq (hl ▸ hi)]
    exact this
  · rintro ⟨hl, h⟩
    apply List.ext_getElem (by simpa using hl)
    intro i h1 h2
    simp only [List.length_map] at h1 h2
    have := h i h1
    rw [nth_eq h1, nth_eq h2] at this
    simpa using this
theorem filter_take_succ {α : Type} [Inhabited α] {p : α → Bool} {l : List α} {k : Nat} (h : k < l.length) : (l.take (k + 1)).filter p = (l.take k).filter p ++ (if p (nth l k) then [nth l k] else []) := by
  rw [List.take_succ_eq_append_getElem h, List.filter_append, nth_eq h]
  congr 1
  by_cases hp : p l[k] <;> simp [hp]
theorem all_succ {p : Nat → Prop} {k : Nat} (h : ∀ i, i < k → p i) (hk : p k) : ∀ i, i < k + 1 → p i := fun i hi => by
  rcases Nat.lt_or_eq_of_le (Nat.le_of_lt_succ hi) with h1 | h1
  · exact h i h1
  · subst h1; exact hk
theorem all_zero (p : Nat → Prop) : ∀ i, i < 0 → p i := fun _ h => absurd h (Nat.not_lt_zero _)
theorem nameOk_bad {s : ByteArray} {k : Nat} (hk : k < s.size) (h : (((sbyte s k).toNat : Int) = 0 ∨ ((sbyte s k).toNat : Int) = 47) ∨ ((sbyte s k).toNat : Int) = 10) : Value.bool false = Value.bool (nameOk s) :=
  boolF fun hh => by have := hh.2.2.2.2 k hk; rw [badByte_t h] at this; cases this
theorem nameOk_good {s : ByteArray} (h : ∀ j, j < s.size → badByte (sbyte s j) = false) :
    Value.bool (((!decide (s = ByteArray.empty) && decide ((s.size : Int) ≤ 60)) && !decide (s = (⟨#[46]⟩ : ByteArray))) && !decide (s = (⟨#[46, 46]⟩ : ByteArray))) = Value.bool (nameOk s) := by
  refine boolE ?_
  simp only [Bool.and_eq_true, Bool.not_eq_true', decide_eq_false_iff_not, decide_eq_true_eq]
  constructor
  · rintro ⟨⟨⟨h1, h2⟩, h3⟩, h4⟩; exact ⟨h1, by omega, h3, h4, h⟩
  · rintro ⟨h1, h2, h3, h4, _⟩; exact ⟨⟨⟨h1, by omega⟩, h3⟩, h4⟩
theorem lies_next {rows : List RowS} {over nd : Stamp} {n k : Nat} {q : Bool} (hp : liesGo rows over (n - k) nd = q) (hk : k < n) (h1 : ¬ (findRow rows nd < 0 ∨ nd.T = 0 ∧ (nd.R = 0 ∨ nd.R = 1))) (h2 : ¬ (nth rows (findRow rows nd).toNat).par = over) :
    liesGo rows over (n - (k + 1)) (nth rows (findRow rows nd).toNat).par = q := by
  subst hp
  rw [show n - k = (n - (k + 1)) + 1 from by omega]
  conv => rhs; unfold liesGo
  rw [if_neg h1, if_neg h2]
theorem lies_f {rows : List RowS} {over nd : Stamp} {n k : Nat} (hk : k < n) (h1 : findRow rows nd < 0 ∨ nd.T = 0 ∧ (nd.R = 0 ∨ nd.R = 1)) : liesGo rows over (n - k) nd = false := by
  rw [show n - k = (n - (k + 1)) + 1 from by omega]
  unfold liesGo
  rw [if_pos h1]
theorem lies_t {rows : List RowS} {over nd : Stamp} {n k : Nat} (hk : k < n) (h1 : ¬ (findRow rows nd < 0 ∨ nd.T = 0 ∧ (nd.R = 0 ∨ nd.R = 1))) (h2 : (nth rows (findRow rows nd).toNat).par = over) : liesGo rows over (n - k) nd = true := by
  rw [show n - k = (n - (k + 1)) + 1 from by omega]
  unfold liesGo
  rw [if_neg h1, if_pos h2]
theorem itemHead_t {node : Stamp} {hs : List Head} {k : Nat} (h : ((stRight (nth hs k).tm = true ∧ cmpSt (nth hs k).tm node = 1) ∧ ¬ (nth hs k).data = zeroId) ∧ (¬ (0 : Int) < ((k : Nat) : Int) ∨ cmpSt (nth hs (k - 1)).tm (nth hs k).tm = -1)) : itemHeadOk node hs k :=
  ⟨h.1.1.1, h.1.1.2, h.1.2, h.2.imp (fun h => by omega) id⟩
theorem itemOk_f1 {x : ItemS} (h : (((stRight x.node = false ∨ stRight x.tm = false) ∨ cmpSt x.tm x.node < 0) ∨ nameOk x.name = false) ∨ (1000 : Int) < ((x.heads.length : Nat) : Int)) : Value.bool false = Value.bool (itemOkS x) := by
  refine boolF ?_
  rintro ⟨h1, h2, h3, h4, h5, _⟩
  rcases h with (((h | h) | h) | h) | h
  · rw [h1] at h; cases h
  · rw [h2] at h; cases h
  · exact h3 h
  · rw [h4] at h; cases h
  · omega
theorem itemOk_f2 {x : ItemS} {k : Nat} (hk : k < x.heads.length) (h : ((stRight (nth x.heads k).tm = false ∨ ¬ cmpSt (nth x.heads k).tm x.node = 1) ∨ (nth x.heads k).data = zeroId) ∨ ((0 : Int) < ((k : Nat) : Int) ∧ ¬ cmpSt (nth x.heads (k - 1)).tm (nth x.heads k).tm = -1)) : Value.bool false = Value.bool (itemOkS x) := by
  refine boolF ?_
  rintro ⟨_, _, _, _, _, hh⟩
  obtain ⟨a1, a2, a3, a4⟩ := hh k hk
  rcases h with ((h | h) | h) | h
  · rw [a1] at h; cases h
  · exact h a2
  · exact a3 h
  · rcases a4 with a4 | a4
    · omega
    · exact h.2 a4
theorem itemOk_t {x : ItemS} (h : (((stRight x.node = true ∧ stRight x.tm = true) ∧ ¬ cmpSt x.tm x.node < 0) ∧ nameOk x.name = true) ∧ ¬ (1000 : Int) < ((x.heads.length : Nat) : Int)) (h2 : ∀ i, i < x.heads.length → itemHeadOk x.node x.heads i) : Value.bool true = Value.bool (itemOkS x) :=
  boolT ⟨h.1.1.1.1, h.1.1.1.2, h.1.1.2, h.1.2, by omega, h2⟩
theorem dirAt_t {xs : List ItemS} {k : Nat} (h : itemOkS (nth xs k) = true ∧ (¬ (0 : Int) < ((k : Nat) : Int) ∨ cmpSt (nth xs (k - 1)).node (nth xs k).node = -1)) : itemOkS (nth xs k) = true ∧ (k = 0 ∨ cmpSt (nth xs (k - 1)).node (nth xs k).node = -1) :=
  ⟨h.1, h.2.imp (fun h => by omega) id⟩
theorem dirOk_f {xs : List ItemS} {k : Nat} (hk : k < xs.length) (h : itemOkS (nth xs k) = false ∨ ((0 : Int) < ((k : Nat) : Int) ∧ ¬ cmpSt (nth xs (k - 1)).node (nth xs k).node = -1)) : Value.bool false = Value.bool (dirOk xs) := by
  refine boolF ?_
  rintro ⟨_, hh⟩
  obtain ⟨a1, a2⟩ := hh k hk
  rcases h with h | h
  · rw [a1] at h; cases h
  · rcases a2 with a2 | a2
    · omega
    · exact h.2 a2
theorem dirOk_t {xs : List ItemS} (h : ∀ i, i < xs.length → itemOkS (nth xs i) = true ∧ (i = 0 ∨ cmpSt (nth xs (i - 1)).node (nth xs i).node = -1)) : Value.bool (decide (((xs.length : Nat) : Int) ≤ 1000)) = Value.bool (dirOk xs) := by
  refine boolE ?_
  rw [decide_eq_true_eq]
  exact ⟨fun h1 => ⟨by omega, h⟩, fun h1 => by have := h1.1; omega⟩
theorem dirOk_one (x : ItemS) : dirOk [x] = itemOkS x := by
  unfold dirOk
  rw [Bool.eq_iff_iff, decide_eq_true_eq]
  constructor
  · intro h; exact (h.2 0 (by simp)).1
  · intro h
    refine ⟨by simp, fun i hi => ?_⟩
    have : i = 0 := by simp at hi; omega
    subst this
    exact ⟨h, .inl rfl⟩
theorem rowAt_t {rows : List RowS} {k : Nat} {x : ItemS} (hx : x = itemOf (nth rows k) zeroId) (h : (dirOk [x] = true ∧ ¬ (nth rows k).node = lastSt) ∧ (¬ (0 : Int) < ((k : Nat) : Int) ∨ cmpSt (nth rows (k - 1)).node (nth rows k).node = -1))
    (h2 : liesOf rows (nth rows k).node ⟨0, 0⟩ = true ∨ liesOf rows (nth rows k).node ⟨0, 1⟩ = true) : rowOkAt rows k := by
  subst hx
  rw [dirOk_one] at h
  exact ⟨h.1.1, h.1.2, h.2.imp (fun h => by omega) id, h2⟩
theorem treeOk_f0 {rows : List RowS} (h : (5000 : Int) < ((rows.length : Nat) : Int)) : Value.bool false = Value.bool (treeOk rows) := boolF fun hh => by have := hh.1; omega
theorem treeOk_f1 {rows : List RowS} {k : Nat} {x : ItemS} (hx : x = itemOf (nth rows k) zeroId) (hk : k < rows.length) (h : (dirOk [x] = false ∨ (nth rows k).node = lastSt) ∨ ((0 : Int) < ((k : Nat) : Int) ∧ ¬ cmpSt (nth rows (k - 1)).node (nth rows k).node = -1)) : Value.bool false = Value.bool (treeOk rows) := by
  subst hx
  rw [dirOk_one] at h
  refine boolF fun hh => ?_
  obtain ⟨a1, a2, a3, _⟩ := hh.2 k hk
  rcases h with (h | h) | h
  · rw [show itemOkS (itemOf (nth rows k) zeroId) = true from a1] at h; cases h
  · exact a2 h
  · rcases a3 with a3 | a3
    · omega
    · exact h.2 a3
theorem treeOk_f2 {rows : List RowS} {k : Nat} (hk : k < rows.length) (h : liesOf rows (nth rows k).node ⟨0, 0⟩ = false ∧ liesOf rows (nth rows k).node ⟨0, 1⟩ = false) : Value.bool false = Value.bool (treeOk rows) := by
  refine boolF fun hh => ?_
  obtain ⟨_, _, _, a4⟩ := hh.2 k hk
  rcases a4 with a4 | a4
  · rw [h.1] at a4; cases a4
  · rw [h.2] at a4; cases a4
theorem treeOk_t {rows : List RowS} (h0 : ¬ (5000 : Int) < ((rows.length : Nat) : Int)) (h : ∀ i, i < rows.length → rowOkAt rows i) : Value.bool true = Value.bool (treeOk rows) := boolT ⟨by omega, h⟩
theorem core_eq {a b : RowS} (h : (((a.node = b.node ∧ a.par = b.par) ∧ a.tm = b.tm) ∧ a.name = b.name) ∧ a.heads = b.heads) : a.core = b.core := by
  simp [RowS.core, h.1.1.1.1, h.1.1.1.2, h.1.1.2, h.1.2, h.2]
theorem core_ne {a b : RowS} (h : (((¬ a.node = b.node ∨ ¬ a.par = b.par) ∨ ¬ a.tm = b.tm) ∨ ¬ a.name = b.name) ∨ ¬ a.heads = b.heads) : ¬ a.core = b.core := by
  simp only [RowS.core, RowC.mk.injEq]
  rintro ⟨h1, h2, h3, h4, h5⟩
  rcases h with (((h | h) | h) | h) | h <;> exact h (by assumption)
theorem sameRows_len {a b : List RowS} (h : ¬ ((a.length : Nat) : Int) = ((b.length : Nat) : Int)) : Value.bool false = Value.bool (sameRows a b) := boolF fun hh => h (by rw [(map_eq_nth.1 hh).1])
theorem sameRows_f {a b : List RowS} {k : Nat} (hk : k < a.length) (h : ¬ (nth a k).core = (nth b k).core) : Value.bool false = Value.bool (sameRows a b) := boolF fun hh => h ((map_eq_nth.1 hh).2 k hk)
theorem sameRows_t {a b : List RowS} (hl : a.length = b.length) (h : ∀ i, i < a.length → (nth a i).core = (nth b i).core) : Value.bool true = Value.bool (sameRows a b) := boolT (map_eq_nth.2 ⟨hl, h⟩)
theorem rowD_eq {a b : RowS} (h : ((a.node = b.node ∧ a.par = b.par) ∧ a.name = b.name) ∧ datas a.heads = datas b.heads) : rowD a = rowD b := by simp [rowD, h.1.1.1, h.1.1.2, h.1.2, h.2]
theorem rowD_ne {a b : RowS} (h : ((¬ a.node = b.node ∨ ¬ a.par = b.par) ∨ ¬ a.name = b.name) ∨ ¬ datas a.heads = datas b.heads) : ¬ rowD a = rowD b := by
  simp only [rowD, Prod.mk.injEq]
  rintro ⟨h1, h2, h3, h4⟩
  rcases h with ((h | h) | h) | h <;> exact h (by assumption)
def aliveTo (rows : List RowS) (k : Nat) : List RowS := (rows.take k).filter fun r => !liesOf rows r.node ⟨0, 1⟩
theorem aliveTo_in {rows acc : List RowS} {k : Nat} (h : acc = aliveTo rows k) (hk : k < rows.length) (hl : liesOf rows (nth rows k).node ⟨0, 1⟩ = false) : acc ++ [nth rows k] = aliveTo rows (k + 1) := by
  subst h; unfold aliveTo; rw [filter_take_succ hk]; simp [hl]
theorem aliveTo_out {rows acc : List RowS} {k : Nat} (h : acc = aliveTo rows k) (hk : k < rows.length) (hl : liesOf rows (nth rows k).node ⟨0, 1⟩ = true) : acc = aliveTo rows (k + 1) := by
  subst h; unfold aliveTo; rw [filter_take_succ hk]; simp [hl]
theorem aliveTo_all (rows : List RowS) : aliveTo rows rows.length = aliveRef rows := by unfold aliveTo aliveRef; rw [List.take_length]
def eqBy {α : Type} [Inhabited α] (f : α → α → Bool) (a b : List α) : Bool := decide (a.length = b.length ∧ ∀ i, i < a.length → f (nth a i) (nth b i) = true)
theorem eqBy_map {α β : Type} [Inhabited α] [DecidableEq β] (p : α → β) (a b : List α) : eqBy (fun x y => decide (p x = p y)) a b = decide (a.map p = b.map p) := by
  unfold eqBy
  rw [Bool.eq_iff_iff]
  simp only [decide_eq_true_eq]
  exact map_eq_nth.symm
theorem eqBy_datas {a b : List Head} : eqBy (fun x y => decide (x.data = y.data)) a b = decide (datas a = datas b) := eqBy_map (·.data) a b
theorem tableOf_len (rows : List RowS) : (tableOf rows).length ≤ rows.length := by
  unfold tableOf
  have : ∀ (l : List RowS) (kv : List (Stamp × RowS)), (l.foldl (fun kv r => kvPut r.node r kv) kv).length ≤ kv.length + l.length := by
    intro l
    induction l with
    | nil => intro kv; simp
    | cons x l ih =>
      intro kv
      have h1 := ih (kvPut x.node x kv)
      have h2 := kvPut_len x.node x kv
      simp only [List.foldl_cons, List.length_cons]
      omega
  simpa using this rows []
/-- Does a row lie under the trash, by the table? -/
def deadOf (rows : List RowS) (r : RowS) : Bool := (placeOf (tableOf rows) r.node).2 && decide ((placeOf (tableOf rows) r.node).1 = ⟨0, 1⟩)
def aliveOf (rows : List RowS) : List RowS := rows.filter fun r => !deadOf rows r
def aliveOfTo (rows : List RowS) (k : Nat) : List RowS := (rows.take k).filter fun r => !deadOf rows r
theorem aliveOfTo_all (rows : List RowS) : aliveOfTo rows rows.length = aliveOf rows := by unfold aliveOfTo aliveOf; rw [List.take_length]
theorem aliveOfTo_out {rows acc : List RowS} {k : Nat} (h : acc.map RowS.core = (aliveOfTo rows k).map RowS.core) (hk : k < rows.length)
    (hl : (placeOf (tableOf rows) (nth rows k).node).2 = true ∧ (placeOf (tableOf rows) (nth rows k).node).1 = ⟨0, 1⟩) : acc.map RowS.core = (aliveOfTo rows (k + 1)).map RowS.core := by
  unfold aliveOfTo at *
  rw [filter_take_succ hk, show deadOf rows (nth rows k) = true from by simp [deadOf, hl.1, hl.2]]
  simpa using h
theorem aliveOfTo_in {rows acc : List RowS} {k : Nat} {x : RowS} (h : acc.map RowS.core = (aliveOfTo rows k).map RowS.core) (hk : k < rows.length)
    (hl : (placeOf (tableOf rows) (nth rows k).node).2 = false ∨ ¬ (placeOf (tableOf rows) (nth rows k).node).1 = ⟨0, 1⟩) (hx : x.core = (nth rows k).core) : (acc ++ [x]).map RowS.core = (aliveOfTo rows (k + 1)).map RowS.core := by
  unfold aliveOfTo at *
  rw [filter_take_succ hk, show deadOf rows (nth rows k) = false from by rcases hl with hl | hl <;> simp [deadOf, hl]]
  simp only [Bool.not_false, if_true, List.map_append, h, List.map_cons, List.map_nil, hx]
def alikeOf (a b : List RowS) : Bool := decide ((aliveOf a).map rowD = (aliveOf b).map rowD)
def coreD (r : RowC) : Stamp × Stamp × ByteArray × List ID := (r.node, r.par, r.name, datas r.heads)
theorem map_rowD {l l' : List RowS} (h : l.map RowS.core = l'.map RowS.core) : l.map rowD = l'.map rowD := by
  have e : ∀ l : List RowS, l.map rowD = (l.map RowS.core).map coreD := fun l => by rw [List.map_map]; rfl
  rw [e, h, ← e]
theorem alike_eq {a b la lb : List RowS} (ha : la.map RowS.core = (aliveOf a).map RowS.core) (hb : lb.map RowS.core = (aliveOf b).map RowS.core) : eqBy (fun x y => decide (rowD x = rowD y)) la lb = alikeOf a b := by
  rw [eqBy_map, map_rowD ha, map_rowD hb]; rfl
theorem aliveRef_le (rows : List RowS) : (aliveRef rows).length ≤ rows.length := List.length_filter_le _ _
theorem aliveRef_mem {rows : List RowS} {x : RowS} (h : x ∈ aliveRef rows) : x ∈ rows := (List.mem_filter.1 h).1
def pathGo (rows : List RowS) : Nat → Stamp → ByteArray → ByteArray
  | 0, _, out => out
  | n + 1, s, out => if (nth rows (findRow rows s).toNat).par = ⟨0, 0⟩ then (nth rows (findRow rows s).toNat).name ++ out
    else pathGo rows n (nth rows (findRow rows s).toNat).par ((⟨#[47]⟩ : ByteArray) ++ ((nth rows (findRow rows s).toNat).name ++ out))
def pathRef (rows : List RowS) (node : Stamp) : ByteArray := if liesOf rows node ⟨0, 0⟩ = true then pathGo rows rows.length node ByteArray.empty else ByteArray.empty
theorem pathRef_of {rows : List RowS} {node : Stamp} (h : liesOf rows node ⟨0, 0⟩ = true) : pathRef rows node = pathGo rows rows.length node ByteArray.empty := if_pos h
theorem pathRef_none {rows : List RowS} {node : Stamp} (h : liesOf rows node ⟨0, 0⟩ = false) : pathRef rows node = ByteArray.empty := if_neg (by rw [h]; simp)
theorem lies_at {rows : List RowS} {over nd : Stamp} {n : Nat} (h : liesGo rows over n nd = true) : 1 ≤ n ∧ 0 ≤ findRow rows nd ∧ (findRow rows nd).toNat < rows.length ∧ findRow rows nd < rows.length := by
  cases n with
  | zero => cases h
  | succ n =>
    unfold liesGo at h
    split at h
    · cases h
    · rename_i h1
      have := findRow_lt (xs := rows) (s := nd)
      omega
theorem lies_step {rows : List RowS} {over nd : Stamp} {n : Nat} (h : liesGo rows over n nd = true) (hp : ¬ (nth rows (findRow rows nd).toNat).par = over) : liesGo rows over (n - 1) (nth rows (findRow rows nd).toNat).par = true := by
  cases n with
  | zero => cases h
  | succ n =>
    unfold liesGo at h
    split at h
    · cases h
    · first | exact h | (rw [if_neg hp] at h; exact h)
theorem pathGo_step {rows : List RowS} {nd : Stamp} {n : Nat} {out : ByteArray} (h : liesGo rows ⟨0, 0⟩ n nd = true) (hp : ¬ (nth rows (findRow rows nd).toNat).par = ⟨0, 0⟩) :
    pathGo rows n nd out = pathGo rows (n - 1) (nth rows (findRow rows nd).toNat).par ((⟨#[47]⟩ : ByteArray) ++ ((nth rows (findRow rows nd).toNat).name ++ out)) := by
  cases n with
  | zero => cases h
  | succ n =>
    conv => lhs; unfold pathGo
    rw [if_neg hp]; rfl
theorem pathGo_end {rows : List RowS} {nd : Stamp} {n : Nat} {out : ByteArray} (h : liesGo rows ⟨0, 0⟩ n nd = true) (hp : (nth rows (findRow rows nd).toNat).par = ⟨0, 0⟩) : pathGo rows n nd out = (nth rows (findRow rows nd).toNat).name ++ out := by
  cases n with
  | zero => cases h
  | succ n =>
    unfold pathGo
    rw [if_pos hp]
theorem path_size {rows : List RowS} {over nd : Stamp} {n : Nat} {out name : ByteArray} (h : liesGo rows over n nd = true) (hn : n ≤ rows.length) (hs : out.size ≤ (rows.length - n) * 61) (hm : name.size ≤ 60) :
    ((⟨#[47]⟩ : ByteArray) ++ (name ++ out)).size ≤ (rows.length - (n - 1)) * 61 := by
  have := lies_at h
  rw [ByteArray.size_append, ByteArray.size_append, show (⟨#[47]⟩ : ByteArray).size = 1 from rfl]
  omega
theorem path_cat {rows : List RowS} {over nd : Stamp} {n : Nat} {out name : ByteArray} {a b : Nat} (h : liesGo rows over n nd = true) (hn : n ≤ rows.length) (hs : out.size ≤ (rows.length - n) * 61) (hl : rows.length ≤ 1048576) (hm : name.size ≤ 60) (e : a + b ≤ 1 + name.size + out.size) :
    a + b ≤ 9223372036854775807 := by
  omega
/-- The first k and the last k have changed places. -/
def revd (s : List ByteArray) (k : Nat) (cur : List ByteArray) : Prop := ∀ i, i < s.length → nth cur i = if i < k ∨ s.length - k ≤ i then nth s (s.length - 1 - i) else nth s i
theorem revd_zero (s : List ByteArray) : revd s 0 s := fun i hi => by rw [if_neg (by omega)]
theorem nth_set {α : Type} [Inhabited α] {l : List α} {i j : Nat} {x : α} (hi : i < l.length) : nth (l.set i x) j = if j = i then x else nth l j := by
  unfold nth
  simp only [List.getD_eq_getElem?_getD, List.getElem?_set]
  by_cases h : j = i
  · subst h; simp [hi]
  · rw [if_neg h, if_neg (Ne.symm h)]
theorem revd_succ {s cur : List ByteArray} {k : Nat} {j : Int} (hl : cur.length = s.length) (h : revd s k cur) (hj : j = (s.length : Int) - 1 - (k : Int)) (hk : (k : Int) < j) : revd s (k + 1) ((cur.set k (nth cur j.toNat)).set j.toNat (nth cur k)) := by
  intro i hi
  have e : j.toNat = s.length - 1 - k := by omega
  rw [e, nth_set (by rw [List.length_set]; omega), nth_set (by omega), h (s.length - 1 - k) (by omega), h k (by omega), h i hi]
  by_cases h1 : i = s.length - 1 - k
  · subst h1
    rw [if_pos rfl, if_neg (by omega), if_pos (by omega)]
    congr 1; omega
  · rw [if_neg h1]
    by_cases h2 : i = k
    · subst h2
      rw [if_pos rfl, if_neg (by omega), if_pos (by omega)]
    · rw [if_neg h2]
      by_cases h3 : i < k ∨ s.length - k ≤ i
      · rw [if_pos h3, if_pos (by omega)]
      · rw [if_neg h3, if_neg (by omega)]
theorem revd_end {s cur : List ByteArray} {k : Nat} (hl : cur.length = s.length) (h : revd s k cur) (hk : ¬ (k : Int) < (s.length : Int) - 1 - (k : Int)) : cur = s.reverse := by
  apply eq_of_nth (by simp [hl])
  intro i hi
  rw [h i (by omega)]
  have hr : nth s.reverse i = nth s (s.length - 1 - i) := by
    rw [nth_eq (by simp; omega), nth_eq (by omega), List.getElem_reverse]
  rw [hr]
  by_cases h3 : i < k ∨ s.length - k ≤ i
  · rw [if_pos h3]
  · rw [if_neg h3]
    congr 1; omega
def orInt (vals : List Int) : Int := (vals.find? fun v => !decide (v = 0)).getD 0
theorem orInt_at {vals : List Int} {k : Nat} (hn : ∀ i, i < k → nth vals i = 0) (hk : k < vals.length) (h : ¬ nth vals k = 0) : orInt vals = nth vals k := by
  unfold orInt
  have : vals.find? (fun v => !decide (v = 0)) = some (nth vals k) := by
    rw [List.find?_eq_some_iff_getElem]
    refine ⟨by simp [h], k, hk, (nth_eq hk).symm, fun j hj => ?_⟩
    have := hn j hj
    rw [nth_eq (by omega)] at this
    simp [this]
  rw [this]; rfl
theorem orInt_none {vals : List Int} (hn : ∀ i, i < vals.length → nth vals i = 0) : orInt vals = 0 := by
  unfold orInt
  have : vals.find? (fun v => !decide (v = 0)) = none := by
    rw [List.find?_eq_none]
    intro x hx
    obtain ⟨i, hi, rfl⟩ := List.getElem_of_mem hx
    have := hn i hi
    rw [nth_eq hi] at this
    simp [this]
  rw [this]; rfl
theorem orInt_cmp {a b : Stamp} : orInt [cmpInt a.T b.T, cmpInt a.R b.R] = cmpSt a b := by
  unfold orInt cmpInt cmpSt
  by_cases h1 : a.T < b.T
  · simp [h1]
  · by_cases h2 : b.T < a.T
    · have : ¬ a.T = b.T := by omega
      simp [h1, h2, this]
    · have : a.T = b.T := by omega
      simp only [this, Int.lt_irrefl, if_false, true_and, false_or]
      by_cases h3 : a.R < b.R
      · simp [h3]
      · by_cases h4 : b.R < a.R
        · have : ¬ a.R = b.R := by omega
          simp [h3, h4, this]
        · have : a.R = b.R := by omega
          simp [this]
theorem cmpSt_range (a b : Stamp) : cmpSt a b = -1 ∨ cmpSt a b = 0 ∨ cmpSt a b = 1 := by
  unfold cmpSt; split
  · exact .inl rfl
  · split
    · exact .inr (.inl rfl)
    · exact .inr (.inr rfl)
def riseBy {α : Type} [Inhabited α] (f : α → α → Int) (a : List α) : Bool := decide (∀ i, i < a.length → 1 ≤ i → f (nth a (i - 1)) (nth a i) < 0)
theorem rise_succ {α : Type} [Inhabited α] {f : α → α → Int} {a : List α} {k : Nat} (h : ∀ i, i < k → 1 ≤ i → f (nth a (i - 1)) (nth a i) < 0) (hk : f (nth a (k - 1)) (nth a k) < 0) : ∀ i, i < k + 1 → 1 ≤ i → f (nth a (i - 1)) (nth a i) < 0 := fun i h2 h1 => by
  rcases Nat.lt_or_eq_of_le (Nat.le_of_lt_succ h2) with h3 | h3
  · exact h i h3 h1
  · subst h3; exact hk
def itemHead1 (node : Stamp) (hs : List Head) (i : Nat) : Prop := stRight (nth hs i).tm = true ∧ cmpSt (nth hs i).tm node = 1 ∧ (nth hs i).data ≠ zeroId
theorem itemHead1_t {node : Stamp} {hs : List Head} {k : Nat} (h : (stRight (nth hs k).tm = true ∧ ¬ cmpSt (nth hs k).tm node ≤ 0) ∧ ¬ (nth hs k).data = zeroId) : itemHead1 node hs k :=
  ⟨h.1.1, by have := cmpSt_range (nth hs k).tm node; omega, h.2⟩
theorem itemOk_f3 {x : ItemS} {k : Nat} (hk : k < x.heads.length) (h : (stRight (nth x.heads k).tm = false ∨ cmpSt (nth x.heads k).tm x.node ≤ 0) ∨ (nth x.heads k).data = zeroId) : Value.bool false = Value.bool (itemOkS x) := by
  refine boolF ?_
  rintro ⟨_, _, _, _, _, hh⟩
  obtain ⟨a1, a2, a3, a4⟩ := hh k hk
  rcases h with (h | h) | h
  · rw [a1] at h; cases h
  · omega
  · exact a3 h
theorem cmp_lt_iff (a b : Stamp) : cmpSt a b < 0 ↔ cmpSt a b = -1 := by have := cmpSt_range a b; omega
theorem itemOk_e {x : ItemS} (h : (((stRight x.node = true ∧ stRight x.tm = true) ∧ ¬ cmpSt x.tm x.node < 0) ∧ nameOk x.name = true) ∧ ¬ (1000 : Int) < ((x.heads.length : Nat) : Int)) (h2 : ∀ i, i < x.heads.length → itemHead1 x.node x.heads i) :
    Value.bool (riseBy (fun a b : Head => cmpSt a.tm b.tm) x.heads) = Value.bool (itemOkS x) := by
  refine boolE ?_
  unfold riseBy
  rw [decide_eq_true_eq]
  constructor
  · intro hr
    refine ⟨h.1.1.1.1, h.1.1.1.2, h.1.1.2, h.1.2, by omega, fun i hi => ⟨(h2 i hi).1, (h2 i hi).2.1, (h2 i hi).2.2, ?_⟩⟩
    by_cases h0 : i = 0
    · exact .inl h0
    · exact .inr ((cmp_lt_iff _ _).1 (hr i hi (by omega)))
  · intro hr i hi h1
    rcases (hr.2.2.2.2.2 i hi).2.2.2 with h0 | h0
    · omega
    · exact (cmp_lt_iff _ _).2 h0
def idxBy {α : Type} (f : α → Bool) (a : List α) : Int := match a.findIdx? f with | some i => (i : Int) | none => -1
theorem idxBy_at {α : Type} [Inhabited α] {f : α → Bool} {a : List α} {k : Nat} (hn : ∀ i, i < k → f (nth a i) = false) (hk : k < a.length) (h : f (nth a k) = true) : idxBy f a = (k : Int) := by
  have : a.findIdx? f = some k := by
    rw [List.findIdx?_eq_some_iff_getElem]
    refine ⟨hk, by rw [← nth_eq hk]; exact h, fun j hj => ?_⟩
    have := hn j hj
    rw [nth_eq (by omega)] at this
    simp [this]
  simp [idxBy, this]
theorem idxBy_none {α : Type} [Inhabited α] {f : α → Bool} {a : List α} (hn : ∀ i, i < a.length → f (nth a i) = false) : idxBy f a = -1 := by
  have : a.findIdx? f = none := by
    rw [List.findIdx?_eq_none_iff]
    intro x hx
    obtain ⟨i, hi, rfl⟩ := List.getElem_of_mem hx
    have := hn i hi
    rwa [nth_eq hi] at this
  simp [idxBy, this]
theorem boolIdx {α : Type} [Inhabited α] (f : α → Bool) (a : List α) : Value.bool (decide (0 ≤ idxBy f a)) = Value.bool (a.any f) := by
  congr 1
  unfold idxBy
  cases h : a.findIdx? f with
  | none =>
    rw [List.findIdx?_eq_none_iff] at h
    have : a.any f = false := by rw [List.any_eq_false]; intro x hx; simp [h x hx]
    rw [this]; rfl
  | some i =>
    obtain ⟨hi, h1, _⟩ := List.findIdx?_eq_some_iff_getElem.1 h
    have : a.any f = true := List.any_eq_true.2 ⟨a[i], List.getElem_mem hi, h1⟩
    rw [this]; simp
theorem dirOk_e {items : List ItemS} : Value.bool ((decide (((items.length : Nat) : Int) ≤ 1000) && !items.any fun x => !itemOkS x) && riseBy (fun a b : ItemS => cmpSt a.node b.node) items) = Value.bool (dirOk items) := by
  refine boolE ?_
  unfold riseBy
  simp only [Bool.and_eq_true, decide_eq_true_eq, Bool.not_eq_true', List.any_eq_false, Bool.not_eq_false]
  constructor
  · rintro ⟨⟨h1, h2⟩, h3⟩
    refine ⟨by omega, fun i hi => ⟨h2 _ (nth_mem hi), ?_⟩⟩
    by_cases h0 : i = 0
    · exact .inl h0
    · exact .inr ((cmp_lt_iff _ _).1 (h3 i hi (by omega)))
  · rintro ⟨h1, h2⟩
    refine ⟨⟨by omega, fun x hx => ?_⟩, fun i hi h0 => ?_⟩
    · obtain ⟨i, hi, rfl⟩ := List.getElem_of_mem hx
      rw [← nth_eq hi]; exact (h2 i hi).1
    · rcases (h2 i hi).2 with h | h
      · omega
      · exact (cmp_lt_iff _ _).2 h
theorem swap_perm {α : Type} [Inhabited α] {l : List α} {i j : Nat} (hi : i < l.length) (hj : j < l.length) : ((l.set i (nth l j)).set j (nth l i)).Perm l := by
  by_cases hij : i = j
  · subst hij
    rw [nth_eq hi, List.set_getElem_self, List.set_getElem_self]
  · rw [nth_eq hi, nth_eq hj]
    exact @List.set_set_perm _ l i j hi hj
theorem swap_perm' {l s : List RowS} {i j : Nat} (h : l.Perm s) (hi : i < l.length) (hj : j < l.length) : ((l.set i (nth l j)).set j (nth l i)).Perm s := (swap_perm hi hj).trans h
end Go.Proofs.Ytiknfldhommmpaa
namespace Go.Proofs.Ytiknfldhommmpaa
open Go
set_option maxRecDepth 100000
set_option linter.unusedVariables false
set_option linter.unusedSimpArgs false
theorem eqv_Stamp24 : EqV Try.prog 24 2 (fun x : Stamp => stampV x) :=
  eqv_struct2 Try.underlying24 Try.stoodInHeld24 (by decide) (by decide) (fun _ _ => part_1 (kk := 0) Try.isAgg2 rfl rfl) (fun _ _ => part_1 (kk := 1) Try.isAgg3 rfl rfl) (p := Stamp.T) (q := Stamp.R) (eqv_int Try.underlying2) (eqv_int Try.underlying3) (fun x y h1 h2 => by cases x; cases y; simp_all)
theorem eqv_ID36 : EqV Try.prog 36 2 (fun x : ID => idV x) := eqv_id (e := 5) (i := Try.t5) Try.underlying36 Try.underlying5 (by kernel_rfl) rfl Try.isAgg5
theorem eqv_ID35 : EqV Try.prog 35 2 (fun x : ID => idV x) := eqv_id (e := 5) (i := Try.t5) Try.underlying35 Try.underlying5 (by kernel_rfl) rfl Try.isAgg5
theorem eqv_Head62 : EqV Try.prog 62 3 (fun x : Head => headV x) :=
  eqv_struct2 Try.underlying62 Try.stoodInHeld62 (by decide) (by decide) (fun _ _ => part_A (kk := 0) (m := 2) Try.isAgg24 Try.sizeOf24 rfl rfl rfl) (fun _ _ => part_A (kk := 2) (m := 1) Try.isAgg36 Try.sizeOf36 rfl rfl rfl) (p := Head.tm) (q := Head.data) eqv_Stamp24 eqv_ID36 (fun x y h1 h2 => by cases x; cases y; simp_all)
theorem keyT_Stamp24 : KeyT Try.prog 24 (fun x : Stamp => stampV x) := keyT_stamp (i1 := 0) (i2 := 0) (n1 := "") (n2 := "") Try.underlying24 (by decide) (by decide) rfl rfl Try.underlying2 Try.underlying3 Try.isAgg2 Try.isAgg3 eqv_Stamp24
theorem TryMixed : Try.prog.follows .mixedOrders = true := by kernel_rfl
end Go.Proofs.Ytiknfldhommmpaa
namespace Go.Proofs.Ytiknfldhommmpaa
open Go
set_option maxRecDepth 100000
set_option linter.unusedVariables false
set_option linter.unusedSimpArgs false
set_option maxHeartbeats 1000000 in
theorem EqualFunc_Row (ha : SlH) (a : List RowS) (hb : SlH) (b : List RowS) (keq : FuncId) (ceq : Array Value) (f : RowS → RowS → Bool) (w : World) (Sa : Sl (Old w) rowCh 8 ha a w) (Sb : Sl (Old w) rowCh 8 hb b w) (Keq : callable Try.prog keq = true) (Ceq : ∀ x ∈ a, ∀ y ∈ b, ∀ w1, Ext w w1 → Calls Try.prog keq (#[rowV x, rowV y] ++ ceq) w1 (Ret fun v w2 => v = .bool (f x y) ∧ Ext w1 w2)) :
    Calls Try.prog 28 #[(slV ha a), (slV hb b), (.func (.func keq) #[] ceq)] w (Ret fun v w' => v = (.bool (eqBy f a b)) ∧ Ext w w') := by
 refine calls_W Try.func28 rfl Try.ntmps28 rfl ?_
 have H0 := Ctx.start w nob
 have H1 := H0.addSl _ Sa (fun b hb => ⟨hb, fun _ ho => (nomatch ho)⟩)
 have LSa := Sa.len
 have H2 := H1.addSl _ Sb (fun b hb => ⟨hb, fun _ ho => (nomatch ho)⟩)
 have LSb := Sb.len
 refine W_seq (W_reg ?_)
 refine O_v rfl (R_assign (v := (.bool false)) rfl ?_)
 refine O_nil (Then_n (W_seq (W_seq (W_reg ?_))))
 refine O_v rfl (R_move (v := (slV ha a)) rfl ?_)
 refine O_v rfl (R_len_slice (a := ha.a) (n := a.length) (c := ha.c) Try.underlying22 rfl ?_)
 refine O_v rfl (R_move (v := (slV hb b)) rfl ?_)
 refine O_v rfl (R_len_slice (a := hb.a) (n := b.length) (c := hb.c) Try.underlying22 rfl ?_)
 refine O_v rfl (R_cmp (a := ((a.length : Nat) : Int)) (b := ((b.length : Nat) : Int)) (r := (!(decide (((a.length : Nat) : Int) = ((b.length : Nat) : Int))))) rfl rfl rfl ?_)
 refine O_nil (Then_n ?_)
 refine W_cond (t := (!(decide (((a.length : Nat) : Int) = ((b.length : Nat) : Int))))) rfl (fun hc3 => ?_) (fun hc3 => ?_)
 ·have hc3 : ¬ (((a.length : Nat) : Int) = ((b.length : Nat) : Int)) := (of_decide_eq_false (notT hc3))
  refine W_seq (W_reg ?_)
  refine O_v rfl (R_assign (v := (.bool false)) rfl ?_)
  refine O_nil (Then_n (W_ret (Then_r ?_)))
  refine ret_1 (v := (.bool false)) Try.results28 rfl ?_
  exact ⟨(boolF (fun h => by have := h.1; omega)), H2.gr⟩
 ·have hc3 : (((a.length : Nat) : Int) = ((b.length : Nat) : Int)) := (of_decide_eq_true (notF hc3))
  refine W_skip (Then_n (W_seq (W_seq (W_reg ?_))))
  refine O_v rfl (R_move (v := (slV ha a)) rfl ?_)
  refine O_v rfl (R_len_slice (a := ha.a) (n := a.length) (c := ha.c) Try.underlying22 rfl ?_)
  refine O_v rfl (R_move (v := (.int .i64 0)) rfl ?_)
  refine O_nil (Then_n (W_block ?_))
  refine W_loop (fun m4 e5 w6 => ∃ (k : Nat), m4 = a.length - k ∧ (k ≤ a.length) ∧ (∀ i, i < k → f (nth a i) (nth b i) = true) ∧ ∃ eb7, e5 = envL [(1, (slV hb b)), (2, (.func (.func keq) #[] ceq)), (15, (slV ha a)), (16, (.int .i64 ((a.length : Nat) : Int))), (17, (.int .i64 ((k : Nat) : Int)))] eb7 ∧ Ctx w nob w6 [] [slI (Old w) rowCh 8 hb b, slI (Old w) rowCh 8 ha a]) _ ⟨0, rfl, (by omega), (all_zero _), _, envL_self ⟨rfl, rfl, rfl, rfl, rfl, trivial⟩, H2⟩ ?_
  rintro m4 _ w6 ⟨k, rfl, hk, hn, eb7, rfl, H8⟩
  refine W_seq (W_reg ?_)
  refine O_v rfl (R_cmp (a := ((k : Nat) : Int)) (b := ((a.length : Nat) : Int)) (r := (decide (((k : Nat) : Int) < ((a.length : Nat) : Int)))) rfl rfl rfl ?_)
  refine O_nil (Then_n (W_seq ?_))
  refine W_cond (t := (decide (((k : Nat) : Int) < ((a.length : Nat) : Int)))) rfl (fun hc9 => ?_) (fun hc9 => ?_)
  ·have hc9 : (((k : Nat) : Int) < ((a.length : Nat) : Int)) := (of_decide_eq_true hc9)
   refine W_skip (Then_n (W_seq (W_block (W_seq (W_reg ?_)))))
   refine O_v rfl (R_move (v := (.int .i64 ((k : Nat) : Int))) rfl ?_)
   refine O_v rfl (R_index_pure (H8.sl 1 rfl) (n := a.length) rfl (j := ((k : Nat) : Int)) (oo := (ha.o + k * 8)) Try.underlying22 Try.sizeOf44 rfl rfl (by omega) (by omega) rfl ?_)
   refine O_v rfl (R_loadA (cs := [[(.int .i64 (((nth a k).node).T))], [(.int .i64 (((nth a k).node).R))], [(.int .i64 (((nth a k).par).T))], [(.int .i64 (((nth a k).par).R))], [(.int .i64 (((nth a k).tm).T))], [(.int .i64 (((nth a k).tm).R))], [(.string ((nth a k).name))], [(slV ((nth a k).hh) ((nth a k).heads))]]) Try.isAgg44 Try.sizeOf44 rfl rfl ((Sl.elem (H8.sl 1 rfl) (i := k) (by omega) rfl).chunks 0 8 0 (ha.o + k * 8) _ rfl rfl rfl) ?_)
   refine O_v rfl (C_alloc H8 [[(.int .i64 0)], [(.int .i64 0)], [(.int .i64 0)], [(.int .i64 0)], [(.int .i64 0)], [(.int .i64 0)], [(.string ByteArray.empty)], [(.slice none 0 0)]] Try.zeroValue44 ?_)
   intro b10 w11 hb12 hx13 H14
   refine O_v rfl (R_assign (v := (.int .i64 ((k : Nat) : Int))) rfl ?_)
   refine O_u (C_storeA H14 0 rfl 0 (sub := [[(.int .i64 (((nth a k).node).T))], [(.int .i64 (((nth a k).node).R))], [(.int .i64 (((nth a k).par).T))], [(.int .i64 (((nth a k).par).R))], [(.int .i64 (((nth a k).tm).T))], [(.int .i64 (((nth a k).tm).R))], [(.string ((nth a k).name))], [(slV ((nth a k).hh) ((nth a k).heads))]]) [[(.int .i64 (((nth a k).node).T))], [(.int .i64 (((nth a k).node).R))], [(.int .i64 (((nth a k).par).T))], [(.int .i64 (((nth a k).par).R))], [(.int .i64 (((nth a k).tm).T))], [(.int .i64 (((nth a k).tm).R))], [(.string ((nth a k).name))], [(slV ((nth a k).hh) ((nth a k).heads))]] Try.sizeOf44 rfl rfl rfl rfl ⟨[[(.int .i64 0)], [(.int .i64 0)], [(.int .i64 0)], [(.int .i64 0)], [(.int .i64 0)], [(.int .i64 0)], [(.string ByteArray.empty)], [(.slice none 0 0)]], [], rfl, rfl, rfl⟩ rfl ?_)
   intro w15 hg16 H17
   refine O_nil (Then_n (W_seq (W_reg ?_)))
   refine O_v rfl (R_move (v := (slV hb b)) rfl ?_)
   refine O_v rfl (R_move (v := (.int .i64 ((k : Nat) : Int))) rfl ?_)
   refine O_v rfl (R_index_pure (H17.sl 0 rfl) (n := b.length) rfl (j := ((k : Nat) : Int)) (oo := (hb.o + k * 8)) Try.underlying22 Try.sizeOf44 rfl rfl (by omega) (by omega) rfl ?_)
   refine O_v rfl (R_loadA (cs := [[(.int .i64 (((nth b k).node).T))], [(.int .i64 (((nth b k).node).R))], [(.int .i64 (((nth b k).par).T))], [(.int .i64 (((nth b k).par).R))], [(.int .i64 (((nth b k).tm).T))], [(.int .i64 (((nth b k).tm).R))], [(.string ((nth b k).name))], [(slV ((nth b k).hh) ((nth b k).heads))]]) Try.isAgg44 Try.sizeOf44 rfl rfl ((Sl.elem (H17.sl 0 rfl) (i := k) (by omega) rfl).chunks 0 8 0 (hb.o + k * 8) _ rfl rfl rfl) ?_)
   refine O_v rfl (C_alloc H17 [[(.int .i64 0)], [(.int .i64 0)], [(.int .i64 0)], [(.int .i64 0)], [(.int .i64 0)], [(.int .i64 0)], [(.string ByteArray.empty)], [(.slice none 0 0)]] Try.zeroValue44 ?_)
   intro b18 w19 hb20 hx21 H22
   refine O_u (C_storeA H22 0 rfl 0 (sub := [[(.int .i64 (((nth b k).node).T))], [(.int .i64 (((nth b k).node).R))], [(.int .i64 (((nth b k).par).T))], [(.int .i64 (((nth b k).par).R))], [(.int .i64 (((nth b k).tm).T))], [(.int .i64 (((nth b k).tm).R))], [(.string ((nth b k).name))], [(slV ((nth b k).hh) ((nth b k).heads))]]) [[(.int .i64 (((nth b k).node).T))], [(.int .i64 (((nth b k).node).R))], [(.int .i64 (((nth b k).par).T))], [(.int .i64 (((nth b k).par).R))], [(.int .i64 (((nth b k).tm).T))], [(.int .i64 (((nth b k).tm).R))], [(.string ((nth b k).name))], [(slV ((nth b k).hh) ((nth b k).heads))]] Try.sizeOf44 rfl rfl rfl rfl ⟨[[(.int .i64 0)], [(.int .i64 0)], [(.int .i64 0)], [(.int .i64 0)], [(.int .i64 0)], [(.int .i64 0)], [(.string ByteArray.empty)], [(.slice none 0 0)]], [], rfl, rfl, rfl⟩ rfl ?_)
   intro w23 hg24 H25
   refine O_nil (Then_n (W_seq (W_reg ?_)))
   refine O_v rfl (R_move (v := (.func (.func keq) #[] ceq)) rfl ?_)
   refine O_v rfl (R_loadA (cs := [[(.int .i64 (((nth a k).node).T))], [(.int .i64 (((nth a k).node).R))], [(.int .i64 (((nth a k).par).T))], [(.int .i64 (((nth a k).par).R))], [(.int .i64 (((nth a k).tm).T))], [(.int .i64 (((nth a k).tm).R))], [(.string ((nth a k).name))], [(slV ((nth a k).hh) ((nth a k).heads))]]) Try.isAgg44 Try.sizeOf44 rfl rfl ((boxR_at (H25.getOwn 1 rfl)).chunks 0 8 0 0 _ rfl rfl rfl) ?_)
   refine O_v rfl (R_loadA (cs := [[(.int .i64 (((nth b k).node).T))], [(.int .i64 (((nth b k).node).R))], [(.int .i64 (((nth b k).par).T))], [(.int .i64 (((nth b k).par).R))], [(.int .i64 (((nth b k).tm).T))], [(.int .i64 (((nth b k).tm).R))], [(.string ((nth b k).name))], [(slV ((nth b k).hh) ((nth b k).heads))]]) Try.isAgg44 Try.sizeOf44 rfl rfl ((boxR_at (H25.getOwn 0 rfl)).chunks 0 8 0 0 _ rfl rfl rfl) ?_)
   refine O_v rfl (R_callV (vs := [(aggOf (rowCh (nth a k))), (aggOf (rowCh (nth b k)))]) Keq rfl rfl ((Ceq _ (nth_mem (by omega)) _ (nth_mem (by omega)) w23 H25.gr).ret ?_))
   rintro _ w26 ⟨rfl, hx27⟩
   have H28 := H25.ext hx27
   refine O_v rfl (R_not rfl ?_)
   refine O_nil (Then_n ?_)
   refine W_cond (t := (!(f (nth a k) (nth b k)))) rfl (fun hc29 => ?_) (fun hc29 => ?_)
   ·have hc29 : (f (nth a k) (nth b k)) = false := (notT hc29)
    refine W_seq (W_reg ?_)
    refine O_v rfl (R_assign (v := (.bool false)) rfl ?_)
    refine O_nil (Then_n (W_ret (Blk_r (Then_r (Then_r (Blk_r (Then_r ?_)))))))
    refine ret_1 (v := (.bool false)) Try.results28 rfl ?_
    exact ⟨(boolF (fun h => by have h1 := h.2 k (by omega); simp_all)), H28.gr⟩
   ·have hc29 : (f (nth a k) (nth b k)) = true := (notF hc29)
    refine W_skip (Blk_n (Then_n (W_reg ?_)))
    refine O_v rfl (R_arith (a := ((k : Nat) : Int)) (b := 1) (r0 := ((k : Nat) : Int) + 1) (r := ((k + 1 : Nat) : Int)) rfl rfl rfl (wrapN _ (by omega)) ?_)
    refine O_v rfl (R_move (v := (.int .i64 ((k + 1 : Nat) : Int))) rfl ?_)
    refine O_nil (Then_n ?_)
    have H30 := H28.sub (B' := []) (I' := [slI (Old w) rowCh 8 hb b, slI (Old w) rowCh 8 ha a]) (List.Sublist.cons _ (List.Sublist.cons _ List.Sublist.slnil)) (List.forall_mem_cons.2 ⟨List.mem_of_getElem? (i := 0) rfl, List.forall_mem_cons.2 ⟨List.mem_of_getElem? (i := 1) rfl, fun _ h => (nomatch h)⟩⟩)
    refine ⟨_, ?_, (k + 1), rfl, (by omega), (all_succ hn (by assumption)), _, envL_self ⟨rfl, rfl, rfl, rfl, rfl, trivial⟩, H30⟩
    omega
  ·have hc9 : ¬ (((k : Nat) : Int) < ((a.length : Nat) : Int)) := (of_decide_eq_false hc9)
   refine W_exit (Then_x (Then_x (Blk_x (Then_n (W_seq (W_reg ?_))))))
   refine O_v rfl (R_assign (v := (.bool true)) rfl ?_)
   refine O_nil (Then_n (W_ret ?_))
   refine ret_1 (v := (.bool true)) Try.results28 rfl ?_
   exact ⟨(boolT ⟨by omega, by rwa [show a.length = k from by omega]⟩), H8.gr⟩

end Go.Proofs.Ytiknfldhommmpaa
namespace Go.Proofs.Ytiknfldhommmpaa
open Go
set_option maxRecDepth 100000
set_option linter.unusedVariables false
set_option linter.unusedSimpArgs false
set_option maxHeartbeats 1000000 in
theorem EqualFunc_Head (ha : SlH) (a : List Head) (hb : SlH) (b : List Head) (keq : FuncId) (ceq : Array Value) (f : Head → Head → Bool) (w : World) (Sa : Sl (Old w) headCh 34 ha a w) (Sb : Sl (Old w) headCh 34 hb b w) (Keq : callable Try.prog keq = true) (Ceq : ∀ x ∈ a, ∀ y ∈ b, ∀ w1, Ext w w1 → Calls Try.prog keq (#[headV x, headV y] ++ ceq) w1 (Ret fun v w2 => v = .bool (f x y) ∧ Ext w1 w2)) :
    Calls Try.prog 41 #[(slV ha a), (slV hb b), (.func (.func keq) #[] ceq)] w (Ret fun v w' => v = (.bool (eqBy f a b)) ∧ Ext w w') := by
 refine calls_W Try.func41 rfl Try.ntmps41 rfl ?_
 have H0 := Ctx.start w nob
 have H1 := H0.addSl _ Sa (fun b hb => ⟨hb, fun _ ho => (nomatch ho)⟩)
 have LSa := Sa.len
 have H2 := H1.addSl _ Sb (fun b hb => ⟨hb, fun _ ho => (nomatch ho)⟩)
 have LSb := Sb.len
 refine W_seq (W_reg ?_)
 refine O_v rfl (R_assign (v := (.bool false)) rfl ?_)
 refine O_nil (Then_n (W_seq (W_seq (W_reg ?_))))
 refine O_v rfl (R_move (v := (slV ha a)) rfl ?_)
 refine O_v rfl (R_len_slice (a := ha.a) (n := a.length) (c := ha.c) Try.underlying42 rfl ?_)
 refine O_v rfl (R_move (v := (slV hb b)) rfl ?_)
 refine O_v rfl (R_len_slice (a := hb.a) (n := b.length) (c := hb.c) Try.underlying42 rfl ?_)
 refine O_v rfl (R_cmp (a := ((a.length : Nat) : Int)) (b := ((b.length : Nat) : Int)) (r := (!(decide (((a.length : Nat) : Int) = ((b.length : Nat) : Int))))) rfl rfl rfl ?_)
 refine O_nil (Then_n ?_)
 refine W_cond (t := (!(decide (((a.length : Nat) : Int) = ((b.length : Nat) : Int))))) rfl (fun hc3 => ?_) (fun hc3 => ?_)
 ·have hc3 : ¬ (((a.length : Nat) : Int) = ((b.length : Nat) : Int)) := (of_decide_eq_false (notT hc3))
  refine W_seq (W_reg ?_)
  refine O_v rfl (R_assign (v := (.bool false)) rfl ?_)
  refine O_nil (Then_n (W_ret (Then_r ?_)))
  refine ret_1 (v := (.bool false)) Try.results41 rfl ?_
  exact ⟨(boolF (fun h => by have := h.1; omega)), H2.gr⟩
 ·have hc3 : (((a.length : Nat) : Int) = ((b.length : Nat) : Int)) := (of_decide_eq_true (notF hc3))
  refine W_skip (Then_n (W_seq (W_seq (W_reg ?_))))
  refine O_v rfl (R_move (v := (slV ha a)) rfl ?_)
  refine O_v rfl (R_len_slice (a := ha.a) (n := a.length) (c := ha.c) Try.underlying42 rfl ?_)
  refine O_v rfl (R_move (v := (.int .i64 0)) rfl ?_)
  refine O_nil (Then_n (W_block ?_))
  refine W_loop (fun m4 e5 w6 => ∃ (k : Nat), m4 = a.length - k ∧ (k ≤ a.length) ∧ (∀ i, i < k → f (nth a i) (nth b i) = true) ∧ ∃ eb7, e5 = envL [(1, (slV hb b)), (2, (.func (.func keq) #[] ceq)), (15, (slV ha a)), (16, (.int .i64 ((a.length : Nat) : Int))), (17, (.int .i64 ((k : Nat) : Int)))] eb7 ∧ Ctx w nob w6 [] [slI (Old w) headCh 34 hb b, slI (Old w) headCh 34 ha a]) _ ⟨0, rfl, (by omega), (all_zero _), _, envL_self ⟨rfl, rfl, rfl, rfl, rfl, trivial⟩, H2⟩ ?_
  rintro m4 _ w6 ⟨k, rfl, hk, hn, eb7, rfl, H8⟩
  refine W_seq (W_reg ?_)
  refine O_v rfl (R_cmp (a := ((k : Nat) : Int)) (b := ((a.length : Nat) : Int)) (r := (decide (((k : Nat) : Int) < ((a.length : Nat) : Int)))) rfl rfl rfl ?_)
  refine O_nil (Then_n (W_seq ?_))
  refine W_cond (t := (decide (((k : Nat) : Int) < ((a.length : Nat) : Int)))) rfl (fun hc9 => ?_) (fun hc9 => ?_)
  ·have hc9 : (((k : Nat) : Int) < ((a.length : Nat) : Int)) := (of_decide_eq_true hc9)
   refine W_skip (Then_n (W_seq (W_block (W_seq (W_reg ?_)))))
   refine O_v rfl (R_move (v := (.int .i64 ((k : Nat) : Int))) rfl ?_)
   refine O_v rfl (R_index_pure (H8.sl 1 rfl) (n := a.length) rfl (j := ((k : Nat) : Int)) (oo := (ha.o + k * 34)) Try.underlying42 Try.sizeOf62 rfl rfl (by omega) (by omega) rfl ?_)
   refine O_v rfl (R_loadA (cs := [[(.int .i64 (((nth a k).tm).T))], [(.int .i64 (((nth a k).tm).R))], (idCells ((nth a k).data))]) Try.isAgg62 Try.sizeOf62 rfl rfl ((Sl.elem (H8.sl 1 rfl) (i := k) (by omega) rfl).chunks 0 3 0 (ha.o + k * 34) _ rfl rfl rfl) ?_)
   refine O_v rfl (C_alloc H8 [[(.int .i64 0)], [(.int .i64 0)], (idCells zeroId)] Try.zeroValue62 ?_)
   intro b10 w11 hb12 hx13 H14
   refine O_v rfl (R_assign (v := (.int .i64 ((k : Nat) : Int))) rfl ?_)
   refine O_u (C_storeA H14 0 rfl 0 (sub := [[(.int .i64 (((nth a k).tm).T))], [(.int .i64 (((nth a k).tm).R))], (idCells ((nth a k).data))]) [[(.int .i64 (((nth a k).tm).T))], [(.int .i64 (((nth a k).tm).R))], (idCells ((nth a k).data))] Try.sizeOf62 rfl rfl rfl rfl ⟨[[(.int .i64 0)], [(.int .i64 0)], (idCells zeroId)], [], rfl, rfl, rfl⟩ rfl ?_)
   intro w15 hg16 H17
   refine O_nil (Then_n (W_seq (W_reg ?_)))
   refine O_v rfl (R_move (v := (slV hb b)) rfl ?_)
   refine O_v rfl (R_move (v := (.int .i64 ((k : Nat) : Int))) rfl ?_)
   refine O_v rfl (R_index_pure (H17.sl 0 rfl) (n := b.length) rfl (j := ((k : Nat) : Int)) (oo := (hb.o + k * 34)) Try.underlying42 Try.sizeOf62 rfl rfl (by omega) (by omega) rfl ?_)
   refine O_v rfl (R_loadA (cs := [[(.int .i64 (((nth b k).tm).T))], [(.int .i64 (((nth b k).tm).R))], (idCells ((nth b k).data))]) Try.isAgg62 Try.sizeOf62 rfl rfl ((Sl.elem (H17.sl 0 rfl) (i := k) (by omega) rfl).chunks 0 3 0 (hb.o + k * 34) _ rfl rfl rfl) ?_)
   refine O_v rfl (C_alloc H17 [[(.int .i64 0)], [(.int .i64 0)], (idCells zeroId)] Try.zeroValue62 ?_)
   intro b18 w19 hb20 hx21 H22
   refine O_u (C_storeA H22 0 rfl 0 (sub := [[(.int .i64 (((nth b k).tm).T))], [(.int .i64 (((nth b k).tm).R))], (idCells ((nth b k).data))]) [[(.int .i64 (((nth b k).tm).T))], [(.int .i64 (((nth b k).tm).R))], (idCells ((nth b k).data))] Try.sizeOf62 rfl rfl rfl rfl ⟨[[(.int .i64 0)], [(.int .i64 0)], (idCells zeroId)], [], rfl, rfl, rfl⟩ rfl ?_)
   intro w23 hg24 H25
   refine O_nil (Then_n (W_seq (W_reg ?_)))
   refine O_v rfl (R_move (v := (.func (.func keq) #[] ceq)) rfl ?_)
   refine O_v rfl (R_loadA (cs := [[(.int .i64 (((nth a k).tm).T))], [(.int .i64 (((nth a k).tm).R))], (idCells ((nth a k).data))]) Try.isAgg62 Try.sizeOf62 rfl rfl ((boxR_at (H25.getOwn 1 rfl)).chunks 0 3 0 0 _ rfl rfl rfl) ?_)
   refine O_v rfl (R_loadA (cs := [[(.int .i64 (((nth b k).tm).T))], [(.int .i64 (((nth b k).tm).R))], (idCells ((nth b k).data))]) Try.isAgg62 Try.sizeOf62 rfl rfl ((boxR_at (H25.getOwn 0 rfl)).chunks 0 3 0 0 _ rfl rfl rfl) ?_)
   refine O_v rfl (R_callV (vs := [(aggOf (headCh (nth a k))), (aggOf (headCh (nth b k)))]) Keq rfl rfl ((Ceq _ (nth_mem (by omega)) _ (nth_mem (by omega)) w23 H25.gr).ret ?_))
   rintro _ w26 ⟨rfl, hx27⟩
   have H28 := H25.ext hx27
   refine O_v rfl (R_not rfl ?_)
   refine O_nil (Then_n ?_)
   refine W_cond (t := (!(f (nth a k) (nth b k)))) rfl (fun hc29 => ?_) (fun hc29 => ?_)
   ·have hc29 : (f (nth a k) (nth b k)) = false := (notT hc29)
    refine W_seq (W_reg ?_)
    refine O_v rfl (R_assign (v := (.bool false)) rfl ?_)
    refine O_nil (Then_n (W_ret (Blk_r (Then_r (Then_r (Blk_r (Then_r ?_)))))))
    refine ret_1 (v := (.bool false)) Try.results41 rfl ?_
    exact ⟨(boolF (fun h => by have h1 := h.2 k (by omega); simp_all)), H28.gr⟩
   ·have hc29 : (f (nth a k) (nth b k)) = true := (notF hc29)
    refine W_skip (Blk_n (Then_n (W_reg ?_)))
    refine O_v rfl (R_arith (a := ((k : Nat) : Int)) (b := 1) (r0 := ((k : Nat) : Int) + 1) (r := ((k + 1 : Nat) : Int)) rfl rfl rfl (wrapN _ (by omega)) ?_)
    refine O_v rfl (R_move (v := (.int .i64 ((k + 1 : Nat) : Int))) rfl ?_)
    refine O_nil (Then_n ?_)
    have H30 := H28.sub (B' := []) (I' := [slI (Old w) headCh 34 hb b, slI (Old w) headCh 34 ha a]) (List.Sublist.cons _ (List.Sublist.cons _ List.Sublist.slnil)) (List.forall_mem_cons.2 ⟨List.mem_of_getElem? (i := 0) rfl, List.forall_mem_cons.2 ⟨List.mem_of_getElem? (i := 1) rfl, fun _ h => (nomatch h)⟩⟩)
    refine ⟨_, ?_, (k + 1), rfl, (by omega), (all_succ hn (by assumption)), _, envL_self ⟨rfl, rfl, rfl, rfl, rfl, trivial⟩, H30⟩
    omega
  ·have hc9 : ¬ (((k : Nat) : Int) < ((a.length : Nat) : Int)) := (of_decide_eq_false hc9)
   refine W_exit (Then_x (Then_x (Blk_x (Then_n (W_seq (W_reg ?_))))))
   refine O_v rfl (R_assign (v := (.bool true)) rfl ?_)
   refine O_nil (Then_n (W_ret ?_))
   refine ret_1 (v := (.bool true)) Try.results41 rfl ?_
   exact ⟨(boolT ⟨by omega, by rwa [show a.length = k from by omega]⟩), H8.gr⟩

end Go.Proofs.Ytiknfldhommmpaa
namespace Go.Proofs.Ytiknfldhommmpaa
open Go
set_option maxRecDepth 100000
set_option linter.unusedVariables false
set_option linter.unusedSimpArgs false
set_option maxHeartbeats 1000000 in
theorem differ_sameData_1 (x : Head) (y : Head) (w : World) :
    Calls Try.prog 42 #[(aggOf (headCh x)), (aggOf (headCh y))] w (Ret fun v w' => v = (.bool (decide (x.data = y.data))) ∧ Ext w w') := by
 refine calls_W Try.func42 rfl Try.ntmps42 rfl ?_
 have H0 := Ctx.start w nob
 refine W_seq (W_reg ?_)
 refine O_v rfl (C_box H0 [[(.int .i64 x.tm.T)], [(.int .i64 x.tm.R)], (idCells x.data)] rfl ?_)
 intro b1 w2 hb3 hx4 H5
 refine O_v rfl (C_box H5 [[(.int .i64 y.tm.T)], [(.int .i64 y.tm.R)], (idCells y.data)] rfl ?_)
 intro b6 w7 hb8 hx9 H10
 refine O_v rfl (R_assign (v := (.bool false)) rfl ?_)
 refine O_nil (Then_n (W_seq (W_reg ?_)))
 refine O_v rfl (R_fieldAddr (off := 2) (oo := 2) Try.underlying62 rfl rfl Try.sizeOf36 rfl rfl ?_)
 refine O_v rfl (R_loadA (cs := [(idCells x.data)]) Try.isAgg36 Try.sizeOf36 rfl rfl ((boxR_at (H10.getOwn 1 rfl)).chunks 2 1 2 2 _ rfl rfl rfl) ?_)
 refine O_v rfl (R_fieldAddr (off := 2) (oo := 2) Try.underlying62 rfl rfl Try.sizeOf36 rfl rfl ?_)
 refine O_v rfl (R_loadA (cs := [(idCells y.data)]) Try.isAgg36 Try.sizeOf36 rfl rfl ((boxR_at (H10.getOwn 0 rfl)).chunks 2 1 2 2 _ rfl rfl rfl) ?_)
 refine O_v rfl (R_eqv (a := x.data) (b := y.data) eqv_ID36 rfl Try.eqGuardType36 rfl rfl ?_)
 refine O_v rfl (R_assign (v := (.bool (decide (x.data = y.data)))) rfl ?_)
 refine O_nil (Then_n (W_ret ?_))
 refine ret_1 (v := (.bool (decide (x.data = y.data)))) Try.results42 rfl ?_
 exact ⟨rfl, H10.gr⟩

end Go.Proofs.Ytiknfldhommmpaa
namespace Go.Proofs.Ytiknfldhommmpaa
open Go
set_option maxRecDepth 100000
set_option linter.unusedVariables false
set_option linter.unusedSimpArgs false
theorem differ_sameData_c41 : callable Try.prog 41 = true := by kernel_rfl
theorem differ_sameData_c42 : callable Try.prog 42 = true := by kernel_rfl
set_option maxHeartbeats 1000000 in
theorem differ_sameData (a : RowS) (b : RowS) (w : World) (Sa_heads : Sl (Old w) headCh 34 a.hh a.heads w) (Sb_heads : Sl (Old w) headCh 34 b.hh b.heads w) :
    Calls Try.prog 30 #[(aggOf (rowCh a)), (aggOf (rowCh b))] w (Ret fun v w' => v = (.bool (decide (datas a.heads = datas b.heads))) ∧ Ext w w') := by
 refine calls_W Try.func30 rfl Try.ntmps30 rfl ?_
 have H0 := Ctx.start w nob
 have H1 := H0.addSl _ Sa_heads (fun b hb => ⟨hb, fun _ ho => (nomatch ho)⟩)
 have LSa_heads := Sa_heads.len
 have H2 := H1.addSl _ Sb_heads (fun b hb => ⟨hb, fun _ ho => (nomatch ho)⟩)
 have LSb_heads := Sb_heads.len
 refine W_seq (W_reg ?_)
 refine O_v rfl (C_box H2 [[(.int .i64 a.node.T)], [(.int .i64 a.node.R)], [(.int .i64 a.par.T)], [(.int .i64 a.par.R)], [(.int .i64 a.tm.T)], [(.int .i64 a.tm.R)], [(.string a.name)], [(slV a.hh a.heads)]] rfl ?_)
 intro b3 w4 hb5 hx6 H7
 refine O_v rfl (C_box H7 [[(.int .i64 b.node.T)], [(.int .i64 b.node.R)], [(.int .i64 b.par.T)], [(.int .i64 b.par.R)], [(.int .i64 b.tm.T)], [(.int .i64 b.tm.R)], [(.string b.name)], [(slV b.hh b.heads)]] rfl ?_)
 intro b8 w9 hb10 hx11 H12
 refine O_v rfl (R_assign (v := (.bool false)) rfl ?_)
 refine O_nil (Then_n (W_seq (W_reg ?_)))
 refine O_v rfl (R_fieldAddr (off := 7) (oo := 7) Try.underlying44 rfl rfl Try.sizeOf42 rfl rfl ?_)
 refine O_v rfl (R_load1 (v := (slV a.hh a.heads)) Try.isAgg42 rfl ((boxR_at (H12.getOwn 1 rfl)).chunks 7 1 7 7 _ rfl rfl rfl) ?_)
 refine O_v rfl (R_fieldAddr (off := 7) (oo := 7) Try.underlying44 rfl rfl Try.sizeOf42 rfl rfl ?_)
 refine O_v rfl (R_load1 (v := (slV b.hh b.heads)) Try.isAgg42 rfl ((boxR_at (H12.getOwn 0 rfl)).chunks 7 1 7 7 _ rfl rfl rfl) ?_)
 refine O_v rfl (R_callL (vs := [(slV a.hh a.heads), (slV b.hh b.heads), (.func (.func 42) #[] #[])]) differ_sameData_c41 rfl rfl ((EqualFunc_Head a.hh a.heads b.hh b.heads 42 #[] (fun (x y : Head) => decide (x.data = y.data)) w9 (H12.slOld 1 rfl) (H12.slOld 0 rfl) differ_sameData_c42 (fun x _ y _ w1 _ => callsCap0 (differ_sameData_1 x y w1))).ret ?_))
 rintro _ w13 ⟨rfl, hx14⟩
 have H15 := H12.ext hx14
 refine O_v rfl (R_assign (v := (.bool (eqBy (fun (x y : Head) => decide (x.data = y.data)) a.heads b.heads))) rfl ?_)
 refine O_nil (Then_n (W_ret ?_))
 refine ret_1 (v := (.bool (eqBy (fun (x y : Head) => decide (x.data = y.data)) a.heads b.heads))) Try.results30 rfl ?_
 exact ⟨(by rw [eqBy_datas]), H15.gr⟩

end Go.Proofs.Ytiknfldhommmpaa
namespace Go.Proofs.Ytiknfldhommmpaa
open Go
set_option maxRecDepth 100000
set_option linter.unusedVariables false
set_option linter.unusedSimpArgs false
theorem differ_Alike_1_c30 : callable Try.prog 30 = true := by kernel_rfl
set_option maxHeartbeats 1000000 in
theorem differ_Alike_1 (x : RowS) (y : RowS) (w : World) (Sx_heads : Sl (Old w) headCh 34 x.hh x.heads w) (Sy_heads : Sl (Old w) headCh 34 y.hh y.heads w) :
    Calls Try.prog 29 #[(aggOf (rowCh x)), (aggOf (rowCh y))] w (Ret fun v w' => v = (.bool (decide (rowD x = rowD y))) ∧ Ext w w') := by
 refine calls_W Try.func29 rfl Try.ntmps29 rfl ?_
 have H0 := Ctx.start w nob
 have H1 := H0.addSl _ Sx_heads (fun b hb => ⟨hb, fun _ ho => (nomatch ho)⟩)
 have LSx_heads := Sx_heads.len
 have H2 := H1.addSl _ Sy_heads (fun b hb => ⟨hb, fun _ ho => (nomatch ho)⟩)
 have LSy_heads := Sy_heads.len
 refine W_seq (W_reg ?_)
 refine O_v rfl (C_box H2 [[(.int .i64 x.node.T)], [(.int .i64 x.node.R)], [(.int .i64 x.par.T)], [(.int .i64 x.par.R)], [(.int .i64 x.tm.T)], [(.int .i64 x.tm.R)], [(.string x.name)], [(slV x.hh x.heads)]] rfl ?_)
 intro b3 w4 hb5 hx6 H7
 refine O_v rfl (C_box H7 [[(.int .i64 y.node.T)], [(.int .i64 y.node.R)], [(.int .i64 y.par.T)], [(.int .i64 y.par.R)], [(.int .i64 y.tm.T)], [(.int .i64 y.tm.R)], [(.string y.name)], [(slV y.hh y.heads)]] rfl ?_)
 intro b8 w9 hb10 hx11 H12
 refine O_v rfl (R_assign (v := (.bool false)) rfl ?_)
 refine O_nil (Then_n (W_seq ?_))
 refine W_rg [(0, .q false), (1, .q false), (2, .q false), (3, .q false), (4, .q false), (5, .q false), (6, .q false), (7, .q false), (8, .q false), (9, .q false), (10, .q false), (11, .q false), (12, .q false), (13, .q false), (14, .q false), (15, .q false), (16, .q false), (17, .q false), (18, .q false), (19, .q false), (20, .q false), (21, .q false), (22, .q false), (23, .q false), (24, .q false)] (by kernel_rfl) ?_
 refine Lx_q (i := 0) rfl rfl _ (fun v13 hv14 => R_fieldAddr (off := 0) (oo := 0) Try.underlying44 rfl rfl Try.sizeOf24 rfl rfl ⟨rfl, Gr.refl _ _⟩) ?_
 refine Lx_q (i := 1) rfl rfl _ (fun v15 hv16 => R_loadA (cs := [[(.int .i64 x.node.T)], [(.int .i64 x.node.R)]]) Try.isAgg24 Try.sizeOf24 rfl rfl ((boxR_at ((H12.ext hv16).getOwn 1 rfl)).chunks 0 2 0 0 _ rfl rfl rfl) ⟨rfl, Gr.refl _ _⟩) ?_
 refine Lx_q (i := 2) rfl rfl _ (fun v17 hv18 => R_fieldAddr (off := 0) (oo := 0) Try.underlying44 rfl rfl Try.sizeOf24 rfl rfl ⟨rfl, Gr.refl _ _⟩) ?_
 refine Lx_q (i := 3) rfl rfl _ (fun v19 hv20 => R_loadA (cs := [[(.int .i64 y.node.T)], [(.int .i64 y.node.R)]]) Try.isAgg24 Try.sizeOf24 rfl rfl ((boxR_at ((H12.ext hv20).getOwn 0 rfl)).chunks 0 2 0 0 _ rfl rfl rfl) ⟨rfl, Gr.refl _ _⟩) ?_
 refine Lx_q (i := 4) rfl rfl _ (fun v21 hv22 => R_eqv (a := x.node) (b := y.node) eqv_Stamp24 rfl Try.eqGuardType24 rfl rfl ⟨rfl, Gr.refl _ _⟩) ?_
 refine Lx_q (i := 5) rfl rfl _ (fun v23 hv24 => R_move (v := (.bool (decide (x.node = y.node)))) rfl ⟨rfl, Gr.refl _ _⟩) ?_
 refine Lx_qg (i := 6) true (decide (x.node = y.node)) rfl rfl rfl rfl rfl (decide (x.node = y.node)) ga_t _ (fun hA v25 hv26 => R_fieldAddr (off := 2) (oo := 2) Try.underlying44 rfl rfl Try.sizeOf24 rfl rfl ⟨rfl, Gr.refl _ _⟩) ?_
 refine Lx_qg (i := 7) true (decide (x.node = y.node)) rfl rfl rfl rfl rfl (decide (x.node = y.node)) ga_t _ (fun hA v27 hv28 => R_loadA (cs := [[(.int .i64 x.par.T)], [(.int .i64 x.par.R)]]) Try.isAgg24 Try.sizeOf24 rfl (gv_t hA) ((boxR_at ((H12.ext hv28).getOwn 1 rfl)).chunks 2 2 2 2 _ rfl rfl rfl) ⟨rfl, Gr.refl _ _⟩) ?_
 refine Lx_qg (i := 8) true (decide (x.node = y.node)) rfl rfl rfl rfl rfl (decide (x.node = y.node)) ga_t _ (fun hA v29 hv30 => R_fieldAddr (off := 2) (oo := 2) Try.underlying44 rfl rfl Try.sizeOf24 rfl rfl ⟨rfl, Gr.refl _ _⟩) ?_
 refine Lx_qg (i := 9) true (decide (x.node = y.node)) rfl rfl rfl rfl rfl (decide (x.node = y.node)) ga_t _ (fun hA v31 hv32 => R_loadA (cs := [[(.int .i64 y.par.T)], [(.int .i64 y.par.R)]]) Try.isAgg24 Try.sizeOf24 rfl (gv_t hA) ((boxR_at ((H12.ext hv32).getOwn 0 rfl)).chunks 2 2 2 2 _ rfl rfl rfl) ⟨rfl, Gr.refl _ _⟩) ?_
 refine Lx_qg (i := 10) true (decide (x.node = y.node)) rfl rfl rfl rfl rfl (decide (x.node = y.node)) ga_t _ (fun hA v33 hv34 => R_eqv (a := x.par) (b := y.par) eqv_Stamp24 rfl Try.eqGuardType24 (gv_t hA) (gv_t hA) ⟨rfl, Gr.refl _ _⟩) ?_
 refine Lx_q (i := 11) rfl rfl _ (fun v35 hv36 => R_pick (t := (decide (x.node = y.node))) (v := (.bool ((decide (x.node = y.node)) && (decide (x.par = y.par))))) rfl pk_and ⟨rfl, Gr.refl _ _⟩) ?_
 refine Lx_q (i := 12) rfl rfl _ (fun v37 hv38 => R_move (v := (.bool ((decide (x.node = y.node)) && (decide (x.par = y.par))))) rfl ⟨rfl, Gr.refl _ _⟩) ?_
 refine Lx_qg (i := 13) true ((decide (x.node = y.node)) && (decide (x.par = y.par))) rfl rfl rfl rfl rfl ((decide (x.node = y.node)) && (decide (x.par = y.par))) ga_t _ (fun hA v39 hv40 => R_fieldAddr (off := 6) (oo := 6) Try.underlying44 rfl rfl Try.sizeOf9 rfl rfl ⟨rfl, Gr.refl _ _⟩) ?_
 refine Lx_qg (i := 14) true ((decide (x.node = y.node)) && (decide (x.par = y.par))) rfl rfl rfl rfl rfl ((decide (x.node = y.node)) && (decide (x.par = y.par))) ga_t _ (fun hA v41 hv42 => R_load1 (v := (.string x.name)) Try.isAgg9 (gv_t hA) ((boxR_at ((H12.ext hv42).getOwn 1 rfl)).chunks 6 1 6 6 _ rfl rfl rfl) ⟨rfl, Gr.refl _ _⟩) ?_
 refine Lx_qg (i := 15) true ((decide (x.node = y.node)) && (decide (x.par = y.par))) rfl rfl rfl rfl rfl ((decide (x.node = y.node)) && (decide (x.par = y.par))) ga_t _ (fun hA v43 hv44 => R_fieldAddr (off := 6) (oo := 6) Try.underlying44 rfl rfl Try.sizeOf9 rfl rfl ⟨rfl, Gr.refl _ _⟩) ?_
 refine Lx_qg (i := 16) true ((decide (x.node = y.node)) && (decide (x.par = y.par))) rfl rfl rfl rfl rfl ((decide (x.node = y.node)) && (decide (x.par = y.par))) ga_t _ (fun hA v45 hv46 => R_load1 (v := (.string y.name)) Try.isAgg9 (gv_t hA) ((boxR_at ((H12.ext hv46).getOwn 0 rfl)).chunks 6 1 6 6 _ rfl rfl rfl) ⟨rfl, Gr.refl _ _⟩) ?_
 refine Lx_qg (i := 17) true ((decide (x.node = y.node)) && (decide (x.par = y.par))) rfl rfl rfl rfl rfl ((decide (x.node = y.node)) && (decide (x.par = y.par))) ga_t _ (fun hA v47 hv48 => R_cmpS (a := x.name) (b := y.name) (r := (decide (x.name = y.name))) (gv_t hA) (gv_t hA) rfl ⟨rfl, Gr.refl _ _⟩) ?_
 refine Lx_q (i := 18) rfl rfl _ (fun v49 hv50 => R_pick (t := ((decide (x.node = y.node)) && (decide (x.par = y.par)))) (v := (.bool (((decide (x.node = y.node)) && (decide (x.par = y.par))) && (decide (x.name = y.name))))) rfl pk_and ⟨rfl, Gr.refl _ _⟩) ?_
 refine Lx_q (i := 19) rfl rfl _ (fun v51 hv52 => R_move (v := (.bool (((decide (x.node = y.node)) && (decide (x.par = y.par))) && (decide (x.name = y.name))))) rfl ⟨rfl, Gr.refl _ _⟩) ?_
 refine Lx_qg (i := 20) true (((decide (x.node = y.node)) && (decide (x.par = y.par))) && (decide (x.name = y.name))) rfl rfl rfl rfl rfl (((decide (x.node = y.node)) && (decide (x.par = y.par))) && (decide (x.name = y.name))) ga_t _ (fun hA v53 hv54 => R_loadA (cs := [[(.int .i64 x.node.T)], [(.int .i64 x.node.R)], [(.int .i64 x.par.T)], [(.int .i64 x.par.R)], [(.int .i64 x.tm.T)], [(.int .i64 x.tm.R)], [(.string x.name)], [(slV x.hh x.heads)]]) Try.isAgg44 Try.sizeOf44 rfl rfl ((boxR_at ((H12.ext hv54).getOwn 1 rfl)).chunks 0 8 0 0 _ rfl rfl rfl) ⟨rfl, Gr.refl _ _⟩) ?_
 refine Lx_qg (i := 21) true (((decide (x.node = y.node)) && (decide (x.par = y.par))) && (decide (x.name = y.name))) rfl rfl rfl rfl rfl (((decide (x.node = y.node)) && (decide (x.par = y.par))) && (decide (x.name = y.name))) ga_t _ (fun hA v55 hv56 => R_loadA (cs := [[(.int .i64 y.node.T)], [(.int .i64 y.node.R)], [(.int .i64 y.par.T)], [(.int .i64 y.par.R)], [(.int .i64 y.tm.T)], [(.int .i64 y.tm.R)], [(.string y.name)], [(slV y.hh y.heads)]]) Try.isAgg44 Try.sizeOf44 rfl rfl ((boxR_at ((H12.ext hv56).getOwn 0 rfl)).chunks 0 8 0 0 _ rfl rfl rfl) ⟨rfl, Gr.refl _ _⟩) ?_
 refine Lx_qg (i := 22) true (((decide (x.node = y.node)) && (decide (x.par = y.par))) && (decide (x.name = y.name))) rfl rfl rfl rfl rfl (((decide (x.node = y.node)) && (decide (x.par = y.par))) && (decide (x.name = y.name))) ga_t (.bool (decide (datas x.heads = datas y.heads))) (fun hA v57 hv58 => R_callL (vs := [(aggOf (rowCh x)), (aggOf (rowCh y))]) differ_Alike_1_c30 rfl (lst2 (gv_t hA) (gv_t hA)) (differ_sameData x y v57 ((H12.ext hv58).slOld 1 rfl) ((H12.ext hv58).slOld 0 rfl))) ?_
 refine Lx_q (i := 23) rfl rfl _ (fun v59 hv60 => R_pick (t := (((decide (x.node = y.node)) && (decide (x.par = y.par))) && (decide (x.name = y.name)))) (v := (.bool ((((decide (x.node = y.node)) && (decide (x.par = y.par))) && (decide (x.name = y.name))) && (decide (datas x.heads = datas y.heads))))) rfl pk_and ⟨rfl, Gr.refl _ _⟩) ?_
 refine Lx_q (i := 24) rfl rfl _ (fun v61 hv62 => R_assign (v := (.bool ((((decide (x.node = y.node)) && (decide (x.par = y.par))) && (decide (x.name = y.name))) && (decide (datas x.heads = datas y.heads))))) rfl ⟨rfl, Gr.refl _ _⟩) ?_
 refine Lx_nil (fun w63 hw64 => ?_)
 have H65 := H12.ext hw64
 refine Then_n (W_ret ?_)
 refine ret_1 (v := (.bool ((((decide (x.node = y.node)) && (decide (x.par = y.par))) && (decide (x.name = y.name))) && (decide (datas x.heads = datas y.heads))))) Try.results29 rfl ?_
 exact ⟨(boolE (by simp only [Bool.and_eq_true, decide_eq_true_eq, rowD, Prod.mk.injEq, and_assoc])), H65.gr⟩

end Go.Proofs.Ytiknfldhommmpaa
namespace Go.Proofs.Ytiknfldhommmpaa
open Go
set_option maxRecDepth 100000
set_option linter.unusedVariables false
set_option linter.unusedSimpArgs false
set_option maxHeartbeats 1000000 in
theorem Clone_Head (hs : SlH) (s : List Head) (w : World) (Ss : Sl (Old w) headCh 34 hs s w) (hl : s.length * 48 ≤ 140737488355328) :
    Calls Try.prog 27 #[(slV hs s)] w (Ret fun v w' => ∃ h, v = slV h (s) ∧ Ext w w' ∧ OwnS w.heap.size 62 34 headCh h (s) w') := by
 refine calls_W Try.func27 rfl Try.ntmps27 rfl ?_
 have H0 := Ctx.start w nob
 have H1 := H0.addSl _ Ss (fun b hb => ⟨hb, fun _ ho => (nomatch ho)⟩)
 have LSs := Ss.len
 refine W_seq (W_reg ?_)
 refine O_v rfl (R_assign (v := (.slice none 0 0)) rfl ?_)
 refine O_nil (Then_n (W_seq (W_seq (W_reg ?_))))
 refine O_v rfl (R_move (v := (slV hs s)) rfl ?_)
 refine O_v rfl (R_slice_nil (a := hs.a) Try.underlying42 rfl rfl ?_)
 refine O_nil (Then_n ?_)
 refine W_cond (t := hs.a.isNone) rfl (fun hc2 => ?_) (fun hc2 => ?_)
 ·have hc2 : hs.a.isNone = true := hc2
  refine W_seq (W_reg ?_)
  refine O_v rfl (R_assign (v := (.slice none 0 0)) rfl ?_)
  refine O_nil (Then_n (W_ret (Then_r ?_)))
  refine ret_1 (v := (.slice none 0 0)) Try.results27 rfl ?_
  have H3 := H1.addNil 62 34 headCh
  have hE : [] = s := (Sl.isNil Ss (by assumption)).symm
  refine ⟨nilH, ?_, H3.gr, ?_⟩
  · exact congrArg (fun l => slV nilH l) hE
  · have hO := H3.retRow 0 rfl
    exact hE ▸ hO
 ·have hc2 : hs.a.isNone = false := hc2
  refine W_skip (Then_n (W_seq (W_reg ?_)))
  refine O_v rfl (C_buildSliceL H1 (enc := headCh) (val := headV) ([] : List Head) Try.underlying42 Try.sizeOf62 Try.zeroValue62 rfl (by decide) (fun _ => rfl) (fun _ => rfl) rfl rfl (by decide) ?_)
  intro b4 w5 hb6 hx7 H8
  refine O_v rfl (R_move (v := (slV hs s)) rfl ?_)
  refine O_v rfl (C_append H8 0 rfl (bytes := 48) (l := ([] : List Head)) (ys := s) Try.underlying42 rfl rfl rfl rfl rfl (by decide) rfl rfl (H8.sl 0 rfl) (fun _ => rfl) (fun _ => rfl) (by simpa using hl) (by decide) ?_)
  intro h9 w10 hg11 H12
  refine O_v rfl (R_assign (v := (slV h9 (([] : List Head) ++ s))) rfl ?_)
  refine O_nil (Then_n (W_ret ?_))
  refine ret_1 (v := (slV h9 (([] : List Head) ++ s))) Try.results27 rfl ?_
  have hE : ([] : List Head) ++ s = s := List.nil_append _
  refine ⟨h9, ?_, H12.gr, ?_⟩
  · exact congrArg (fun l => slV h9 l) hE
  · have hO := H12.retRow 0 rfl
    exact hE ▸ hO

end Go.Proofs.Ytiknfldhommmpaa
namespace Go.Proofs.Ytiknfldhommmpaa
open Go
set_option maxRecDepth 100000
set_option linter.unusedVariables false
set_option linter.unusedSimpArgs false
set_option maxHeartbeats 1000000 in
theorem differ_of (hrows : SlH) (rows : List RowS) (w : World) (Srows : Sl (Old w) rowCh 8 hrows rows w) :
    Calls Try.prog 24 #[(slV hrows rows)] w (Ret fun v w' => ∃ r, v = .map (some r) ∧ Ext w w' ∧ w.heap.size ≤ r ∧ MapQ r (fun x : Stamp => stampV x) rowV (tableOf rows) w') := by
 refine calls_W Try.func24 rfl Try.ntmps24 rfl ?_
 have H0 := Ctx.start w nob
 have H1 := H0.addSl _ Srows (fun b hb => ⟨hb, fun _ ho => (nomatch ho)⟩)
 have LSrows := Srows.len
 refine W_seq (W_reg ?_)
 refine O_v rfl (R_assign (v := (.map none)) rfl ?_)
 refine O_nil (Then_n (W_seq (W_reg ?_)))
 refine O_v rfl (C_makeMap H1 (fun x : Stamp => stampV x) rowV ?_)
 intro r2 w3 hr4 hx5 H6
 refine O_v rfl (R_assign (v := (.map (some r2))) rfl ?_)
 refine O_nil (Then_n (W_seq (W_seq (W_reg ?_))))
 refine O_v rfl (R_move (v := (slV hrows rows)) rfl ?_)
 refine O_v rfl (R_len_slice (a := hrows.a) (n := rows.length) (c := hrows.c) Try.underlying22 rfl ?_)
 refine O_v rfl (R_move (v := (.int .i64 0)) rfl ?_)
 refine O_nil (Then_n (W_block ?_))
 refine W_loop (fun m7 e8 w9 => ∃ (k : Nat), ∃ (kv : List (Stamp × RowS)), m7 = rows.length - k ∧ (k ≤ rows.length) ∧ (kv = tableOf (rows.take k)) ∧ ∃ eb10, e8 = envL [(2, (.map none)), (3, (.map (some r2))), (7, (slV hrows rows)), (8, (.int .i64 ((rows.length : Nat) : Int))), (9, (.int .i64 ((k : Nat) : Int)))] eb10 ∧ Ctx w nob w9 [mapO r2 (fun x : Stamp => stampV x) rowV kv] [slI (Old w) rowCh 8 hrows rows]) _ ⟨0, [], rfl, (by omega), rfl, _, envL_self ⟨rfl, rfl, rfl, rfl, rfl, trivial⟩, H6⟩ ?_
 rintro m7 _ w9 ⟨k, kv, rfl, hk, hkv, eb10, rfl, H11⟩
 refine W_seq (W_reg ?_)
 refine O_v rfl (R_cmp (a := ((k : Nat) : Int)) (b := ((rows.length : Nat) : Int)) (r := (decide (((k : Nat) : Int) < ((rows.length : Nat) : Int)))) rfl rfl rfl ?_)
 refine O_nil (Then_n (W_seq ?_))
 refine W_cond (t := (decide (((k : Nat) : Int) < ((rows.length : Nat) : Int)))) rfl (fun hc12 => ?_) (fun hc12 => ?_)
 ·have hc12 : (((k : Nat) : Int) < ((rows.length : Nat) : Int)) := (of_decide_eq_true hc12)
  refine W_skip (Then_n (W_seq (W_block (W_seq (W_reg ?_)))))
  refine O_v rfl (R_index_pure (H11.sl 0 rfl) (n := rows.length) rfl (j := ((k : Nat) : Int)) (oo := (hrows.o + k * 8)) Try.underlying22 Try.sizeOf44 rfl rfl (by omega) (by omega) rfl ?_)
  refine O_v rfl (R_loadA (cs := [[(.int .i64 (((nth rows k).node).T))], [(.int .i64 (((nth rows k).node).R))], [(.int .i64 (((nth rows k).par).T))], [(.int .i64 (((nth rows k).par).R))], [(.int .i64 (((nth rows k).tm).T))], [(.int .i64 (((nth rows k).tm).R))], [(.string ((nth rows k).name))], [(slV ((nth rows k).hh) ((nth rows k).heads))]]) Try.isAgg44 Try.sizeOf44 rfl rfl ((Sl.elem (H11.sl 0 rfl) (i := k) (by omega) rfl).chunks 0 8 0 (hrows.o + k * 8) _ rfl rfl rfl) ?_)
  refine O_v rfl (C_alloc H11 [[(.int .i64 0)], [(.int .i64 0)], [(.int .i64 0)], [(.int .i64 0)], [(.int .i64 0)], [(.int .i64 0)], [(.string ByteArray.empty)], [(.slice none 0 0)]] Try.zeroValue44 ?_)
  intro b13 w14 hb15 hx16 H17
  refine O_u (C_storeA H17 0 rfl 0 (sub := [[(.int .i64 (((nth rows k).node).T))], [(.int .i64 (((nth rows k).node).R))], [(.int .i64 (((nth rows k).par).T))], [(.int .i64 (((nth rows k).par).R))], [(.int .i64 (((nth rows k).tm).T))], [(.int .i64 (((nth rows k).tm).R))], [(.string ((nth rows k).name))], [(slV ((nth rows k).hh) ((nth rows k).heads))]]) [[(.int .i64 (((nth rows k).node).T))], [(.int .i64 (((nth rows k).node).R))], [(.int .i64 (((nth rows k).par).T))], [(.int .i64 (((nth rows k).par).R))], [(.int .i64 (((nth rows k).tm).T))], [(.int .i64 (((nth rows k).tm).R))], [(.string ((nth rows k).name))], [(slV ((nth rows k).hh) ((nth rows k).heads))]] Try.sizeOf44 rfl rfl rfl rfl ⟨[[(.int .i64 0)], [(.int .i64 0)], [(.int .i64 0)], [(.int .i64 0)], [(.int .i64 0)], [(.int .i64 0)], [(.string ByteArray.empty)], [(.slice none 0 0)]], [], rfl, rfl, rfl⟩ rfl ?_)
  intro w18 hg19 H20
  refine O_nil (Then_n (W_reg ?_))
  refine O_v rfl (R_move (v := (.map (some r2))) rfl ?_)
  refine O_v rfl (R_fieldAddr (off := 0) (oo := 0) Try.underlying44 rfl rfl Try.sizeOf24 rfl rfl ?_)
  refine O_v rfl (R_loadA (cs := [[(.int .i64 (((nth rows k).node).T))], [(.int .i64 (((nth rows k).node).R))]]) Try.isAgg24 Try.sizeOf24 rfl rfl ((boxR_at (H20.getOwn 0 rfl)).chunks 0 2 0 0 _ rfl rfl rfl) ?_)
  refine O_v rfl (R_loadA (cs := [[(.int .i64 (((nth rows k).node).T))], [(.int .i64 (((nth rows k).node).R))], [(.int .i64 (((nth rows k).par).T))], [(.int .i64 (((nth rows k).par).R))], [(.int .i64 (((nth rows k).tm).T))], [(.int .i64 (((nth rows k).tm).R))], [(.string ((nth rows k).name))], [(slV ((nth rows k).hh) ((nth rows k).heads))]]) Try.isAgg44 Try.sizeOf44 rfl rfl ((boxR_at (H20.getOwn 0 rfl)).chunks 0 8 0 0 _ rfl rfl rfl) ?_)
  refine O_u (C_mapUpdate H20 1 rfl (kk := ((nth rows k).node)) (v := (nth rows k)) keyT_Stamp24 Try.underlying56 rfl rfl rfl ?_)
  intro w21 hg22 H23
  refine O_nil (Blk_n (Then_n (W_reg ?_)))
  refine O_v rfl (R_arith (a := ((k : Nat) : Int)) (b := 1) (r0 := ((k : Nat) : Int) + 1) (r := ((k + 1 : Nat) : Int)) rfl rfl rfl (wrapN _ (by omega)) ?_)
  refine O_v rfl (R_move (v := (.int .i64 ((k + 1 : Nat) : Int))) rfl ?_)
  refine O_nil (Then_n ?_)
  have H24 := H23.sub (B' := [mapO r2 (fun x : Stamp => stampV x) rowV (kvPut ((nth rows k).node) (nth rows k) kv)]) (I' := [slI (Old w) rowCh 8 hrows rows]) (List.Sublist.cons _ (List.Sublist.cons_cons _ List.Sublist.slnil)) (List.forall_mem_cons.2 ⟨List.mem_of_getElem? (i := 0) rfl, fun _ h => (nomatch h)⟩)
  refine ⟨_, ?_, (k + 1), (kvPut (nth rows k).node (nth rows k) kv), rfl, (by omega), (by rw [hkv]; exact tableOf_succ (by omega)), _, envL_self ⟨rfl, rfl, rfl, rfl, rfl, trivial⟩, H24⟩
  omega
 ·have hc12 : ¬ (((k : Nat) : Int) < ((rows.length : Nat) : Int)) := (of_decide_eq_false hc12)
  refine W_exit (Then_x (Then_x (Blk_x (Then_n (W_seq (W_reg ?_))))))
  refine O_v rfl (R_move (v := (.map (some r2))) rfl ?_)
  refine O_v rfl (R_assign (v := (.map (some r2))) rfl ?_)
  refine O_nil (Then_n (W_ret ?_))
  refine ret_1 (v := (.map (some r2))) Try.results24 rfl ?_
  have hE : kv = tableOf rows := (by rw [hkv, List.take_of_length_le (by omega)])
  exact ⟨r2, rfl, H11.gr, C_mapNew H11 0 rfl, (by rw [← hE]; exact (H11.getOwn 0 rfl))⟩

end Go.Proofs.Ytiknfldhommmpaa
namespace Go.Proofs.Ytiknfldhommmpaa
open Go
set_option maxRecDepth 100000
set_option linter.unusedVariables false
set_option linter.unusedSimpArgs false
set_option maxHeartbeats 1000000 in
theorem differ_place (rt : Nat) (t : List (Stamp × RowS)) (node : Stamp) (w : World) (Qt : MapQ rt (fun x : Stamp => stampV x) rowV t w) (hl : t.length < 9223372036854775807) :
    Calls Try.prog 25 #[(.map (some rt)), (aggOf (stampCh node))] w (Ret fun v w' => v = .tuple #[(aggOf (stampCh ((placeOf t node).1))), (.bool ((placeOf t node).2))] ∧ Ext w w') := by
 refine calls_W Try.func25 rfl Try.ntmps25 rfl ?_
 have H0 := Ctx.start w nob
 have H1 := H0.addImm' (mapI (Old w) rt (MapQ.lt Qt) (fun x : Stamp => stampV x) rowV t) Qt (fun b hb => ⟨hb, fun _ ho => (nomatch ho)⟩)
 refine W_seq (W_reg ?_)
 refine O_v rfl (C_box H1 [[(.int .i64 node.T)], [(.int .i64 node.R)]] rfl ?_)
 intro b2 w3 hb4 hx5 H6
 refine O_v rfl (C_alloc H6 [[(.int .i64 0)], [(.int .i64 0)]] Try.zeroValue24 ?_)
 intro b7 w8 hb9 hx10 H11
 refine O_v rfl (R_assign (v := (.bool false)) rfl ?_)
 refine O_nil (Then_n (W_seq (W_seq (W_reg ?_))))
 refine O_v rfl (R_move (v := (.map (some rt))) rfl ?_)
 refine O_v rfl (R_len_mapQ Try.underlying56 (H11.getImm 0 rfl) rfl ?_)
 refine O_v rfl (R_arith (a := ((t.length : Nat) : Int)) (b := 1) (r0 := ((t.length : Nat) : Int) + 1) (r := ((t.length + 1 : Nat) : Int)) rfl rfl rfl (wrapN _ (by omega)) ?_)
 refine O_v rfl (R_move (v := (.int .i64 0)) rfl ?_)
 refine O_nil (Then_n (W_block ?_))
 refine W_loop (fun m12 e13 w14 => ∃ (k : Nat), ∃ (nd : Stamp), m12 = t.length + 1 - k ∧ (k ≤ t.length + 1) ∧ (placeGo t (t.length + 1 - k) nd = placeOf t node) ∧ ∃ eb15, e13 = envL [(0, (.map (some rt))), (3, (.pointer (some ⟨b2, 0, none⟩))), (4, (.pointer (some ⟨b7, 0, none⟩))), (10, (.int .i64 ((t.length + 1 : Nat) : Int))), (11, (.int .i64 ((k : Nat) : Int)))] eb15 ∧ Ctx w nob w14 [boxR b7 24 [[(.int .i64 0)], [(.int .i64 0)]], boxR b2 24 [[(.int .i64 nd.T)], [(.int .i64 nd.R)]]] [mapI (Old w) rt (MapQ.lt Qt) (fun x : Stamp => stampV x) rowV t]) _ ⟨0, node, rfl, (by omega), rfl, _, envL_self ⟨rfl, rfl, rfl, rfl, rfl, trivial⟩, H11⟩ ?_
 rintro m12 _ w14 ⟨k, nd, rfl, hk, hp, eb15, rfl, H16⟩
 refine W_seq (W_reg ?_)
 refine O_v rfl (R_cmp (a := ((k : Nat) : Int)) (b := ((t.length + 1 : Nat) : Int)) (r := (decide (((k : Nat) : Int) < ((t.length + 1 : Nat) : Int)))) rfl rfl rfl ?_)
 refine O_nil (Then_n (W_seq ?_))
 refine W_cond (t := (decide (((k : Nat) : Int) < ((t.length + 1 : Nat) : Int)))) rfl (fun hc17 => ?_) (fun hc17 => ?_)
 ·have hc17 : (((k : Nat) : Int) < ((t.length + 1 : Nat) : Int)) := (of_decide_eq_true hc17)
  refine W_skip (Then_n (W_seq (W_block (W_seq (W_seq (W_reg ?_))))))
  refine O_v rfl (R_fieldAddr (off := 0) (oo := 0) Try.underlying24 rfl rfl Try.sizeOf2 rfl rfl ?_)
  refine O_v rfl (R_load1 (v := (.int .i64 nd.T)) Try.isAgg2 rfl ((boxR_at (H16.getOwn 1 rfl)).chunks 0 1 0 0 _ rfl rfl rfl) ?_)
  refine O_v rfl (R_cmp (a := nd.T) (b := 0) (r := (decide (nd.T = 0))) rfl rfl rfl ?_)
  refine O_nil (Then_n ?_)
  refine W_cond (t := (decide (nd.T = 0))) rfl (fun hc18 => ?_) (fun hc18 => ?_)
  ·have hc18 : (nd.T = 0) := (of_decide_eq_true hc18)
   refine W_seq (W_reg ?_)
   refine O_v rfl (R_loadA (cs := [[(.int .i64 nd.T)], [(.int .i64 nd.R)]]) Try.isAgg24 Try.sizeOf24 rfl rfl ((boxR_at (H16.getOwn 1 rfl)).chunks 0 2 0 0 _ rfl rfl rfl) ?_)
   refine O_u (C_storeA H16 0 rfl 0 (sub := [[(.int .i64 nd.T)], [(.int .i64 nd.R)]]) [[(.int .i64 nd.T)], [(.int .i64 nd.R)]] Try.sizeOf24 rfl rfl rfl rfl ⟨[[(.int .i64 0)], [(.int .i64 0)]], [], rfl, rfl, rfl⟩ rfl ?_)
   intro w19 hg20 H21
   refine O_v rfl (R_assign (v := (.bool true)) rfl ?_)
   refine O_nil (Then_n (W_ret (Then_r (Blk_r (Then_r (Then_r (Blk_r (Then_r ?_))))))))
   refine ret_ct (v := (.bool true)) Try.results25 (inMem (cs := [[(.int .i64 nd.T)], [(.int .i64 nd.R)]]) rfl Try.isAgg24 Try.sizeOf24 rfl (boxR_at (H21.getOwn 0 rfl))) rfl ?_
   exact ⟨(by rw [placeGo_ret hp (by omega) (by assumption)]), H21.gr⟩
  ·have hc18 : ¬ (nd.T = 0) := (of_decide_eq_false hc18)
   refine W_skip (Then_n (W_seq (W_reg ?_)))
   refine O_v rfl (R_move (v := (.map (some rt))) rfl ?_)
   refine O_v rfl (R_loadA (cs := [[(.int .i64 nd.T)], [(.int .i64 nd.R)]]) Try.isAgg24 Try.sizeOf24 rfl rfl ((boxR_at (H16.getOwn 1 rfl)).chunks 0 2 0 0 _ rfl rfl rfl) ?_)
   refine O_v rfl (R_lookupOk (kk := nd) (z := zeroRow) keyT_Stamp24 Try.underlying56 Try.zeroValue44 (H16.getImm 0 rfl) rfl rfl ?_)
   refine O_v rfl (R_move (v := (.tuple #[(aggOf (rowCh ((kvGet t nd).getD zeroRow))), (.bool ((kvGet t nd).isSome))])) rfl ?_)
   refine O_v rfl (R_extract (v := (aggOf (rowCh ((kvGet t nd).getD zeroRow)))) rfl rfl ?_)
   refine O_v rfl (R_extract (v := (.bool ((kvGet t nd).isSome))) rfl rfl ?_)
   refine O_v rfl (C_alloc H16 [[(.int .i64 0)], [(.int .i64 0)], [(.int .i64 0)], [(.int .i64 0)], [(.int .i64 0)], [(.int .i64 0)], [(.string ByteArray.empty)], [(.slice none 0 0)]] Try.zeroValue44 ?_)
   intro b22 w23 hb24 hx25 H26
   refine O_u (C_storeA H26 0 rfl 0 (sub := [[(.int .i64 ((((kvGet t nd).getD zeroRow).node).T))], [(.int .i64 ((((kvGet t nd).getD zeroRow).node).R))], [(.int .i64 ((((kvGet t nd).getD zeroRow).par).T))], [(.int .i64 ((((kvGet t nd).getD zeroRow).par).R))], [(.int .i64 ((((kvGet t nd).getD zeroRow).tm).T))], [(.int .i64 ((((kvGet t nd).getD zeroRow).tm).R))], [(.string (((kvGet t nd).getD zeroRow).name))], [(slV (((kvGet t nd).getD zeroRow).hh) (((kvGet t nd).getD zeroRow).heads))]]) [[(.int .i64 ((((kvGet t nd).getD zeroRow).node).T))], [(.int .i64 ((((kvGet t nd).getD zeroRow).node).R))], [(.int .i64 ((((kvGet t nd).getD zeroRow).par).T))], [(.int .i64 ((((kvGet t nd).getD zeroRow).par).R))], [(.int .i64 ((((kvGet t nd).getD zeroRow).tm).T))], [(.int .i64 ((((kvGet t nd).getD zeroRow).tm).R))], [(.string (((kvGet t nd).getD zeroRow).name))], [(slV (((kvGet t nd).getD zeroRow).hh) (((kvGet t nd).getD zeroRow).heads))]] Try.sizeOf44 rfl rfl rfl rfl ⟨[[(.int .i64 0)], [(.int .i64 0)], [(.int .i64 0)], [(.int .i64 0)], [(.int .i64 0)], [(.int .i64 0)], [(.string ByteArray.empty)], [(.slice none 0 0)]], [], rfl, rfl, rfl⟩ rfl ?_)
   intro w27 hg28 H29
   refine O_v rfl (R_assign (v := (.bool ((kvGet t nd).isSome))) rfl ?_)
   refine O_nil (Then_n (W_seq (W_seq (W_reg ?_))))
   refine O_v rfl (R_move (v := (.bool ((kvGet t nd).isSome))) rfl ?_)
   refine O_v rfl (R_not rfl ?_)
   refine O_nil (Then_n ?_)
   refine W_cond (t := (!((kvGet t nd).isSome))) rfl (fun hc30 => ?_) (fun hc30 => ?_)
   ·have hc30 : ((kvGet t nd).isSome) = false := (notT hc30)
    refine W_exit (Then_x ?_)
    refine Blk_o rfl ?_
    refine Then_x (Then_x (Blk_x (Then_n (W_seq (W_reg ?_)))))
    refine O_v rfl (R_buildL (vs := []) (v := aggOf [[(.int .i64 0)], [(.int .i64 0)]]) rfl (fun _ => by kernel_rfl) ?_)
    refine O_u (C_storeA H29 1 rfl 0 (sub := [[(.int .i64 0)], [(.int .i64 0)]]) [[(.int .i64 0)], [(.int .i64 0)]] Try.sizeOf24 rfl rfl rfl rfl ⟨[[(.int .i64 0)], [(.int .i64 0)]], [], rfl, rfl, rfl⟩ rfl ?_)
    intro w31 hg32 H33
    refine O_v rfl (R_assign (v := (.bool false)) rfl ?_)
    refine O_nil (Then_n (W_ret ?_))
    refine ret_ct (v := (.bool false)) Try.results25 (inMem (cs := [[(.int .i64 0)], [(.int .i64 0)]]) rfl Try.isAgg24 Try.sizeOf24 rfl (boxR_at (H33.getOwn 1 rfl))) rfl ?_
    exact ⟨(by rw [placeGo_none hp (by omega) (by assumption) (by assumption)]), H33.gr⟩
   ·have hc30 : ((kvGet t nd).isSome) = true := (notF hc30)
    refine W_skip (Then_n (W_reg ?_))
    refine O_v rfl (R_fieldAddr (off := 2) (oo := 2) Try.underlying44 rfl rfl Try.sizeOf24 rfl rfl ?_)
    refine O_v rfl (R_loadA (cs := [[(.int .i64 ((((kvGet t nd).getD zeroRow).par).T))], [(.int .i64 ((((kvGet t nd).getD zeroRow).par).R))]]) Try.isAgg24 Try.sizeOf24 rfl rfl ((boxR_at (H29.getOwn 0 rfl)).chunks 2 2 2 2 _ rfl rfl rfl) ?_)
    refine O_u (C_storeA H29 2 rfl 0 (sub := [[(.int .i64 ((((kvGet t nd).getD zeroRow).par).T))], [(.int .i64 ((((kvGet t nd).getD zeroRow).par).R))]]) [[(.int .i64 ((((kvGet t nd).getD zeroRow).par).T))], [(.int .i64 ((((kvGet t nd).getD zeroRow).par).R))]] Try.sizeOf24 rfl rfl rfl rfl ⟨[[(.int .i64 nd.T)], [(.int .i64 nd.R)]], [], rfl, rfl, rfl⟩ rfl ?_)
    intro w34 hg35 H36
    refine O_nil (Blk_n (Then_n (W_reg ?_)))
    refine O_v rfl (R_arith (a := ((k : Nat) : Int)) (b := 1) (r0 := ((k : Nat) : Int) + 1) (r := ((k + 1 : Nat) : Int)) rfl rfl rfl (wrapN _ (by omega)) ?_)
    refine O_v rfl (R_move (v := (.int .i64 ((k + 1 : Nat) : Int))) rfl ?_)
    refine O_nil (Then_n ?_)
    have H37 := H36.sub (B' := [boxR b7 24 [[(.int .i64 0)], [(.int .i64 0)]], boxR b2 24 [[(.int .i64 ((((kvGet t nd).getD zeroRow).par).T))], [(.int .i64 ((((kvGet t nd).getD zeroRow).par).R))]]]) (I' := [mapI (Old w) rt (MapQ.lt Qt) (fun x : Stamp => stampV x) rowV t]) (List.Sublist.cons _ (List.Sublist.cons_cons _ (List.Sublist.cons_cons _ List.Sublist.slnil))) (List.forall_mem_cons.2 ⟨List.mem_of_getElem? (i := 0) rfl, fun _ h => (nomatch h)⟩)
    refine ⟨_, ?_, (k + 1), (((kvGet t nd).getD zeroRow).par), rfl, (by omega), (placeGo_next hp (by omega) (by assumption) (by assumption)), _, envL_self ⟨rfl, rfl, rfl, rfl, rfl, trivial⟩, H37⟩
    omega
 ·have hc17 : ¬ (((k : Nat) : Int) < ((t.length + 1 : Nat) : Int)) := (of_decide_eq_false hc17)
  refine W_exit (Then_x (Then_x (Blk_x (Then_n (W_seq (W_reg ?_))))))
  refine O_v rfl (R_buildL (vs := []) (v := aggOf [[(.int .i64 0)], [(.int .i64 0)]]) rfl (fun _ => by kernel_rfl) ?_)
  refine O_u (C_storeA H16 0 rfl 0 (sub := [[(.int .i64 0)], [(.int .i64 0)]]) [[(.int .i64 0)], [(.int .i64 0)]] Try.sizeOf24 rfl rfl rfl rfl ⟨[[(.int .i64 0)], [(.int .i64 0)]], [], rfl, rfl, rfl⟩ rfl ?_)
  intro w38 hg39 H40
  refine O_v rfl (R_assign (v := (.bool false)) rfl ?_)
  refine O_nil (Then_n (W_ret ?_))
  refine ret_ct (v := (.bool false)) Try.results25 (inMem (cs := [[(.int .i64 0)], [(.int .i64 0)]]) rfl Try.isAgg24 Try.sizeOf24 rfl (boxR_at (H40.getOwn 0 rfl))) rfl ?_
  exact ⟨(by rw [placeGo_end hp (by omega)]), H40.gr⟩

end Go.Proofs.Ytiknfldhommmpaa
namespace Go.Proofs.Ytiknfldhommmpaa
open Go
set_option maxRecDepth 100000
set_option linter.unusedVariables false
set_option linter.unusedSimpArgs false
set_option maxHeartbeats 1000000 in
theorem differ_trash  (w : World) :
    Calls Try.prog 26 #[] w (Ret fun v w' => v = (aggOf (stampCh (⟨0, 1⟩ : Stamp))) ∧ Ext w w') := by
 refine calls_W Try.func26 rfl Try.ntmps26 rfl ?_
 have H0 := Ctx.start w nob
 refine W_seq (W_reg ?_)
 refine O_v rfl (C_alloc H0 [[(.int .i64 0)], [(.int .i64 0)]] Try.zeroValue24 ?_)
 intro b1 w2 hb3 hx4 H5
 refine O_nil (Then_n (W_seq (W_reg ?_)))
 refine O_v rfl (R_buildL (vs := [(1, (.int .i64 1))]) (v := aggOf [[(.int .i64 0)], [(.int .i64 1)]]) rfl (fun _ => by kernel_rfl) ?_)
 refine O_u (C_storeA H5 0 rfl 0 (sub := [[(.int .i64 0)], [(.int .i64 1)]]) [[(.int .i64 0)], [(.int .i64 1)]] Try.sizeOf24 rfl rfl rfl rfl ⟨[[(.int .i64 0)], [(.int .i64 0)]], [], rfl, rfl, rfl⟩ rfl ?_)
 intro w6 hg7 H8
 refine O_nil (Then_n (W_ret ?_))
 refine ret_c Try.results26 (inMem (cs := [[(.int .i64 0)], [(.int .i64 1)]]) rfl Try.isAgg24 Try.sizeOf24 rfl (boxR_at (H8.getOwn 0 rfl))) ?_
 exact ⟨rfl, H8.gr⟩

end Go.Proofs.Ytiknfldhommmpaa
namespace Go.Proofs.Ytiknfldhommmpaa
open Go
set_option maxRecDepth 100000
set_option linter.unusedVariables false
set_option linter.unusedSimpArgs false
theorem differ_Alive_c24 : callable Try.prog 24 = true := by kernel_rfl
theorem differ_Alive_c25 : callable Try.prog 25 = true := by kernel_rfl
theorem differ_Alive_c26 : callable Try.prog 26 = true := by kernel_rfl
theorem differ_Alive_c27 : callable Try.prog 27 = true := by kernel_rfl
set_option maxHeartbeats 1000000 in
theorem differ_Alive (hrows : SlH) (rows : List RowS) (w : World) (Srows : Sl (Old w) rowCh 8 hrows rows w) (Drows_heads : ∀ x ∈ rows, Sl (Old w) headCh 34 x.hh x.heads w) (hl : rows.length ≤ 1048576) (hh : ∀ x ∈ rows, x.heads.length ≤ 1048576) :
    Calls Try.prog 8 #[(slV hrows rows)] w (Ret fun v w' => ∃ h l S, v = slV h l ∧ Ext w w' ∧ OwnS w.heap.size 44 8 rowCh h l w' ∧ (∀ b, S b → w.heap.size ≤ b ∧ b < w'.heap.size ∧ (slV h l).ownBlock ≠ some b) ∧ (∀ x ∈ l, Sl S headCh 34 x.hh x.heads w') ∧ (l.map RowS.core = (aliveOf rows).map RowS.core)) := by
 refine calls_W Try.func8 rfl Try.ntmps8 rfl ?_
 have H0 := Ctx.start w nob
 have H1 := H0.addSl _ Srows (fun b hb => ⟨hb, fun _ ho => (nomatch ho)⟩)
 have LSrows := Srows.len
 have H2 := H1.addImm' (deepI (Old w) headCh 34 (fun x : RowS => x.hh) (fun x : RowS => x.heads) rows) Drows_heads (fun b hb => ⟨hb, fun _ ho => (nomatch ho)⟩)
 refine W_seq (W_reg ?_)
 refine O_v rfl (R_assign (v := (.slice none 0 0)) rfl ?_)
 refine O_nil (Then_n (W_seq (W_reg ?_)))
 refine O_v rfl (R_move (v := (slV hrows rows)) rfl ?_)
 refine O_v rfl (R_callL (vs := [(slV hrows rows)]) differ_Alive_c24 rfl rfl ((differ_of hrows rows w (H2.slOld 1 rfl)).ret ?_))
 rintro _ w4 ⟨r3, rfl, hx5, hr6, hm7⟩
 have H8 := C_addMap H2 hx5 hr6 hm7
 refine O_v rfl (R_assign (v := (.map (some r3))) rfl ?_)
 refine O_nil (Then_n (W_seq (W_reg ?_)))
 refine O_v rfl (R_assign (v := (.slice none 0 0)) rfl ?_)
 refine O_nil (Then_n (W_seq (W_seq (W_reg ?_))))
 refine O_v rfl (R_move (v := (slV hrows rows)) rfl ?_)
 refine O_v rfl (R_len_slice (a := hrows.a) (n := rows.length) (c := hrows.c) Try.underlying22 rfl ?_)
 refine O_v rfl (R_move (v := (.int .i64 0)) rfl ?_)
 refine O_nil (Then_n (W_block ?_))
 have H9 := H8.addNil 44 8 rowCh
 have H10 := H9.deepNil headCh 34 (fun x : RowS => x.hh) (fun x : RowS => x.heads)
 refine W_loop (fun m12 e13 w14 => ∃ (k : Nat), ∃ (acc : List RowS), ∃ (S : Nat → Prop), ∃ (h11 : SlH), m12 = rows.length - k ∧ (k ≤ rows.length) ∧ (acc.map RowS.core = (aliveOfTo rows k).map RowS.core) ∧ (acc.length ≤ k) ∧ (∀ b, S b → w.heap.size ≤ b) ∧ ∃ eb15, e13 = envL [(2, (.slice none 0 0)), (3, (.map (some r3))), (4, (slV h11 acc)), (11, (slV hrows rows)), (12, (.int .i64 ((rows.length : Nat) : Int))), (13, (.int .i64 ((k : Nat) : Int)))] eb15 ∧ Ctx w nob w14 [rowR 44 8 rowCh h11 acc, mapO r3 (fun x : Stamp => stampV x) rowV (tableOf rows)] [deepI S headCh 34 (fun x : RowS => x.hh) (fun x : RowS => x.heads) acc, deepI (Old w) headCh 34 (fun x : RowS => x.hh) (fun x : RowS => x.heads) rows, slI (Old w) rowCh 8 hrows rows]) _ ⟨0, [], nob, nilH, rfl, (by omega), rfl, (by simp), (fun _ h => h.elim), _, envL_self ⟨rfl, rfl, rfl, rfl, rfl, rfl, trivial⟩, H10⟩ ?_
 rintro m12 _ w14 ⟨k, acc, S, h11, rfl, hk, ha, hal, hS, eb15, rfl, H16⟩
 refine W_seq (W_reg ?_)
 refine O_v rfl (R_cmp (a := ((k : Nat) : Int)) (b := ((rows.length : Nat) : Int)) (r := (decide (((k : Nat) : Int) < ((rows.length : Nat) : Int)))) rfl rfl rfl ?_)
 refine O_nil (Then_n (W_seq ?_))
 refine W_cond (t := (decide (((k : Nat) : Int) < ((rows.length : Nat) : Int)))) rfl (fun hc17 => ?_) (fun hc17 => ?_)
 ·have hc17 : (((k : Nat) : Int) < ((rows.length : Nat) : Int)) := (of_decide_eq_true hc17)
  refine W_skip (Then_n (W_seq (W_block (W_seq (W_reg ?_)))))
  refine O_v rfl (R_index_pure (H16.sl 2 rfl) (n := rows.length) rfl (j := ((k : Nat) : Int)) (oo := (hrows.o + k * 8)) Try.underlying22 Try.sizeOf44 rfl rfl (by omega) (by omega) rfl ?_)
  refine O_v rfl (R_loadA (cs := [[(.int .i64 (((nth rows k).node).T))], [(.int .i64 (((nth rows k).node).R))], [(.int .i64 (((nth rows k).par).T))], [(.int .i64 (((nth rows k).par).R))], [(.int .i64 (((nth rows k).tm).T))], [(.int .i64 (((nth rows k).tm).R))], [(.string ((nth rows k).name))], [(slV ((nth rows k).hh) ((nth rows k).heads))]]) Try.isAgg44 Try.sizeOf44 rfl rfl ((Sl.elem (H16.sl 2 rfl) (i := k) (by omega) rfl).chunks 0 8 0 (hrows.o + k * 8) _ rfl rfl rfl) ?_)
  refine O_v rfl (C_alloc H16 [[(.int .i64 0)], [(.int .i64 0)], [(.int .i64 0)], [(.int .i64 0)], [(.int .i64 0)], [(.int .i64 0)], [(.string ByteArray.empty)], [(.slice none 0 0)]] Try.zeroValue44 ?_)
  intro b18 w19 hb20 hx21 H22
  refine O_u (C_storeA H22 0 rfl 0 (sub := [[(.int .i64 (((nth rows k).node).T))], [(.int .i64 (((nth rows k).node).R))], [(.int .i64 (((nth rows k).par).T))], [(.int .i64 (((nth rows k).par).R))], [(.int .i64 (((nth rows k).tm).T))], [(.int .i64 (((nth rows k).tm).R))], [(.string ((nth rows k).name))], [(slV ((nth rows k).hh) ((nth rows k).heads))]]) [[(.int .i64 (((nth rows k).node).T))], [(.int .i64 (((nth rows k).node).R))], [(.int .i64 (((nth rows k).par).T))], [(.int .i64 (((nth rows k).par).R))], [(.int .i64 (((nth rows k).tm).T))], [(.int .i64 (((nth rows k).tm).R))], [(.string ((nth rows k).name))], [(slV ((nth rows k).hh) ((nth rows k).heads))]] Try.sizeOf44 rfl rfl rfl rfl ⟨[[(.int .i64 0)], [(.int .i64 0)], [(.int .i64 0)], [(.int .i64 0)], [(.int .i64 0)], [(.int .i64 0)], [(.string ByteArray.empty)], [(.slice none 0 0)]], [], rfl, rfl, rfl⟩ rfl ?_)
  intro w23 hg24 H25
  refine O_nil (Then_n (W_seq (W_seq (W_reg ?_))))
  refine O_v rfl (R_move (v := (.map (some r3))) rfl ?_)
  refine O_v rfl (R_fieldAddr (off := 0) (oo := 0) Try.underlying44 rfl rfl Try.sizeOf24 rfl rfl ?_)
  refine O_v rfl (R_loadA (cs := [[(.int .i64 (((nth rows k).node).T))], [(.int .i64 (((nth rows k).node).R))]]) Try.isAgg24 Try.sizeOf24 rfl rfl ((boxR_at (H25.getOwn 0 rfl)).chunks 0 2 0 0 _ rfl rfl rfl) ?_)
  refine O_v rfl (R_callL (vs := [(.map (some r3)), (aggOf (stampCh ((nth rows k).node)))]) differ_Alive_c25 rfl rfl ((differ_place r3 (tableOf rows) ((nth rows k).node) w23 (H25.getOwn 2 rfl) (by have := tableOf_len rows; omega)).ret ?_))
  rintro _ w26 ⟨rfl, hx27⟩
  have H28 := H25.ext hx27
  refine O_v rfl (R_move (v := (.tuple #[(aggOf (stampCh ((placeOf (tableOf rows) ((nth rows k).node)).1))), (.bool ((placeOf (tableOf rows) ((nth rows k).node)).2))])) rfl ?_)
  refine O_v rfl (R_extract (v := (aggOf (stampCh ((placeOf (tableOf rows) ((nth rows k).node)).1)))) rfl rfl ?_)
  refine O_v rfl (R_extract (v := (.bool ((placeOf (tableOf rows) ((nth rows k).node)).2))) rfl rfl ?_)
  refine O_v rfl (C_alloc H28 [[(.int .i64 0)], [(.int .i64 0)]] Try.zeroValue24 ?_)
  intro b29 w30 hb31 hx32 H33
  refine O_u (C_storeA H33 0 rfl 0 (sub := [[(.int .i64 (((placeOf (tableOf rows) ((nth rows k).node)).1).T))], [(.int .i64 (((placeOf (tableOf rows) ((nth rows k).node)).1).R))]]) [[(.int .i64 (((placeOf (tableOf rows) ((nth rows k).node)).1).T))], [(.int .i64 (((placeOf (tableOf rows) ((nth rows k).node)).1).R))]] Try.sizeOf24 rfl rfl rfl rfl ⟨[[(.int .i64 0)], [(.int .i64 0)]], [], rfl, rfl, rfl⟩ rfl ?_)
  intro w34 hg35 H36
  refine O_v rfl (R_assign (v := (.bool ((placeOf (tableOf rows) ((nth rows k).node)).2))) rfl ?_)
  refine O_nil (Then_n (W_seq ?_))
  refine W_rgd TryMixed [(0, .q false), (1, .q false), (2, .q false), (3, .q false), (4, .q false), (5, .q false)] (by kernel_rfl) ?_
  refine Lx_q (i := 0) rfl rfl _ (fun v37 hv38 => R_move (v := (.bool ((placeOf (tableOf rows) ((nth rows k).node)).2))) rfl ⟨rfl, Gr.refl _ _⟩) ?_
  refine Lx_q (i := 1) rfl rfl _ (fun v39 hv40 => R_move (v := (.bool ((placeOf (tableOf rows) ((nth rows k).node)).2))) rfl ⟨rfl, Gr.refl _ _⟩) ?_
  refine Lx_qg (i := 2) true ((placeOf (tableOf rows) ((nth rows k).node)).2) rfl rfl rfl rfl rfl ((placeOf (tableOf rows) ((nth rows k).node)).2) ga_t _ (fun hA v41 hv42 => R_loadA (cs := [[(.int .i64 (((placeOf (tableOf rows) ((nth rows k).node)).1).T))], [(.int .i64 (((placeOf (tableOf rows) ((nth rows k).node)).1).R))]]) Try.isAgg24 Try.sizeOf24 rfl rfl ((boxR_at ((H36.ext hv42).getOwn 0 rfl)).chunks 0 2 0 0 _ rfl rfl rfl) ⟨rfl, Gr.refl _ _⟩) ?_
  refine Lx_qg (i := 3) true ((placeOf (tableOf rows) ((nth rows k).node)).2) rfl rfl rfl rfl rfl ((placeOf (tableOf rows) ((nth rows k).node)).2) ga_t (aggOf (stampCh (⟨0, 1⟩ : Stamp))) (fun hA v43 hv44 => R_callL (vs := []) differ_Alive_c26 rfl rfl (differ_trash  v43 )) ?_
  refine Lx_qg (i := 4) true ((placeOf (tableOf rows) ((nth rows k).node)).2) rfl rfl rfl rfl rfl ((placeOf (tableOf rows) ((nth rows k).node)).2) ga_t _ (fun hA v45 hv46 => R_eqv (a := ((placeOf (tableOf rows) ((nth rows k).node)).1)) (b := (⟨0, 1⟩ : Stamp)) eqv_Stamp24 rfl Try.eqGuardType24 (gv_t hA) (gv_t hA) ⟨rfl, Gr.refl _ _⟩) ?_
  refine Lx_q (i := 5) rfl rfl _ (fun v47 hv48 => R_pick (t := ((placeOf (tableOf rows) ((nth rows k).node)).2)) (v := (.bool (((placeOf (tableOf rows) ((nth rows k).node)).2) && (decide (((placeOf (tableOf rows) ((nth rows k).node)).1) = (⟨0, 1⟩ : Stamp)))))) rfl pk_and ⟨rfl, Gr.refl _ _⟩) ?_
  refine Lx_nil (fun w49 hw50 => ?_)
  have H51 := H36.ext hw50
  refine Then_n ?_
  refine W_cond (t := (((placeOf (tableOf rows) ((nth rows k).node)).2) && (decide (((placeOf (tableOf rows) ((nth rows k).node)).1) = (⟨0, 1⟩ : Stamp))))) rfl (fun hc52 => ?_) (fun hc52 => ?_)
  ·have hc52 : (((placeOf (tableOf rows) ((nth rows k).node)).2) = true ∧ (((placeOf (tableOf rows) ((nth rows k).node)).1) = (⟨0, 1⟩ : Stamp))) := (And.imp (fun h => h) (fun h => (of_decide_eq_true h)) (andT hc52))
   refine W_exit (Then_x (Blk_x (Then_n (W_reg ?_))))
   refine O_v rfl (R_arith (a := ((k : Nat) : Int)) (b := 1) (r0 := ((k : Nat) : Int) + 1) (r := ((k + 1 : Nat) : Int)) rfl rfl rfl (wrapN _ (by omega)) ?_)
   refine O_v rfl (R_move (v := (.int .i64 ((k + 1 : Nat) : Int))) rfl ?_)
   refine O_nil (Then_n ?_)
   have H53 := H51.sub (B' := [rowR 44 8 rowCh h11 acc, mapO r3 (fun x : Stamp => stampV x) rowV (tableOf rows)]) (I' := [deepI S headCh 34 (fun x : RowS => x.hh) (fun x : RowS => x.heads) acc, deepI (Old w) headCh 34 (fun x : RowS => x.hh) (fun x : RowS => x.heads) rows, slI (Old w) rowCh 8 hrows rows]) (List.Sublist.cons _ (List.Sublist.cons _ (List.Sublist.cons_cons _ (List.Sublist.cons_cons _ List.Sublist.slnil)))) (List.forall_mem_cons.2 ⟨List.mem_of_getElem? (i := 0) rfl, List.forall_mem_cons.2 ⟨List.mem_of_getElem? (i := 1) rfl, List.forall_mem_cons.2 ⟨List.mem_of_getElem? (i := 2) rfl, fun _ h => (nomatch h)⟩⟩⟩)
   refine ⟨_, ?_, (k + 1), acc, S, h11, rfl, (by omega), (aliveOfTo_out ha (by omega) (by assumption)), (by omega), hS, _, envL_self ⟨rfl, rfl, rfl, rfl, rfl, rfl, trivial⟩, H53⟩
   omega
  ·have hc52 : (((placeOf (tableOf rows) ((nth rows k).node)).2) = false ∨ ¬ (((placeOf (tableOf rows) ((nth rows k).node)).1) = (⟨0, 1⟩ : Stamp))) := (Or.imp (fun h => h) (fun h => (of_decide_eq_false h)) (andF hc52))
   refine W_skip (Then_n (W_seq (W_reg ?_)))
   refine O_v rfl (R_fieldAddr (off := 7) (oo := 7) Try.underlying44 rfl rfl Try.sizeOf42 rfl rfl ?_)
   refine O_v rfl (R_load1 (v := (slV ((nth rows k).hh) ((nth rows k).heads))) Try.isAgg42 rfl ((boxR_at (H51.getOwn 1 rfl)).chunks 7 1 7 7 _ rfl rfl rfl) ?_)
   refine O_v rfl (R_callL (vs := [(slV ((nth rows k).hh) ((nth rows k).heads))]) differ_Alive_c27 rfl rfl ((Clone_Head ((nth rows k).hh) ((nth rows k).heads) w49 (H51.deepOld 1 rfl _ (nth_mem (by omega))) (by have := hh _ (nth_mem (l := rows) (i := k) (by omega)); omega)).ret ?_))
   rintro _ w55 ⟨h54, rfl, hx56, ho57⟩
   have H58 := H51.addRow hx56 ho57
   refine O_v rfl (R_fieldAddr (off := 7) (oo := 7) Try.underlying44 rfl rfl Try.sizeOf42 rfl rfl ?_)
   refine O_u (C_store1 H58 2 rfl 7 (v := (slV h54 ((nth rows k).heads))) [[(.int .i64 (((nth rows k).node).T))], [(.int .i64 (((nth rows k).node).R))], [(.int .i64 (((nth rows k).par).T))], [(.int .i64 (((nth rows k).par).R))], [(.int .i64 (((nth rows k).tm).T))], [(.int .i64 (((nth rows k).tm).R))], [(.string ((nth rows k).name))], [(slV h54 ((nth rows k).heads))]] Try.sizeOf42 rfl rfl rfl rfl rfl rfl rfl ?_)
   intro w59 hg60 H61
   refine O_nil (Then_n (W_reg ?_))
   refine O_v rfl (R_move (v := (slV h11 acc)) rfl ?_)
   refine O_v rfl (R_loadA (cs := [[(.int .i64 (((nth rows k).node).T))], [(.int .i64 (((nth rows k).node).R))], [(.int .i64 (((nth rows k).par).T))], [(.int .i64 (((nth rows k).par).R))], [(.int .i64 (((nth rows k).tm).T))], [(.int .i64 (((nth rows k).tm).R))], [(.string ((nth rows k).name))], [(slV h54 ((nth rows k).heads))]]) Try.isAgg44 Try.sizeOf44 rfl rfl ((boxR_at (H61.getOwn 2 rfl)).chunks 0 8 0 0 _ rfl rfl rfl) ?_)
   refine O_v rfl (C_buildSliceL H61 (enc := rowCh) (val := rowV) ([({ node := ((nth rows k).node), par := ((nth rows k).par), tm := ((nth rows k).tm), name := (nth rows k).name, heads := ((nth rows k).heads), hh := h54 } : RowS)] : List RowS) Try.underlying22 Try.sizeOf44 Try.zeroValue44 rfl (by decide) (fun _ => rfl) (fun _ => rfl) rfl rfl (by decide) ?_)
   intro b62 w63 hb64 hx65 H66
   refine O_v rfl (C_append H66 4 rfl (bytes := 88) (l := acc) (ys := ([({ node := ((nth rows k).node), par := ((nth rows k).par), tm := ((nth rows k).tm), name := (nth rows k).name, heads := ((nth rows k).heads), hh := h54 } : RowS)] : List RowS)) Try.underlying22 rfl rfl rfl rfl rfl (by decide) rfl rfl (OwnS.sl (H66.getOwn 0 rfl) (fun _ => rfl)) (fun _ => rfl) (fun _ => rfl) (by simp only [List.length_append, List.length_cons, List.length_nil]; omega) (by decide) ?_)
   intro h67 w68 hg69 H70
   refine O_v rfl (R_assign (v := (slV h67 (acc ++ ([({ node := ((nth rows k).node), par := ((nth rows k).par), tm := ((nth rows k).tm), name := (nth rows k).name, heads := ((nth rows k).heads), hh := h54 } : RowS)] : List RowS)))) rfl ?_)
   refine O_nil (Blk_n (Then_n (W_reg ?_)))
   refine O_v rfl (R_arith (a := ((k : Nat) : Int)) (b := 1) (r0 := ((k : Nat) : Int) + 1) (r := ((k + 1 : Nat) : Int)) rfl rfl rfl (wrapN _ (by omega)) ?_)
   refine O_v rfl (R_move (v := (.int .i64 ((k + 1 : Nat) : Int))) rfl ?_)
   refine O_nil (Then_n ?_)
   have H71 := H70.freeze 1 rfl (fun _ => rfl)
   have H72 := H71.deepSnoc 1 rfl 0 rfl (({ node := ((nth rows k).node), par := ((nth rows k).par), tm := ((nth rows k).tm), name := (nth rows k).name, heads := ((nth rows k).heads), hh := h54 } : RowS)) rfl rfl
   have H73 := H72.sub (B' := [rowR 44 8 rowCh h67 (acc ++ ([({ node := ((nth rows k).node), par := ((nth rows k).par), tm := ((nth rows k).tm), name := (nth rows k).name, heads := ((nth rows k).heads), hh := h54 } : RowS)] : List RowS)), mapO r3 (fun x : Stamp => stampV x) rowV (tableOf rows)]) (I' := [deepI (fun b => S b ∨ (fun b => (slV h54 ((nth rows k).heads)).ownBlock = some b) b) headCh 34 (fun x : RowS => x.hh) (fun x : RowS => x.heads) (acc ++ ([({ node := ((nth rows k).node), par := ((nth rows k).par), tm := ((nth rows k).tm), name := (nth rows k).name, heads := ((nth rows k).heads), hh := h54 } : RowS)] : List RowS)), deepI (Old w) headCh 34 (fun x : RowS => x.hh) (fun x : RowS => x.heads) rows, slI (Old w) rowCh 8 hrows rows]) (List.Sublist.cons _ (List.Sublist.cons _ (List.Sublist.cons _ (List.Sublist.cons_cons _ (List.Sublist.cons_cons _ List.Sublist.slnil))))) (List.forall_mem_cons.2 ⟨List.mem_of_getElem? (i := 0) rfl, List.forall_mem_cons.2 ⟨List.mem_of_getElem? (i := 3) rfl, List.forall_mem_cons.2 ⟨List.mem_of_getElem? (i := 4) rfl, fun _ h => (nomatch h)⟩⟩⟩)
   refine ⟨_, ?_, (k + 1), (acc ++ ([({ node := ((nth rows k).node), par := ((nth rows k).par), tm := ((nth rows k).tm), name := (nth rows k).name, heads := ((nth rows k).heads), hh := h54 } : RowS)] : List RowS)), (fun b => S b ∨ (fun b => (slV h54 ((nth rows k).heads)).ownBlock = some b) b), h67, rfl, (by omega), (aliveOfTo_in ha (by omega) (by assumption) rfl), (by simp only [List.length_append, List.length_cons, List.length_nil]; omega), (fun b hb => hb.elim (hS b) (H70.newRow 1 rfl b)), _, envL_self ⟨rfl, rfl, rfl, rfl, rfl, rfl, trivial⟩, H73⟩
   omega
 ·have hc17 : ¬ (((k : Nat) : Int) < ((rows.length : Nat) : Int)) := (of_decide_eq_false hc17)
  refine W_exit (Then_x (Then_x (Blk_x (Then_n (W_seq (W_reg ?_))))))
  refine O_v rfl (R_move (v := (slV h11 acc)) rfl ?_)
  refine O_v rfl (R_assign (v := (slV h11 acc)) rfl ?_)
  refine O_nil (Then_n (W_ret ?_))
  refine ret_1 (v := (slV h11 acc)) Try.results8 rfl ?_
  exact ⟨h11, acc, S, rfl, H16.gr, H16.retRow 0 rfl, H16.retDeep 0 rfl 0 rfl hS, H16.getImm 0 rfl, (by rw [ha, show k = rows.length from by omega, aliveOfTo_all])⟩

end Go.Proofs.Ytiknfldhommmpaa
namespace Go.Proofs.Ytiknfldhommmpaa
open Go
set_option maxRecDepth 100000
set_option linter.unusedVariables false
set_option linter.unusedSimpArgs false
theorem differ_Alike_c8 : callable Try.prog 8 = true := by kernel_rfl
theorem differ_Alike_c28 : callable Try.prog 28 = true := by kernel_rfl
theorem differ_Alike_c29 : callable Try.prog 29 = true := by kernel_rfl
set_option maxHeartbeats 1000000 in
theorem differ_Alike (ha : SlH) (a : List RowS) (hb : SlH) (b : List RowS) (w : World) (Sa : Sl (Old w) rowCh 8 ha a w) (Da_heads : ∀ x ∈ a, Sl (Old w) headCh 34 x.hh x.heads w) (Sb : Sl (Old w) rowCh 8 hb b w) (Db_heads : ∀ x ∈ b, Sl (Old w) headCh 34 x.hh x.heads w) (hla : a.length ≤ 1048576) (hha : ∀ x ∈ a, x.heads.length ≤ 1048576) (hlb : b.length ≤ 1048576) (hhb : ∀ x ∈ b, x.heads.length ≤ 1048576) :
    Calls Try.prog 10 #[(slV ha a), (slV hb b)] w (Ret fun v w' => v = (.bool (alikeOf a b)) ∧ Ext w w') := by
 refine calls_W Try.func10 rfl Try.ntmps10 rfl ?_
 have H0 := Ctx.start w nob
 have H1 := H0.addSl _ Sa (fun b hb => ⟨hb, fun _ ho => (nomatch ho)⟩)
 have LSa := Sa.len
 have H2 := H1.addImm' (deepI (Old w) headCh 34 (fun x : RowS => x.hh) (fun x : RowS => x.heads) a) Da_heads (fun b hb => ⟨hb, fun _ ho => (nomatch ho)⟩)
 have H3 := H2.addSl _ Sb (fun b hb => ⟨hb, fun _ ho => (nomatch ho)⟩)
 have LSb := Sb.len
 have H4 := H3.addImm' (deepI (Old w) headCh 34 (fun x : RowS => x.hh) (fun x : RowS => x.heads) b) Db_heads (fun b hb => ⟨hb, fun _ ho => (nomatch ho)⟩)
 refine W_seq (W_reg ?_)
 refine O_v rfl (R_assign (v := (.bool false)) rfl ?_)
 refine O_nil (Then_n (W_seq (W_reg ?_)))
 refine O_v rfl (R_move (v := (slV ha a)) rfl ?_)
 refine O_v rfl (R_callL (vs := [(slV ha a)]) differ_Alike_c8 rfl rfl ((differ_Alive ha a w (H4.slOld 3 rfl) (H4.deepOld 2 rfl) hla hha).ret ?_))
 rintro _ w8 ⟨h5, l6, S7, rfl, hx9, ho10, hS11, hd12, hr13⟩
 have H14 := H4.addRowDeep (h := fun x : RowS => x.hh) (f := fun x : RowS => x.heads) hx9 ho10 hS11 hd12
 refine O_v rfl (R_move (v := (slV hb b)) rfl ?_)
 refine O_v rfl (R_callL (vs := [(slV hb b)]) differ_Alike_c8 rfl rfl ((differ_Alive hb b w8 (H14.slOld 2 rfl) (H14.deepOld 1 rfl) hlb hhb).ret ?_))
 rintro _ w18 ⟨h15, l16, S17, rfl, hx19, ho20, hS21, hd22, hr23⟩
 have H24 := H14.addRowDeep (h := fun x : RowS => x.hh) (f := fun x : RowS => x.heads) hx19 ho20 hS21 hd22
 refine O_v rfl (R_callL (vs := [(slV h5 l6), (slV h15 l16), (.func (.func 29) #[] #[])]) differ_Alike_c28 rfl rfl ((EqualFunc_Row h5 l6 h15 l16 29 #[] (fun (x y : RowS) => decide (rowD x = rowD y)) w18 (H24.rowSl 1 rfl (fun _ => rfl)) (H24.rowSl 0 rfl (fun _ => rfl)) differ_Alike_c29 (fun x hx y hy w1 he => callsCap0 (differ_Alike_1 x y w1 ((H24.deepOld 1 rfl _ hx).ext he) ((H24.deepOld 0 rfl _ hy).ext he)))).ret ?_))
 rintro _ w25 ⟨rfl, hx26⟩
 have H27 := H24.ext hx26
 refine O_v rfl (R_assign (v := (.bool (eqBy (fun (x y : RowS) => decide (rowD x = rowD y)) l6 l16))) rfl ?_)
 refine O_nil (Then_n (W_ret ?_))
 refine ret_1 (v := (.bool (eqBy (fun (x y : RowS) => decide (rowD x = rowD y)) l6 l16))) Try.results10 rfl ?_
 exact ⟨(by rw [alike_eq hr13 hr23]), H27.gr⟩

end Go.Proofs.Ytiknfldhommmpaa
namespace Go.Proofs.Ytiknfldhommmpaa
open Go
set_option maxRecDepth 100000
set_option linter.unusedVariables false
set_option linter.unusedSimpArgs false
set_option maxHeartbeats 1000000 in
theorem Reverse_str (hs : SlH) (s : List ByteArray) (w : World) (Os : OwnS 0 9 1 encS hs s w) :
    Calls Try.prog 32 #[(slV hs s)] w (Ret fun v w' => v = .tuple #[] ∧ Gr (fun b => (slV hs s).ownBlock = some b) w w' ∧ OwnS 0 9 1 encS hs (s.reverse) w') := by
 refine calls_W Try.func32 rfl Try.ntmps32 rfl ?_
 have H0 := Ctx.startRow Os
 have LSs := (OwnS.sl Os (fun _ => rfl)).len
 refine W_seq (W_reg ?_)
 refine O_v rfl (R_move (v := (slV hs s)) rfl ?_)
 refine O_v rfl (R_len_slice (a := hs.a) (n := s.length) (c := hs.c) Try.underlying65 rfl ?_)
 refine O_v rfl (R_arith (a := ((s.length : Nat) : Int)) (b := 1) (r0 := ((s.length : Nat) : Int) - 1) (r := ((s.length : Nat) : Int) - 1) rfl rfl rfl (w64 _ (by omega)) ?_)
 refine O_v rfl (R_assign (v := (.int .i64 0)) rfl ?_)
 refine O_v rfl (R_assign (v := (.int .i64 (((s.length : Nat) : Int) - 1))) rfl ?_)
 refine O_nil (Then_n (W_block ?_))
 refine W_loop (fun m1 e2 w3 => ∃ (k : Nat), ∃ (cur : List ByteArray), m1 = s.length + 1 - k ∧ (2 * k ≤ s.length + 1) ∧ (cur.length = s.length) ∧ (revd s k cur) ∧ ∃ eb4, e2 = envL [(0, (slV hs s)), (2, (.int .i64 ((k : Nat) : Int))), (3, (.int .i64 ((s.length : Int) - 1 - (k : Int))))] eb4 ∧ Ctx w (fun b => (slV hs s).ownBlock = some b) w3 [rowR 9 1 encS hs cur] []) _ ⟨0, s, rfl, (by omega), rfl, (revd_zero s), _, envL_self ⟨rfl, rfl, (congrArg (Value.int .i64) (by omega)), trivial⟩, H0⟩ ?_
 rintro m1 _ w3 ⟨k, cur, rfl, hk, hl, hc, eb4, rfl, H5⟩
 refine W_seq (W_seq (W_reg ?_))
 refine O_v rfl (R_move (v := (.int .i64 ((k : Nat) : Int))) rfl ?_)
 refine O_v rfl (R_move (v := (.int .i64 ((s.length : Int) - 1 - (k : Int)))) rfl ?_)
 refine O_v rfl (R_cmp (a := ((k : Nat) : Int)) (b := ((s.length : Int) - 1 - (k : Int))) (r := (decide (((k : Nat) : Int) < ((s.length : Int) - 1 - (k : Int))))) rfl rfl rfl ?_)
 refine O_nil (Then_n ?_)
 refine W_cond (t := (decide (((k : Nat) : Int) < ((s.length : Int) - 1 - (k : Int))))) rfl (fun hc6 => ?_) (fun hc6 => ?_)
 ·have hc6 : (((k : Nat) : Int) < ((s.length : Int) - 1 - (k : Int))) := (of_decide_eq_true hc6)
  refine W_skip (Then_n (W_seq (W_block ?_)))
  refine W_rgdM TryMixed (fun _ => True) (fun i => i == 13 || i == 15) [(0, .q true), (1, .q true), (2, .q true), (3, .q true), (4, .q true), (5, .q true), (6, .q true), (7, .q false), (8, .q true), (9, .q true), (10, .q true), (11, .q false), (12, .q true), (13, .c true), (14, .q true), (15, .c true)] (by kernel_rfl) ?_
  refine Lx_q (i := 0) rfl rfl _ (fun v7 hv8 => R_move (v := (slV hs s)) rfl ⟨rfl, Gr.refl _ _⟩) ?_
  refine Lx_q (i := 1) rfl rfl _ (fun v9 hv10 => R_move (v := (.int .i64 ((k : Nat) : Int))) rfl ⟨rfl, Gr.refl _ _⟩) ?_
  refine Lx_q (i := 2) rfl rfl _ (fun v11 hv12 => R_move (v := (slV hs s)) rfl ⟨rfl, Gr.refl _ _⟩) ?_
  refine Lx_q (i := 3) rfl rfl _ (fun v13 hv14 => R_move (v := (.int .i64 ((s.length : Int) - 1 - (k : Int)))) rfl ⟨rfl, Gr.refl _ _⟩) ?_
  refine Lx_q (i := 4) rfl rfl _ (fun v15 hv16 => R_move (v := (slV hs s)) rfl ⟨rfl, Gr.refl _ _⟩) ?_
  refine Lx_q (i := 5) rfl rfl _ (fun v17 hv18 => R_move (v := (.int .i64 ((s.length : Int) - 1 - (k : Int)))) rfl ⟨rfl, Gr.refl _ _⟩) ?_
  refine Lx_q (i := 6) rfl rfl _ (fun v19 hv20 => R_index_pure (OwnS.sl (H5.getOwn 0 rfl) (fun _ => rfl)) (n := s.length) (by first | omega | (simp only [List.length_set]; omega)) (j := ((s.length : Int) - 1 - (k : Int))) (oo := (hs.o + (((s.length : Int) - 1 - (k : Int)).toNat) * 1)) Try.underlying65 Try.sizeOf9 rfl rfl (by omega) (by omega) rfl ⟨rfl, Gr.refl _ _⟩) ?_
  refine Lx_q (i := 7) rfl rfl _ (fun v21 hv22 => R_load1 (v := (.string (nth cur (((s.length : Int) - 1 - (k : Int)).toNat)))) Try.isAgg9 rfl ((Sl.elem (OwnS.sl ((H5.ext hv22).getOwn 0 rfl) (fun _ => rfl)) (i := ((s.length : Int) - 1 - (k : Int)).toNat) (by omega) rfl).chunks 0 1 0 (hs.o + (((s.length : Int) - 1 - (k : Int)).toNat) * 1) _ rfl rfl rfl) ⟨rfl, Gr.refl _ _⟩) ?_
  refine Lx_q (i := 8) rfl rfl _ (fun v23 hv24 => R_move (v := (slV hs s)) rfl ⟨rfl, Gr.refl _ _⟩) ?_
  refine Lx_q (i := 9) rfl rfl _ (fun v25 hv26 => R_move (v := (.int .i64 ((k : Nat) : Int))) rfl ⟨rfl, Gr.refl _ _⟩) ?_
  refine Lx_q (i := 10) rfl rfl _ (fun v27 hv28 => R_index_pure (OwnS.sl (H5.getOwn 0 rfl) (fun _ => rfl)) (n := s.length) (by first | omega | (simp only [List.length_set]; omega)) (j := ((k : Nat) : Int)) (oo := (hs.o + k * 1)) Try.underlying65 Try.sizeOf9 rfl rfl (by omega) (by omega) rfl ⟨rfl, Gr.refl _ _⟩) ?_
  refine Lx_q (i := 11) rfl rfl _ (fun v29 hv30 => R_load1 (v := (.string (nth cur k))) Try.isAgg9 rfl ((Sl.elem (OwnS.sl ((H5.ext hv30).getOwn 0 rfl) (fun _ => rfl)) (i := k) (by omega) rfl).chunks 0 1 0 (hs.o + k * 1) _ rfl rfl rfl) ⟨rfl, Gr.refl _ _⟩) ?_
  refine Lx_q (i := 12) rfl rfl _ (fun v31 hv32 => R_index_pure (OwnS.sl (H5.getOwn 0 rfl) (fun _ => rfl)) (n := s.length) (by first | omega | (simp only [List.length_set]; omega)) (j := ((k : Nat) : Int)) (oo := (hs.o + k * 1)) Try.underlying65 Try.sizeOf9 rfl rfl (by omega) (by omega) rfl ⟨rfl, Gr.refl _ _⟩) ?_
  refine Lx_cu (i := 13) rfl (fun w33 hw34 => ?_)
  have H35 := H5.ext hw34
  refine (C_storeEl H35 0 rfl (j := k) (v := (.string (nth cur (((s.length : Int) - 1 - (k : Int)).toNat)))) (nth cur (((s.length : Int) - 1 - (k : Int)).toNat)) ([] : List Value) ([[(.string (nth cur k))]]).flatten ([] : List Value) ([[(.string (nth cur (((s.length : Int) - 1 - (k : Int)).toNat)))]]).flatten (fun _ => rfl) (by omega) Try.sizeOf9 rfl rfl rfl rfl rfl rfl rfl rfl rfl ?_)
  intro w36 hg37 H38
  refine ⟨Gr.mono (M' := fun _ => True) hg37 (fun _ _ => trivial), ?_⟩
  refine Lx_q (i := 14) rfl rfl _ (fun v39 hv40 => R_index_pure (OwnS.sl (H38.getOwn 0 rfl) (fun _ => rfl)) (n := s.length) (by first | omega | (simp only [List.length_set]; omega)) (j := ((s.length : Int) - 1 - (k : Int))) (oo := (hs.o + (((s.length : Int) - 1 - (k : Int)).toNat) * 1)) Try.underlying65 Try.sizeOf9 rfl rfl (by omega) (by omega) rfl ⟨rfl, Gr.refl _ _⟩) ?_
  refine Lx_cu (i := 15) rfl (fun w41 hw42 => ?_)
  have H43 := H38.ext hw42
  refine (C_storeEl H43 0 rfl (j := ((s.length : Int) - 1 - (k : Int)).toNat) (v := (.string (nth cur k))) (nth cur k) ([] : List Value) ([[(.string (nth (cur.set k (nth cur (((s.length : Int) - 1 - (k : Int)).toNat))) (((s.length : Int) - 1 - (k : Int)).toNat)))]]).flatten ([] : List Value) ([[(.string (nth cur k))]]).flatten (fun _ => rfl) (by simp only [List.length_set]; omega) Try.sizeOf9 rfl rfl rfl rfl rfl rfl rfl rfl rfl ?_)
  intro w44 hg45 H46
  refine ⟨Gr.mono (M' := fun _ => True) hg45 (fun _ _ => trivial), ?_⟩
  refine Lx_nil (fun w47 hw48 => ?_)
  have H49 := H46.ext hw48
  refine Blk_n (Then_n (W_reg ?_))
  refine O_v rfl (R_move (v := (.int .i64 ((k : Nat) : Int))) rfl ?_)
  refine O_v rfl (R_arith (a := ((k : Nat) : Int)) (b := 1) (r0 := ((k : Nat) : Int) + 1) (r := ((k + 1 : Nat) : Int)) rfl rfl rfl (wrapN _ (by omega)) ?_)
  refine O_v rfl (R_move (v := (.int .i64 ((s.length : Int) - 1 - (k : Int)))) rfl ?_)
  refine O_v rfl (R_arith (a := ((s.length : Int) - 1 - (k : Int))) (b := 1) (r0 := ((s.length : Int) - 1 - (k : Int)) - 1) (r := ((s.length : Int) - 1 - (k : Int)) - 1) rfl rfl rfl (w64 _ (by omega)) ?_)
  refine O_v rfl (R_assign (v := (.int .i64 ((k + 1 : Nat) : Int))) rfl ?_)
  refine O_v rfl (R_assign (v := (.int .i64 (((s.length : Int) - 1 - (k : Int)) - 1))) rfl ?_)
  refine O_nil (Then_n ?_)
  refine ⟨_, ?_, (k + 1), ((cur.set k (nth cur (((s.length : Int) - 1 - (k : Int)).toNat))).set (((s.length : Int) - 1 - (k : Int)).toNat) (nth cur k)), rfl, (by omega), (by simp only [List.length_set]; exact hl), (revd_succ hl hc (by omega) (by omega)), _, envL_self ⟨rfl, rfl, (congrArg (Value.int .i64) (by omega)), trivial⟩, H49⟩
  omega
 ·have hc6 : ¬ (((k : Nat) : Int) < ((s.length : Int) - 1 - (k : Int))) := (of_decide_eq_false hc6)
  refine W_exit (Then_x (Then_x (Blk_x (ret_n ?_))))
  refine ret_0 Try.results32 ⟨rfl, H5.gr, ?_⟩
  have hE : cur = s.reverse := (revd_end hl hc (by omega))
  rw [← hE]
  exact H5.getOwn 0 rfl

end Go.Proofs.Ytiknfldhommmpaa
/- The plain side of strings.Join. -/
namespace Go.Proofs.Ytiknfldhommmpaa
open Go
set_option linter.unusedVariables false
set_option linter.unusedSimpArgs false
set_option linter.unusedSectionVars false
def joinTo (xs : List ByteArray) (sep : ByteArray) (j : Nat) : List UInt8 := Lib.join ((xs.take j).map (·.data.toList)) sep.data.toList
def joinB (xs : List ByteArray) (sep : ByteArray) : ByteArray := ⟨(joinTo xs sep xs.length).toArray⟩
def lensTo (xs : List ByteArray) (k : Nat) : Nat := ((xs.take k).map (·.size)).sum
theorem ba_toArray (s : ByteArray) : (⟨s.data.toList.toArray⟩ : ByteArray) = s := by cases s; simp
theorem size_data (s : ByteArray) : s.data.toList.length = s.size := by rw [Array.length_toList]; rfl
theorem joinTo_zero {xs : List ByteArray} {sep : ByteArray} (h : ((xs.length : Nat) : Int) = 0) : joinB xs sep = ByteArray.empty := by
  have : xs = [] := List.eq_nil_of_length_eq_zero (by omega)
  subst this; rfl
theorem joinTo_one {xs : List ByteArray} {sep : ByteArray} (h : 1 ≤ xs.length) : joinTo xs sep 1 = (nth xs 0).data.toList := by
  cases xs with
  | nil => simp at h
  | cons x r => simp [joinTo, Lib.join_one, nth]
theorem joinB_one {xs : List ByteArray} {sep : ByteArray} (h : ((xs.length : Nat) : Int) = 1) : joinB xs sep = nth xs 0 := by
  have h1 : xs.length = 1 := by omega
  unfold joinB
  rw [h1, joinTo_one (by omega), ba_toArray]
theorem joinTo_succ {xs : List ByteArray} {sep : ByteArray} {j : Nat} (h1 : 1 ≤ j) (hj : j < xs.length) : joinTo xs sep (j + 1) = (joinTo xs sep j ++ sep.data.toList) ++ (nth xs j).data.toList := by
  unfold joinTo
  rw [List.take_succ_eq_append_getElem hj, nth_eq hj]
  cases xs with
  | nil => simp at hj
  | cons x r =>
    obtain ⟨j, rfl⟩ : ∃ i, j = i + 1 := ⟨j - 1, by omega⟩
    simp only [List.take_succ_cons, List.map_cons, List.cons_append, List.map_append, List.getElem_cons_succ, List.map_nil, Lib.join_cons, Lib.joinTail, List.flatten_append, List.flatten_cons, List.flatten_nil, List.append_nil, List.append_assoc]
theorem joinTo_len {xs : List ByteArray} {sep : ByteArray} : ∀ {j : Nat}, 1 ≤ j → j ≤ xs.length → (joinTo xs sep j).length = sep.size * (j - 1) + lensTo xs j := by
  intro j
  induction j with
  | zero => intro h; omega
  | succ j ih =>
    intro h1 h2
    by_cases h0 : j = 0
    · subst h0
      rw [joinTo_one (by omega)]
      cases xs with
      | nil => simp at h2
      | cons x r => show x.data.toList.length = _; rw [size_data]; show x.size = sep.size * 0 + (x.size + 0); omega
    · rw [joinTo_succ (by omega) (by omega), List.length_append, List.length_append, ih (by omega) (by omega), size_data, size_data]
      unfold lensTo
      rw [List.take_succ_eq_append_getElem (by omega), List.map_append, List.sum_append, nth_eq (by omega)]
      simp only [List.map_cons, List.map_nil, List.sum_cons, List.sum_nil, Nat.add_sub_cancel]
      have : sep.size * j = sep.size * (j - 1) + sep.size := by
        conv => lhs; rw [show j = (j - 1) + 1 from by omega, Nat.mul_add, Nat.mul_one]
      omega
theorem lensTo_succ {xs : List ByteArray} {k : Nat} (h : k < xs.length) : lensTo xs (k + 1) = lensTo xs k + (nth xs k).size := by
  unfold lensTo
  rw [List.take_succ_eq_append_getElem h, List.map_append, List.sum_append, nth_eq h]
  simp
theorem lensTo_le {xs : List ByteArray} : ∀ {j k : Nat}, j ≤ k → k ≤ xs.length → lensTo xs j ≤ lensTo xs k := by
  intro j k h
  induction h with
  | refl => intro; omega
  | step h ih =>
    intro h2
    have := ih (by omega)
    rw [lensTo_succ (by omega)]
    omega
theorem joinTo_le {xs : List ByteArray} {sep : ByteArray} {j : Nat} (h1 : 1 ≤ j) (h2 : j ≤ xs.length) : (joinTo xs sep j).length ≤ (joinTo xs sep xs.length).length := by
  rw [joinTo_len h1 h2, joinTo_len (by omega) (Nat.le_refl _)]
  have := lensTo_le (xs := xs) h2 (Nat.le_refl _)
  have : sep.size * (j - 1) ≤ sep.size * (xs.length - 1) := Nat.mul_le_mul_left _ (by omega)
  omega
theorem byteCells_app (l : List UInt8) (s : ByteArray) : Lib.byteCells l ++ Lib.strCells s = Lib.byteCells (l ++ s.data.toList) := by simp [Lib.byteCells, Lib.strCells]
theorem byteCells_len (l : List UInt8) : (Lib.byteCells l).length = l.length := by simp [Lib.byteCells]
theorem joinDead {n s : Nat} (h : (9223372036854775807 : Int).tdiv (((n - 1 : Nat)) : Int) ≤ ((s : Nat) : Int)) (h1 : 2 ≤ n) (h2 : s * (n - 1) ≤ 140737488355328) (h3 : n ≤ 140737488355328) : False := by
  have h4 : ((s : Nat) + 1) * (n - 1) ≤ 9223372036854775807 := by rw [Nat.add_mul]; omega
  have h5 : s + 1 ≤ 9223372036854775807 / (n - 1) := (Nat.le_div_iff_mul_le (by omega)).2 h4
  have h6 : (9223372036854775807 : Int).tdiv (((n - 1 : Nat)) : Int) = ((9223372036854775807 / (n - 1) : Nat) : Int) := by
    rw [Int.tdiv_eq_ediv_of_nonneg (by omega)]; rfl
  omega
theorem mulw {a b : Nat} (h : a * b ≤ 9223372036854775807) : IntKind.i64.wrap (((a : Nat) : Int) * ((b : Nat) : Int)) = ((a * b : Nat) : Int) := by
  have e : ((a : Nat) : Int) * ((b : Nat) : Int) = ((a * b : Nat) : Int) := by simp
  rw [e]; exact w64 _ (by omega)
theorem tdivw {b : Nat} (h : 1 ≤ b) : IntKind.i64.wrap ((9223372036854775807 : Int).tdiv ((b : Nat) : Int)) = (9223372036854775807 : Int).tdiv ((b : Nat) : Int) := by
  have h6 : (9223372036854775807 : Int).tdiv ((b : Nat) : Int) = ((9223372036854775807 / b : Nat) : Int) := by
    rw [Int.tdiv_eq_ediv_of_nonneg (by omega)]; rfl
  have h7 := Nat.div_le_self 9223372036854775807 b
  rw [h6]
  generalize 9223372036854775807 / b = q at h7
  exact w64 _ (by omega)
theorem nth_drop1 {xs : List ByteArray} {j : Nat} : nth (xs.drop 1) j = nth xs (j + 1) := by
  unfold nth; simp [List.getD_eq_getElem?_getD, List.getElem?_drop, Nat.add_comm]
theorem joinRoom {elems : List ByteArray} {sep : ByteArray} {j : Nat} (htot : (joinTo elems sep elems.length).length ≤ 140737488355328) (hj : j + 1 < elems.length) : (joinTo elems sep (j + 1)).length + sep.size + (nth elems (j + 1)).size ≤ 140737488355328 := by
  have h1 := joinTo_le (xs := elems) (sep := sep) (j := j + 1 + 1) (by omega) (by omega)
  rw [joinTo_succ (by omega) hj, List.length_append, List.length_append, size_data, size_data] at h1
  omega
theorem joinRoom1 {elems : List ByteArray} {sep : ByteArray} {j : Nat} (htot : (joinTo elems sep elems.length).length ≤ 140737488355328) (hj : j + 1 < elems.length) : (Lib.byteCells (joinTo elems sep (j + 1))).length + sep.size ≤ 140737488355328 := by
  have := joinRoom htot hj
  rw [byteCells_len]; omega
theorem joinRoom2 {elems : List ByteArray} {sep : ByteArray} {j : Nat} (htot : (joinTo elems sep elems.length).length ≤ 140737488355328) (hj : j + 1 < elems.length) : (Lib.byteCells (joinTo elems sep (j + 1) ++ sep.data.toList)).length + (nth (elems.drop 1) j).size ≤ 140737488355328 := by
  have := joinRoom htot hj
  rw [byteCells_len, List.length_append, size_data, nth_drop1]; omega
theorem joinB_of {elems : List ByteArray} {sep : ByteArray} {j : Nat} (h : j + 1 = elems.length) : joinB elems sep = ⟨(joinTo elems sep (j + 1)).toArray⟩ := by unfold joinB; rw [h]
def namesGo (kv : List (Stamp × RowS)) : Nat → Stamp → List ByteArray
  | 0, _ => []
  | n + 1, s => if s.T = 0 then [] else ((kvGet kv s).getD zeroRow).name :: namesGo kv n ((kvGet kv s).getD zeroRow).par
def slash : ByteArray := ⟨#[47]⟩
def pathOf (rows : List RowS) (node : Stamp) : ByteArray := if placeOf (tableOf rows) node = (⟨0, 0⟩, true) then joinB (namesGo (tableOf rows) ((tableOf rows).length + 1) node).reverse slash else ByteArray.empty
theorem place_step {kv : List (Stamp × RowS)} {n : Nat} {nd : Stamp} (h : placeGo kv n nd = (⟨0, 0⟩, true)) (h0 : ¬ nd.T = 0) : 1 ≤ n ∧ placeGo kv (n - 1) ((kvGet kv nd).getD zeroRow).par = (⟨0, 0⟩, true) := by
  cases n with
  | zero => simp [placeGo] at h
  | succ n =>
    unfold placeGo at h
    rw [if_neg h0] at h
    cases hk : kvGet kv nd with
    | none => rw [hk] at h; simp at h
    | some r =>
      rw [hk] at h
      exact ⟨by omega, h⟩
theorem names_step {kv : List (Stamp × RowS)} {n : Nat} {nd : Stamp} {acc : List ByteArray} {z : List ByteArray} (h : placeGo kv n nd = (⟨0, 0⟩, true)) (h0 : ¬ nd.T = 0) (ha : acc ++ namesGo kv n nd = z) :
    (acc ++ [((kvGet kv nd).getD zeroRow).name]) ++ namesGo kv (n - 1) ((kvGet kv nd).getD zeroRow).par = z := by
  cases n with
  | zero => simp [placeGo] at h
  | succ n =>
    rw [← ha]
    conv => rhs; unfold namesGo
    rw [if_neg h0, List.append_assoc]; rfl
theorem tableOf_mem {rows : List RowS} {s : Stamp} {r : RowS} (h : kvGet (tableOf rows) s = some r) : r ∈ rows ∧ r.node = s := by
  have key : ∀ (l : List RowS) (kv : List (Stamp × RowS)) (p : Stamp × RowS), p ∈ l.foldl (fun kv r => kvPut r.node r kv) kv → p ∈ kv ∨ (p.2 ∈ l ∧ p.2.node = p.1) := by
    intro l
    induction l with
    | nil => intro kv p hp; exact .inl hp
    | cons x l ih =>
      intro kv p hp
      rcases ih _ p hp with h | h
      · rcases kvPut_mem h with h | h
        · subst h; exact .inr ⟨by simp, rfl⟩
        · exact .inl h
      · exact .inr ⟨List.mem_cons_of_mem _ h.1, h.2⟩
  rcases key rows [] (s, r) (kvGet_mem h) with h | h
  · cases h
  · exact h
theorem table_name {rows : List RowS} (h : ∀ x ∈ rows, x.name.size ≤ 60) (nd : Stamp) : ((kvGet (tableOf rows) nd).getD zeroRow).name.size ≤ 60 := by
  cases hk : kvGet (tableOf rows) nd with
  | none => exact Nat.zero_le _
  | some r => exact h r (tableOf_mem hk).1
theorem lens_small {xs : List ByteArray} (h : ∀ x ∈ xs, x.size ≤ 60) : lensTo xs xs.length ≤ 60 * xs.length := by
  unfold lensTo
  rw [List.take_length]
  induction xs with
  | nil => simp
  | cons x xs ih =>
    have h1 := ih fun y hy => h y (List.mem_cons_of_mem _ hy)
    have h2 := h x (by simp)
    simp only [List.map_cons, List.sum_cons, List.length_cons]
    omega
theorem names_small {xs : List ByteArray} {n : Nat} (h : ∀ x ∈ xs, x.size ≤ 60) (hl : xs.length ≤ n) (hn : n ≤ 1048577) : (joinTo xs slash xs.length).length ≤ 140737488355328 := by
  by_cases h0 : xs.length = 0
  · have : xs = [] := List.eq_nil_of_length_eq_zero h0
    subst this; simp [joinTo, Lib.join_nil]
  · rw [joinTo_len (by omega) (Nat.le_refl _)]
    have := lens_small h
    have e : slash.size = 1 := rfl
    rw [e]; omega
theorem pathOf_none {rows : List RowS} {node : Stamp} (h : (placeOf (tableOf rows) node).2 = false ∨ ¬ (placeOf (tableOf rows) node).1 = ⟨0, 0⟩) : pathOf rows node = ByteArray.empty := by
  unfold pathOf
  rw [if_neg]
  intro e
  rw [e] at h
  simp at h
theorem pathOf_some {rows : List RowS} {node nd : Stamp} {n : Nat} {acc : List ByteArray} (hp : placeGo (tableOf rows) n nd = (⟨0, 0⟩, true)) (ha : acc ++ namesGo (tableOf rows) n nd = namesGo (tableOf rows) ((tableOf rows).length + 1) node) (h0 : nd.T = 0) (hq : placeOf (tableOf rows) node = (⟨0, 0⟩, true)) : pathOf rows node = joinB acc.reverse (⟨#[47]⟩ : ByteArray) := by
  unfold pathOf
  rw [if_pos hq, ← ha]
  have : namesGo (tableOf rows) n nd = [] := by
    cases n with
    | zero => rfl
    | succ n => unfold namesGo; rw [if_pos h0]
  rw [this, List.append_nil]; rfl
theorem place_conj {p : Stamp × Bool} {z : Stamp} (h : p.2 = true ∧ p.1 = z) : p = (z, true) := Prod.ext h.2 h.1
end Go.Proofs.Ytiknfldhommmpaa
namespace Go.Proofs.Ytiknfldhommmpaa
open Go
set_option maxRecDepth 100000
set_option linter.unusedVariables false
set_option linter.unusedSimpArgs false
def laysJ : Go.Shelf.Ren := ⟨fun | 165 => 43 | 166 => 44 | 169 => 45 | 240 => 55 | 241 => 56 | 276 => 65 | 277 => 66 | n => n, fun | 0 => 0 | 3 => 3 | 4 => 4 | 5 => 5 | 9 => 9 | 20 => 20 | 37 => 79 | 70 => 78 | 72 => 81 | 75 => 84 | 80 => 87 | 127 => 97 | 164 => 105 | n => n, fun | n => n⟩
theorem laysJ165 : Go.Proofs.Lays.n165 Try.prog laysJ := {
  mixed := by kernel_rfl
  f165 := Try.func43.trans (congrArg some (by kernel_rfl))
  f240 := Try.func55.trans (congrArg some (by kernel_rfl))
  f241 := Try.func56.trans (congrArg some (by kernel_rfl))
  f276 := Try.func65.trans (congrArg some (by kernel_rfl))
  f277 := Try.func66.trans (congrArg some (by kernel_rfl))
  t0 := Try.underlying0
  a0 := Try.isAgg0
  z0 := Try.sizeOf0
  v0 := Try.zeroValue0
  t3 := Try.underlying3
  a3 := Try.isAgg3
  z3 := Try.sizeOf3
  v3 := Try.zeroValue3
  t4 := Try.underlying4
  a4 := Try.isAgg4
  z4 := Try.sizeOf4
  v4 := Try.zeroValue4
  t9 := Try.underlying9
  a9 := Try.isAgg9
  z9 := Try.sizeOf9
  v9 := Try.zeroValue9
  t20 := Try.underlying20
  a20 := Try.isAgg20
  z20 := Try.sizeOf20
  v20 := Try.zeroValue20
  t37 := Try.underlying79
  a37 := Try.isAgg79
  z37 := Try.sizeOf79
  v37 := Try.zeroValue79
  t70 := Try.underlying78
  a70 := Try.isAgg78
  z70 := Try.sizeOf78
  v70 := Try.zeroValue78
  t72 := Try.underlying81
  a72 := Try.isAgg81
  z72 := Try.sizeOf81
  v72 := Try.zeroValue81
  t164 := Try.underlying105
  a164 := Try.isAgg105
  z164 := Try.sizeOf105
  v164 := Try.zeroValue105 }
theorem laysJ166 : Go.Proofs.Lays.n166 Try.prog laysJ := {
  mixed := by kernel_rfl
  f166 := Try.func44.trans (congrArg some (by kernel_rfl))
  f240 := Try.func55.trans (congrArg some (by kernel_rfl))
  f276 := Try.func65.trans (congrArg some (by kernel_rfl))
  t0 := Try.underlying0
  a0 := Try.isAgg0
  z0 := Try.sizeOf0
  v0 := Try.zeroValue0
  t3 := Try.underlying3
  a3 := Try.isAgg3
  z3 := Try.sizeOf3
  v3 := Try.zeroValue3
  t4 := Try.underlying4
  a4 := Try.isAgg4
  z4 := Try.sizeOf4
  v4 := Try.zeroValue4
  t9 := Try.underlying9
  a9 := Try.isAgg9
  z9 := Try.sizeOf9
  v9 := Try.zeroValue9
  t20 := Try.underlying20
  a20 := Try.isAgg20
  z20 := Try.sizeOf20
  v20 := Try.zeroValue20
  t37 := Try.underlying79
  a37 := Try.isAgg79
  z37 := Try.sizeOf79
  v37 := Try.zeroValue79
  t70 := Try.underlying78
  a70 := Try.isAgg78
  z70 := Try.sizeOf78
  v70 := Try.zeroValue78
  t72 := Try.underlying81
  a72 := Try.isAgg81
  z72 := Try.sizeOf81
  v72 := Try.zeroValue81
  t75 := Try.underlying84
  a75 := Try.isAgg84
  z75 := Try.sizeOf84
  v75 := Try.zeroValue84
  t164 := Try.underlying105
  a164 := Try.isAgg105
  z164 := Try.sizeOf105
  v164 := Try.zeroValue105 }
theorem laysJ169 : Go.Proofs.Lays.n169 Try.prog laysJ := {
  mixed := by kernel_rfl
  f169 := Try.func45.trans (congrArg some (by kernel_rfl))
  t0 := Try.underlying0
  a0 := Try.isAgg0
  z0 := Try.sizeOf0
  v0 := Try.zeroValue0
  t3 := Try.underlying3
  a3 := Try.isAgg3
  z3 := Try.sizeOf3
  v3 := Try.zeroValue3
  t9 := Try.underlying9
  a9 := Try.isAgg9
  z9 := Try.sizeOf9
  v9 := Try.zeroValue9
  t37 := Try.underlying79
  a37 := Try.isAgg79
  z37 := Try.sizeOf79
  v37 := Try.zeroValue79
  t70 := Try.underlying78
  a70 := Try.isAgg78
  z70 := Try.sizeOf78
  v70 := Try.zeroValue78
  t72 := Try.underlying81
  a72 := Try.isAgg81
  z72 := Try.sizeOf81
  v72 := Try.zeroValue81
  t127 := Try.underlying97
  a127 := Try.isAgg97
  z127 := Try.sizeOf97
  v127 := Try.zeroValue97 }
theorem laysJX : Builder.Extra Try.prog laysJ := {
  sizeBuilder := by kernel_rfl
  liesBuilder := by kernel_rfl
  t5 := Try.underlying5
  a5 := Try.isAgg5
  z5 := Try.sizeOf5
  v5 := Try.zeroValue5
  infoByte := by kernel_rfl
  cellsByte := by kernel_rfl
  sizeByte := by kernel_rfl
  neB5 := by decide }

end Go.Proofs.Ytiknfldhommmpaa
namespace Go.Proofs.Ytiknfldhommmpaa
open Go
set_option maxRecDepth 100000
set_option linter.unusedVariables false
set_option linter.unusedSimpArgs false
theorem strings_Join_c43 : callable Try.prog 43 = true := by kernel_rfl
theorem strings_Join_c44 : callable Try.prog 44 = true := by kernel_rfl
theorem strings_Join_c45 : callable Try.prog 45 = true := by kernel_rfl
set_option maxHeartbeats 1000000 in
theorem strings_Join (helems : SlH) (elems : List ByteArray) (sep : ByteArray) (w : World) (Selems : Sl (Old w) encS 1 helems elems w) (hN : elems.length ≤ 1048577) (htot : (joinTo elems sep elems.length).length ≤ 140737488355328) :
    Calls Try.prog 33 #[(slV helems elems), (.string sep)] w (Ret fun v w' => v = (.string (joinB elems sep)) ∧ Ext w w') := by
 refine calls_W Try.func33 rfl Try.ntmps33 rfl ?_
 have H0 := Ctx.start w nob
 have H1 := H0.addSl _ Selems (fun b hb => ⟨hb, fun _ ho => (nomatch ho)⟩)
 have LSelems := Selems.len
 have hjl : 1 ≤ elems.length → (joinTo elems sep elems.length).length = sep.size * (elems.length - 1) + lensTo elems elems.length := fun h => joinTo_len h (Nat.le_refl _)
 refine W_seq (W_reg ?_)
 refine O_v rfl (R_assign (v := (.string ByteArray.empty)) rfl ?_)
 refine O_nil (Then_n (W_seq (W_seq (W_reg ?_))))
 refine O_v rfl (R_move (v := (slV helems elems)) rfl ?_)
 refine O_v rfl (R_len_slice (a := helems.a) (n := elems.length) (c := helems.c) Try.underlying65 rfl ?_)
 refine O_nil (Then_n (W_block (W_seq (W_reg ?_))))
 refine O_v rfl (R_cmp (a := ((elems.length : Nat) : Int)) (b := 0) (r := (decide (((elems.length : Nat) : Int) = 0))) rfl rfl rfl ?_)
 refine O_v rfl (R_assign (v := (.bool (decide (((elems.length : Nat) : Int) = 0)))) rfl ?_)
 refine O_nil (Then_n ?_)
 refine W_cond (t := (decide (((elems.length : Nat) : Int) = 0))) rfl (fun hc2 => ?_) (fun hc2 => ?_)
 ·have hc2 : (((elems.length : Nat) : Int) = 0) := (of_decide_eq_true hc2)
  refine W_seq (W_reg ?_)
  refine O_v rfl (R_assign (v := (.string ByteArray.empty)) rfl ?_)
  refine O_nil (Then_n (W_ret (Blk_r (Then_r ?_))))
  refine ret_1 (v := (.string ByteArray.empty)) Try.results33 rfl ?_
  exact ⟨(by rw [joinTo_zero (by omega)]), H1.gr⟩
 ·have hc2 : ¬ (((elems.length : Nat) : Int) = 0) := (of_decide_eq_false hc2)
  refine W_seq (W_reg ?_)
  refine O_v rfl (R_cmp (a := ((elems.length : Nat) : Int)) (b := 1) (r := (decide (((elems.length : Nat) : Int) = 1))) rfl rfl rfl ?_)
  refine O_v rfl (R_assign (v := (.bool (decide (((elems.length : Nat) : Int) = 1)))) rfl ?_)
  refine O_nil (Then_n ?_)
  refine W_cond (t := (decide (((elems.length : Nat) : Int) = 1))) rfl (fun hc3 => ?_) (fun hc3 => ?_)
  ·have hc3 : (((elems.length : Nat) : Int) = 1) := (of_decide_eq_true hc3)
   refine W_seq (W_reg ?_)
   refine O_v rfl (R_move (v := (slV helems elems)) rfl ?_)
   refine O_v rfl (R_index_pure (H1.sl 0 rfl) (n := elems.length) rfl (j := 0) (oo := (helems.o + 0 * 1)) Try.underlying65 Try.sizeOf9 rfl rfl (by omega) (by omega) rfl ?_)
   refine O_v rfl (R_load1 (v := (.string (nth elems 0))) Try.isAgg9 rfl ((Sl.elem (H1.sl 0 rfl) (i := 0) (by omega) rfl).chunks 0 1 0 (helems.o + 0 * 1) _ rfl rfl rfl) ?_)
   refine O_v rfl (R_assign (v := (.string (nth elems 0))) rfl ?_)
   refine O_nil (Then_n (W_ret (Blk_r (Then_r ?_))))
   refine ret_1 (v := (.string (nth elems 0))) Try.results33 rfl ?_
   exact ⟨(by rw [joinB_one (by omega)]), H1.gr⟩
  ·have hc3 : ¬ (((elems.length : Nat) : Int) = 1) := (of_decide_eq_false hc3)
   refine W_skip (Blk_n (Then_n (W_seq (W_reg ?_))))
   refine O_v rfl (R_assign (v := (.int .i64 0)) rfl ?_)
   refine O_nil (Then_n (W_seq (W_seq (W_reg ?_))))
   refine O_v rfl (R_move (v := (.string sep)) rfl ?_)
   refine O_v rfl (R_len_string Try.underlying9 rfl ?_)
   refine O_v rfl (R_cmp (a := ((sep.size : Nat) : Int)) (b := 0) (r := (decide (0 < ((sep.size : Nat) : Int)))) rfl rfl rfl ?_)
   refine O_nil (Then_n ?_)
   refine W_cond (t := (decide (0 < ((sep.size : Nat) : Int)))) rfl (fun hc4 => ?_) (fun hc4 => ?_)
   ·have hc4 : (0 < ((sep.size : Nat) : Int)) := (of_decide_eq_true hc4)
    refine W_seq (W_seq (W_reg ?_))
    refine O_v rfl (R_move (v := (.string sep)) rfl ?_)
    refine O_v rfl (R_len_string Try.underlying9 rfl ?_)
    refine O_v rfl (R_move (v := (slV helems elems)) rfl ?_)
    refine O_v rfl (R_len_slice (a := helems.a) (n := elems.length) (c := helems.c) Try.underlying65 rfl ?_)
    refine O_v rfl (R_arith (a := ((elems.length : Nat) : Int)) (b := 1) (r0 := ((elems.length : Nat) : Int) - 1) (r := ((elems.length - 1 : Nat) : Int)) rfl rfl rfl (wrapP _ (by omega) (by omega)) ?_)
    refine O_v rfl (R_quo (a := 9223372036854775807) (b := ((elems.length - 1 : Nat) : Int)) (r := ((9223372036854775807 : Int).tdiv ((elems.length - 1 : Nat) : Int))) rfl rfl (by omega) (tdivw (by omega)) ?_)
    refine O_v rfl (R_cmp (a := ((sep.size : Nat) : Int)) (b := ((9223372036854775807 : Int).tdiv ((elems.length - 1 : Nat) : Int))) (r := (decide (((9223372036854775807 : Int).tdiv ((elems.length - 1 : Nat) : Int)) ≤ ((sep.size : Nat) : Int)))) rfl rfl rfl ?_)
    refine O_nil (Then_n ?_)
    refine W_cond (t := (decide (((9223372036854775807 : Int).tdiv ((elems.length - 1 : Nat) : Int)) ≤ ((sep.size : Nat) : Int)))) rfl (fun hc5 => ?_) (fun hc5 => ?_)
    ·have hc5 : (((9223372036854775807 : Int).tdiv ((elems.length - 1 : Nat) : Int)) ≤ ((sep.size : Nat) : Int)) := (of_decide_eq_true hc5)
     exact (joinDead (by assumption) (by omega) (by omega) (by omega)).elim
    ·have hc5 : ¬ (((9223372036854775807 : Int).tdiv ((elems.length - 1 : Nat) : Int)) ≤ ((sep.size : Nat) : Int)) := (of_decide_eq_false hc5)
     refine W_skip (Then_n (W_reg ?_))
     refine O_v rfl (R_move (v := (.int .i64 0)) rfl ?_)
     refine O_v rfl (R_move (v := (.string sep)) rfl ?_)
     refine O_v rfl (R_len_string Try.underlying9 rfl ?_)
     refine O_v rfl (R_move (v := (slV helems elems)) rfl ?_)
     refine O_v rfl (R_len_slice (a := helems.a) (n := elems.length) (c := helems.c) Try.underlying65 rfl ?_)
     refine O_v rfl (R_arith (a := ((elems.length : Nat) : Int)) (b := 1) (r0 := ((elems.length : Nat) : Int) - 1) (r := ((elems.length - 1 : Nat) : Int)) rfl rfl rfl (wrapP _ (by omega) (by omega)) ?_)
     refine O_v rfl (R_arith (a := ((sep.size : Nat) : Int)) (b := ((elems.length - 1 : Nat) : Int)) (r0 := ((sep.size : Nat) : Int) * ((elems.length - 1 : Nat) : Int)) (r := ((sep.size * (elems.length - 1) : Nat) : Int)) rfl rfl rfl (mulw (by omega)) ?_)
     refine O_v rfl (R_arith (a := 0) (b := ((sep.size * (elems.length - 1) : Nat) : Int)) (r0 := 0 + ((sep.size * (elems.length - 1) : Nat) : Int)) (r := ((0 + sep.size * (elems.length - 1) : Nat) : Int)) rfl rfl rfl (w64 _ (by omega)) ?_)
     refine O_v rfl (R_assign (v := (.int .i64 ((0 + sep.size * (elems.length - 1) : Nat) : Int))) rfl ?_)
     refine O_nil (Then_n (W_seq (W_seq (W_reg ?_))))
     refine O_v rfl (R_move (v := (slV helems elems)) rfl ?_)
     refine O_v rfl (R_len_slice (a := helems.a) (n := elems.length) (c := helems.c) Try.underlying65 rfl ?_)
     refine O_v rfl (R_move (v := (.int .i64 0)) rfl ?_)
     refine O_nil (Then_n (W_block ?_))
     refine W_loop (fun m6 e7 w8 => ∃ (k : Nat), ∃ (n : Nat), m6 = elems.length - k ∧ (k ≤ elems.length) ∧ (n = sep.size * (elems.length - 1) + lensTo elems k) ∧ (lensTo elems k ≤ lensTo elems elems.length) ∧ ∃ eb9, e7 = envL [(0, (slV helems elems)), (1, (.string sep)), (4, (.string ByteArray.empty)), (5, (.int .i64 ((n : Nat) : Int))), (39, (slV helems elems)), (40, (.int .i64 ((elems.length : Nat) : Int))), (41, (.int .i64 ((k : Nat) : Int)))] eb9 ∧ Ctx w nob w8 [] [slI (Old w) encS 1 helems elems]) _ ⟨0, (0 + sep.size * (elems.length - 1)), rfl, (Nat.zero_le _), (by rw [show lensTo elems 0 = 0 from rfl]; omega), (lensTo_le (Nat.zero_le _) (Nat.le_refl _)), _, envL_self ⟨rfl, rfl, rfl, rfl, rfl, rfl, rfl, trivial⟩, H1⟩ ?_
     rintro m6 _ w8 ⟨k, n, rfl, hk, hn, hle, eb9, rfl, H10⟩
     refine W_seq (W_reg ?_)
     refine O_v rfl (R_cmp (a := ((k : Nat) : Int)) (b := ((elems.length : Nat) : Int)) (r := (decide (((k : Nat) : Int) < ((elems.length : Nat) : Int)))) rfl rfl rfl ?_)
     refine O_nil (Then_n (W_seq ?_))
     refine W_cond (t := (decide (((k : Nat) : Int) < ((elems.length : Nat) : Int)))) rfl (fun hc11 => ?_) (fun hc11 => ?_)
     ·have hc11 : (((k : Nat) : Int) < ((elems.length : Nat) : Int)) := (of_decide_eq_true hc11)
      refine W_skip (Then_n (W_seq (W_block (W_seq (W_reg ?_)))))
      refine O_v rfl (R_index_pure (H10.sl 0 rfl) (n := elems.length) rfl (j := ((k : Nat) : Int)) (oo := (helems.o + k * 1)) Try.underlying65 Try.sizeOf9 rfl rfl (by omega) (by omega) rfl ?_)
      refine O_v rfl (R_load1 (v := (.string (nth elems k))) Try.isAgg9 rfl ((Sl.elem (H10.sl 0 rfl) (i := k) (by omega) rfl).chunks 0 1 0 (helems.o + k * 1) _ rfl rfl rfl) ?_)
      refine O_v rfl (R_assign (v := (.string (nth elems k))) rfl ?_)
      refine O_nil (Then_n (W_seq (W_seq (W_reg ?_))))
      refine O_v rfl (R_move (v := (.string (nth elems k))) rfl ?_)
      refine O_v rfl (R_len_string Try.underlying9 rfl ?_)
      refine O_v rfl (R_move (v := (.int .i64 ((n : Nat) : Int))) rfl ?_)
      refine O_v rfl (R_arith (a := 9223372036854775807) (b := ((n : Nat) : Int)) (r0 := 9223372036854775807 - ((n : Nat) : Int)) (r := 9223372036854775807 - ((n : Nat) : Int)) rfl rfl rfl (w64 _ (by omega)) ?_)
      refine O_v rfl (R_cmp (a := (((nth elems k).size : Nat) : Int)) (b := (9223372036854775807 - ((n : Nat) : Int))) (r := (decide ((9223372036854775807 - ((n : Nat) : Int)) < (((nth elems k).size : Nat) : Int)))) rfl rfl rfl ?_)
      refine O_nil (Then_n ?_)
      refine W_cond (t := (decide ((9223372036854775807 - ((n : Nat) : Int)) < (((nth elems k).size : Nat) : Int)))) rfl (fun hc12 => ?_) (fun hc12 => ?_)
      ·have hc12 : ((9223372036854775807 - ((n : Nat) : Int)) < (((nth elems k).size : Nat) : Int)) := (of_decide_eq_true hc12)
       exfalso; have h1 := lensTo_succ (xs := elems) (k := k) (by omega); have h2 := lensTo_le (xs := elems) (j := k + 1) (k := elems.length) (by omega) (Nat.le_refl _); omega
      ·have hc12 : ¬ ((9223372036854775807 - ((n : Nat) : Int)) < (((nth elems k).size : Nat) : Int)) := (of_decide_eq_false hc12)
       refine W_skip (Then_n (W_reg ?_))
       refine O_v rfl (R_move (v := (.int .i64 ((n : Nat) : Int))) rfl ?_)
       refine O_v rfl (R_move (v := (.string (nth elems k))) rfl ?_)
       refine O_v rfl (R_len_string Try.underlying9 rfl ?_)
       refine O_v rfl (R_arith (a := ((n : Nat) : Int)) (b := (((nth elems k).size : Nat) : Int)) (r0 := ((n : Nat) : Int) + (((nth elems k).size : Nat) : Int)) (r := ((n + (nth elems k).size : Nat) : Int)) rfl rfl rfl (by have h1 := lensTo_succ (xs := elems) (k := k) (by omega); have h2 := lensTo_le (xs := elems) (j := k + 1) (k := elems.length) (by omega) (Nat.le_refl _); rw [← Int.natCast_add]; exact w64 _ (by omega)) ?_)
       refine O_v rfl (R_assign (v := (.int .i64 ((n + (nth elems k).size : Nat) : Int))) rfl ?_)
       refine O_nil (Blk_n (Then_n (W_reg ?_)))
       refine O_v rfl (R_arith (a := ((k : Nat) : Int)) (b := 1) (r0 := ((k : Nat) : Int) + 1) (r := ((k + 1 : Nat) : Int)) rfl rfl rfl (wrapN _ (by omega)) ?_)
       refine O_v rfl (R_move (v := (.int .i64 ((k + 1 : Nat) : Int))) rfl ?_)
       refine O_nil (Then_n ?_)
       refine ⟨_, ?_, (k + 1), (n + (nth elems k).size), rfl, (by omega), (by rw [lensTo_succ (by omega)]; omega), (lensTo_le (by omega) (Nat.le_refl _)), _, envL_self ⟨rfl, rfl, rfl, rfl, rfl, rfl, rfl, trivial⟩, H10⟩
       omega
     ·have hc11 : ¬ (((k : Nat) : Int) < ((elems.length : Nat) : Int)) := (of_decide_eq_false hc11)
      refine W_exit (Then_x (Then_x (Blk_x (Then_n (W_seq (W_reg ?_))))))
      refine O_v rfl (C_alloc H10 [[(.pointer none)], [(.slice none 0 0)]] Try.zeroValue81 ?_)
      intro b13 w14 hb15 hx16 H17
      refine O_nil (Then_n (W_seq (W_reg ?_)))
      refine O_v rfl (R_move (v := (.int .i64 ((n : Nat) : Int))) rfl ?_)
      refine O_v rfl (R_callL (vs := [(.pointer (some ⟨b13, 0, none⟩)), (.int .i64 ((n : Nat) : Int))]) strings_Join_c43 rfl rfl ((Any.Builder_Grow_fresh laysJ165 laysJX w.heap.size b13 n w14 (Ctx.boxNew H17 0 rfl) (H17.getOwn 0 rfl) H17.gr.size (by have h2 : k = elems.length := (by omega); subst h2; omega)).mono ?_))
      rintro _ w18 ⟨rfl, hB19, hb20⟩
      refine ⟨_, rfl, ?_⟩
      have H21 := H17.below hb20 (List.forall_mem_cons.2 ⟨fun _ h => h, fun _ h => (nomatch h)⟩)
      refine O_nil (Then_n (W_seq (W_reg ?_)))
      refine O_v rfl (R_move (v := (slV helems elems)) rfl ?_)
      refine O_v rfl (R_index_pure (H21.sl 0 rfl) (n := elems.length) rfl (j := 0) (oo := (helems.o + 0 * 1)) Try.underlying65 Try.sizeOf9 rfl rfl (by omega) (by omega) rfl ?_)
      refine O_v rfl (R_load1 (v := (.string (nth elems 0))) Try.isAgg9 rfl ((Sl.elem (H21.sl 0 rfl) (i := 0) (by omega) rfl).chunks 0 1 0 (helems.o + 0 * 1) _ rfl rfl rfl) ?_)
      refine O_v rfl (R_callL (vs := [(.pointer (some ⟨b13, 0, none⟩)), (.string (nth elems 0))]) strings_Join_c44 rfl rfl ((Any.Builder_WriteString laysJ166 laysJX w.heap.size b13 (Lib.byteCells ([] : List UInt8)) (nth elems 0) w18 (Or.inr hB19) (by rw [byteCells_len]; have := joinTo_le (xs := elems) (sep := sep) (j := 1) (by omega) (by omega); rw [joinTo_one (by omega), size_data] at this; simp only [List.length_nil]; omega) H21.gr.size).mono ?_))
      rintro _ w22 ⟨rfl, hB23, hb24⟩
      refine ⟨_, rfl, ?_⟩
      have H25 := H21.below hb24 (List.forall_mem_cons.2 ⟨fun _ h => h, fun _ h => (nomatch h)⟩)
      have hB26 : Lib.IsBuilder 81 5 w.heap.size b13 (Lib.byteCells (([] : List UInt8) ++ (nth elems 0).data.toList)) w22 := byteCells_app ([] : List UInt8) (nth elems 0) ▸ Or.inr hB23
      refine O_nil (Then_n (W_seq (W_seq (W_reg ?_))))
      refine O_v rfl (R_move (v := (slV helems elems)) rfl ?_)
      refine O_v rfl (R_sliceS (h := helems) (l := elems) (a := 1) (b := elems.length) (m := helems.c) (elems.drop 1) Try.underlying65 Try.sizeOf9 rfl rfl rfl rfl (by decide) (by omega) (by first | omega | exact Nat.le_refl _) (by have := Sl.cap (H25.sl 0 rfl); omega) (by first | omega | exact Nat.le_refl _) (by rw [List.take_length])  ?_)
      refine O_v rfl (R_len_slice (a := (hSub helems 1 1 helems.c).a) (n := (elems.drop 1).length) (c := (hSub helems 1 1 helems.c).c) Try.underlying65 rfl ?_)
      refine O_v rfl (R_move (v := (.int .i64 0)) rfl ?_)
      refine O_nil (Then_n (W_block ?_))
      refine W_loop (fun m27 e28 w29 => ∃ (j : Nat), m27 = elems.length - j ∧ (j ≤ elems.length - 1) ∧ (Lib.IsBuilder 81 5 w.heap.size b13 (Lib.byteCells (joinTo elems sep (j + 1))) w29) ∧ ∃ eb30, e28 = envL [(1, (.string sep)), (4, (.string ByteArray.empty)), (8, (.pointer (some ⟨b13, 0, none⟩))), (63, (slV (hSub helems 1 1 helems.c) (elems.drop 1))), (64, (.int .i64 (((elems.drop 1).length : Nat) : Int))), (65, (.int .i64 ((j : Nat) : Int)))] eb30 ∧ Ctx w nob w29 [] [slI (Old w) encS 1 helems elems]) _ ⟨0, rfl, (Nat.zero_le _), (by rw [joinTo_one (by omega)]; exact hB26), _, envL_self ⟨rfl, rfl, rfl, rfl, rfl, rfl, trivial⟩, H25⟩ ?_
      rintro m27 _ w29 ⟨j, rfl, hj, hB, eb30, rfl, H31⟩
      refine W_seq (W_reg ?_)
      refine O_v rfl (R_cmp (a := ((j : Nat) : Int)) (b := (((elems.drop 1).length : Nat) : Int)) (r := (decide (((j : Nat) : Int) < (((elems.drop 1).length : Nat) : Int)))) rfl rfl rfl ?_)
      refine O_nil (Then_n (W_seq ?_))
      refine W_cond (t := (decide (((j : Nat) : Int) < (((elems.drop 1).length : Nat) : Int)))) rfl (fun hc32 => ?_) (fun hc32 => ?_)
      ·have hc32 : (((j : Nat) : Int) < (((elems.drop 1).length : Nat) : Int)) := (of_decide_eq_true hc32)
       refine W_skip (Then_n (W_seq (W_block (W_seq (W_reg ?_)))))
       refine O_v rfl (R_index_pure (Sl.sub (H31.sl 0 rfl) 1 elems.length helems.c (by omega) (by first | omega | exact Nat.le_refl _) (by have := Sl.cap (H25.sl 0 rfl); omega) (by first | omega | exact Nat.le_refl _) (by rw [List.take_length])) (n := (elems.drop 1).length) rfl (j := ((j : Nat) : Int)) (oo := ((hSub helems 1 1 helems.c).o + j * 1)) Try.underlying65 Try.sizeOf9 rfl rfl (by omega) (by omega) rfl ?_)
       refine O_v rfl (R_load1 (v := (.string (nth (elems.drop 1) j))) Try.isAgg9 rfl ((Sl.elem (Sl.sub (H31.sl 0 rfl) 1 elems.length helems.c (by omega) (by first | omega | exact Nat.le_refl _) (by have := Sl.cap (H25.sl 0 rfl); omega) (by first | omega | exact Nat.le_refl _) (by rw [List.take_length])) (i := j) (by omega) rfl).chunks 0 1 0 ((hSub helems 1 1 helems.c).o + j * 1) _ rfl rfl rfl) ?_)
       refine O_v rfl (R_assign (v := (.string (nth (elems.drop 1) j))) rfl ?_)
       refine O_nil (Then_n (W_seq (W_reg ?_)))
       refine O_v rfl (R_move (v := (.string sep)) rfl ?_)
       refine O_v rfl (R_callL (vs := [(.pointer (some ⟨b13, 0, none⟩)), (.string sep)]) strings_Join_c44 rfl rfl ((Any.Builder_WriteString laysJ166 laysJX w.heap.size b13 (Lib.byteCells (joinTo elems sep (j + 1))) sep w29 hB (joinRoom1 htot (by have h := List.length_drop (i := 1) (l := elems); omega)) H31.gr.size).mono ?_))
       rintro _ w33 ⟨rfl, hB34, hb35⟩
       refine ⟨_, rfl, ?_⟩
       have H36 := H31.below hb35 (List.forall_mem_cons.2 ⟨fun _ h => h, fun _ h => (nomatch h)⟩)
       have hB37 : Lib.IsBuilder 81 5 w.heap.size b13 (Lib.byteCells ((joinTo elems sep (j + 1)) ++ sep.data.toList)) w33 := byteCells_app (joinTo elems sep (j + 1)) sep ▸ Or.inr hB34
       refine O_nil (Then_n (W_reg ?_))
       refine O_v rfl (R_move (v := (.string (nth (elems.drop 1) j))) rfl ?_)
       refine O_v rfl (R_callL (vs := [(.pointer (some ⟨b13, 0, none⟩)), (.string (nth (elems.drop 1) j))]) strings_Join_c44 rfl rfl ((Any.Builder_WriteString laysJ166 laysJX w.heap.size b13 (Lib.byteCells ((joinTo elems sep (j + 1)) ++ sep.data.toList)) (nth (elems.drop 1) j) w33 hB37 (joinRoom2 htot (by have h := List.length_drop (i := 1) (l := elems); omega)) H36.gr.size).mono ?_))
       rintro _ w38 ⟨rfl, hB39, hb40⟩
       refine ⟨_, rfl, ?_⟩
       have H41 := H36.below hb40 (List.forall_mem_cons.2 ⟨fun _ h => h, fun _ h => (nomatch h)⟩)
       have hB42 : Lib.IsBuilder 81 5 w.heap.size b13 (Lib.byteCells (((joinTo elems sep (j + 1)) ++ sep.data.toList) ++ (nth (elems.drop 1) j).data.toList)) w38 := byteCells_app ((joinTo elems sep (j + 1)) ++ sep.data.toList) (nth (elems.drop 1) j) ▸ Or.inr hB39
       refine O_nil (Blk_n (Then_n (W_reg ?_)))
       refine O_v rfl (R_arith (a := ((j : Nat) : Int)) (b := 1) (r0 := ((j : Nat) : Int) + 1) (r := ((j + 1 : Nat) : Int)) rfl rfl rfl (wrapN _ (by omega)) ?_)
       refine O_v rfl (R_move (v := (.int .i64 ((j + 1 : Nat) : Int))) rfl ?_)
       refine O_nil (Then_n ?_)
       refine ⟨_, ?_, (j + 1), rfl, (by simp only [List.length_drop] at *; omega), (by rw [joinTo_succ (by omega) (by simp only [List.length_drop] at *; omega)]; exact nth_drop1 (xs := elems) (j := j) ▸ hB42), _, envL_self ⟨rfl, rfl, rfl, rfl, rfl, rfl, trivial⟩, H41⟩
       simp only [List.length_drop] at *; omega
      ·have hc32 : ¬ (((j : Nat) : Int) < (((elems.drop 1).length : Nat) : Int)) := (of_decide_eq_false hc32)
       refine W_exit (Then_x (Then_x (Blk_x (Then_n (W_seq (W_reg ?_))))))
       refine O_v rfl (R_callL (vs := [(.pointer (some ⟨b13, 0, none⟩))]) strings_Join_c45 rfl rfl ((Any.Builder_String_any laysJ169 laysJX w.heap.size b13 (joinTo elems sep (j + 1)) w29 hB H31.gr.size).mono ?_))
       rintro _ w43 ⟨rfl, hb45⟩
       refine ⟨_, rfl, ?_⟩
       have H46 := H31.below hb45 (List.forall_mem_cons.2 ⟨fun _ h => h, fun _ h => (nomatch h)⟩)
       refine O_v rfl (R_assign (v := (.string (⟨(joinTo elems sep (j + 1)).toArray⟩ : ByteArray))) rfl ?_)
       refine O_nil (Then_n (W_ret ?_))
       refine ret_1 (v := (.string (⟨(joinTo elems sep (j + 1)).toArray⟩ : ByteArray))) Try.results33 rfl ?_
       exact ⟨(by rw [joinB_of (j := j) (by have h := List.length_drop (i := 1) (l := elems); omega)]), H46.gr⟩
   ·have hc4 : ¬ (0 < ((sep.size : Nat) : Int)) := (of_decide_eq_false hc4)
    refine W_skip (Then_n (W_seq (W_seq (W_reg ?_))))
    refine O_v rfl (R_move (v := (slV helems elems)) rfl ?_)
    refine O_v rfl (R_len_slice (a := helems.a) (n := elems.length) (c := helems.c) Try.underlying65 rfl ?_)
    refine O_v rfl (R_move (v := (.int .i64 0)) rfl ?_)
    refine O_nil (Then_n (W_block ?_))
    refine W_loop (fun m47 e48 w49 => ∃ (k : Nat), ∃ (n : Nat), m47 = elems.length - k ∧ (k ≤ elems.length) ∧ (n = sep.size * (elems.length - 1) + lensTo elems k) ∧ (lensTo elems k ≤ lensTo elems elems.length) ∧ ∃ eb50, e48 = envL [(0, (slV helems elems)), (1, (.string sep)), (4, (.string ByteArray.empty)), (5, (.int .i64 ((n : Nat) : Int))), (39, (slV helems elems)), (40, (.int .i64 ((elems.length : Nat) : Int))), (41, (.int .i64 ((k : Nat) : Int)))] eb50 ∧ Ctx w nob w49 [] [slI (Old w) encS 1 helems elems]) _ ⟨0, 0, rfl, (Nat.zero_le _), (by rw [show sep.size = 0 from by omega, show lensTo elems 0 = 0 from rfl]; omega), (lensTo_le (Nat.zero_le _) (Nat.le_refl _)), _, envL_self ⟨rfl, rfl, rfl, rfl, rfl, rfl, rfl, trivial⟩, H1⟩ ?_
    rintro m47 _ w49 ⟨k, n, rfl, hk, hn, hle, eb50, rfl, H51⟩
    refine W_seq (W_reg ?_)
    refine O_v rfl (R_cmp (a := ((k : Nat) : Int)) (b := ((elems.length : Nat) : Int)) (r := (decide (((k : Nat) : Int) < ((elems.length : Nat) : Int)))) rfl rfl rfl ?_)
    refine O_nil (Then_n (W_seq ?_))
    refine W_cond (t := (decide (((k : Nat) : Int) < ((elems.length : Nat) : Int)))) rfl (fun hc52 => ?_) (fun hc52 => ?_)
    ·have hc52 : (((k : Nat) : Int) < ((elems.length : Nat) : Int)) := (of_decide_eq_true hc52)
     refine W_skip (Then_n (W_seq (W_block (W_seq (W_reg ?_)))))
     refine O_v rfl (R_index_pure (H51.sl 0 rfl) (n := elems.length) rfl (j := ((k : Nat) : Int)) (oo := (helems.o + k * 1)) Try.underlying65 Try.sizeOf9 rfl rfl (by omega) (by omega) rfl ?_)
     refine O_v rfl (R_load1 (v := (.string (nth elems k))) Try.isAgg9 rfl ((Sl.elem (H51.sl 0 rfl) (i := k) (by omega) rfl).chunks 0 1 0 (helems.o + k * 1) _ rfl rfl rfl) ?_)
     refine O_v rfl (R_assign (v := (.string (nth elems k))) rfl ?_)
     refine O_nil (Then_n (W_seq (W_seq (W_reg ?_))))
     refine O_v rfl (R_move (v := (.string (nth elems k))) rfl ?_)
     refine O_v rfl (R_len_string Try.underlying9 rfl ?_)
     refine O_v rfl (R_move (v := (.int .i64 ((n : Nat) : Int))) rfl ?_)
     refine O_v rfl (R_arith (a := 9223372036854775807) (b := ((n : Nat) : Int)) (r0 := 9223372036854775807 - ((n : Nat) : Int)) (r := 9223372036854775807 - ((n : Nat) : Int)) rfl rfl rfl (w64 _ (by omega)) ?_)
     refine O_v rfl (R_cmp (a := (((nth elems k).size : Nat) : Int)) (b := (9223372036854775807 - ((n : Nat) : Int))) (r := (decide ((9223372036854775807 - ((n : Nat) : Int)) < (((nth elems k).size : Nat) : Int)))) rfl rfl rfl ?_)
     refine O_nil (Then_n ?_)
     refine W_cond (t := (decide ((9223372036854775807 - ((n : Nat) : Int)) < (((nth elems k).size : Nat) : Int)))) rfl (fun hc53 => ?_) (fun hc53 => ?_)
     ·have hc53 : ((9223372036854775807 - ((n : Nat) : Int)) < (((nth elems k).size : Nat) : Int)) := (of_decide_eq_true hc53)
      exfalso; have h1 := lensTo_succ (xs := elems) (k := k) (by omega); have h2 := lensTo_le (xs := elems) (j := k + 1) (k := elems.length) (by omega) (Nat.le_refl _); omega
     ·have hc53 : ¬ ((9223372036854775807 - ((n : Nat) : Int)) < (((nth elems k).size : Nat) : Int)) := (of_decide_eq_false hc53)
      refine W_skip (Then_n (W_reg ?_))
      refine O_v rfl (R_move (v := (.int .i64 ((n : Nat) : Int))) rfl ?_)
      refine O_v rfl (R_move (v := (.string (nth elems k))) rfl ?_)
      refine O_v rfl (R_len_string Try.underlying9 rfl ?_)
      refine O_v rfl (R_arith (a := ((n : Nat) : Int)) (b := (((nth elems k).size : Nat) : Int)) (r0 := ((n : Nat) : Int) + (((nth elems k).size : Nat) : Int)) (r := ((n + (nth elems k).size : Nat) : Int)) rfl rfl rfl (by have h1 := lensTo_succ (xs := elems) (k := k) (by omega); have h2 := lensTo_le (xs := elems) (j := k + 1) (k := elems.length) (by omega) (Nat.le_refl _); rw [← Int.natCast_add]; exact w64 _ (by omega)) ?_)
      refine O_v rfl (R_assign (v := (.int .i64 ((n + (nth elems k).size : Nat) : Int))) rfl ?_)
      refine O_nil (Blk_n (Then_n (W_reg ?_)))
      refine O_v rfl (R_arith (a := ((k : Nat) : Int)) (b := 1) (r0 := ((k : Nat) : Int) + 1) (r := ((k + 1 : Nat) : Int)) rfl rfl rfl (wrapN _ (by omega)) ?_)
      refine O_v rfl (R_move (v := (.int .i64 ((k + 1 : Nat) : Int))) rfl ?_)
      refine O_nil (Then_n ?_)
      refine ⟨_, ?_, (k + 1), (n + (nth elems k).size), rfl, (by omega), (by rw [lensTo_succ (by omega)]; omega), (lensTo_le (by omega) (Nat.le_refl _)), _, envL_self ⟨rfl, rfl, rfl, rfl, rfl, rfl, rfl, trivial⟩, H51⟩
      omega
    ·have hc52 : ¬ (((k : Nat) : Int) < ((elems.length : Nat) : Int)) := (of_decide_eq_false hc52)
     refine W_exit (Then_x (Then_x (Blk_x (Then_n (W_seq (W_reg ?_))))))
     refine O_v rfl (C_alloc H51 [[(.pointer none)], [(.slice none 0 0)]] Try.zeroValue81 ?_)
     intro b54 w55 hb56 hx57 H58
     refine O_nil (Then_n (W_seq (W_reg ?_)))
     refine O_v rfl (R_move (v := (.int .i64 ((n : Nat) : Int))) rfl ?_)
     refine O_v rfl (R_callL (vs := [(.pointer (some ⟨b54, 0, none⟩)), (.int .i64 ((n : Nat) : Int))]) strings_Join_c43 rfl rfl ((Any.Builder_Grow_fresh laysJ165 laysJX w.heap.size b54 n w55 (Ctx.boxNew H58 0 rfl) (H58.getOwn 0 rfl) H58.gr.size (by have h2 : k = elems.length := (by omega); subst h2; omega)).mono ?_))
     rintro _ w59 ⟨rfl, hB60, hb61⟩
     refine ⟨_, rfl, ?_⟩
     have H62 := H58.below hb61 (List.forall_mem_cons.2 ⟨fun _ h => h, fun _ h => (nomatch h)⟩)
     refine O_nil (Then_n (W_seq (W_reg ?_)))
     refine O_v rfl (R_move (v := (slV helems elems)) rfl ?_)
     refine O_v rfl (R_index_pure (H62.sl 0 rfl) (n := elems.length) rfl (j := 0) (oo := (helems.o + 0 * 1)) Try.underlying65 Try.sizeOf9 rfl rfl (by omega) (by omega) rfl ?_)
     refine O_v rfl (R_load1 (v := (.string (nth elems 0))) Try.isAgg9 rfl ((Sl.elem (H62.sl 0 rfl) (i := 0) (by omega) rfl).chunks 0 1 0 (helems.o + 0 * 1) _ rfl rfl rfl) ?_)
     refine O_v rfl (R_callL (vs := [(.pointer (some ⟨b54, 0, none⟩)), (.string (nth elems 0))]) strings_Join_c44 rfl rfl ((Any.Builder_WriteString laysJ166 laysJX w.heap.size b54 (Lib.byteCells ([] : List UInt8)) (nth elems 0) w59 (Or.inr hB60) (by rw [byteCells_len]; have := joinTo_le (xs := elems) (sep := sep) (j := 1) (by omega) (by omega); rw [joinTo_one (by omega), size_data] at this; simp only [List.length_nil]; omega) H62.gr.size).mono ?_))
     rintro _ w63 ⟨rfl, hB64, hb65⟩
     refine ⟨_, rfl, ?_⟩
     have H66 := H62.below hb65 (List.forall_mem_cons.2 ⟨fun _ h => h, fun _ h => (nomatch h)⟩)
     have hB67 : Lib.IsBuilder 81 5 w.heap.size b54 (Lib.byteCells (([] : List UInt8) ++ (nth elems 0).data.toList)) w63 := byteCells_app ([] : List UInt8) (nth elems 0) ▸ Or.inr hB64
     refine O_nil (Then_n (W_seq (W_seq (W_reg ?_))))
     refine O_v rfl (R_move (v := (slV helems elems)) rfl ?_)
     refine O_v rfl (R_sliceS (h := helems) (l := elems) (a := 1) (b := elems.length) (m := helems.c) (elems.drop 1) Try.underlying65 Try.sizeOf9 rfl rfl rfl rfl (by decide) (by omega) (by first | omega | exact Nat.le_refl _) (by have := Sl.cap (H66.sl 0 rfl); omega) (by first | omega | exact Nat.le_refl _) (by rw [List.take_length])  ?_)
     refine O_v rfl (R_len_slice (a := (hSub helems 1 1 helems.c).a) (n := (elems.drop 1).length) (c := (hSub helems 1 1 helems.c).c) Try.underlying65 rfl ?_)
     refine O_v rfl (R_move (v := (.int .i64 0)) rfl ?_)
     refine O_nil (Then_n (W_block ?_))
     refine W_loop (fun m68 e69 w70 => ∃ (j : Nat), m68 = elems.length - j ∧ (j ≤ elems.length - 1) ∧ (Lib.IsBuilder 81 5 w.heap.size b54 (Lib.byteCells (joinTo elems sep (j + 1))) w70) ∧ ∃ eb71, e69 = envL [(1, (.string sep)), (4, (.string ByteArray.empty)), (8, (.pointer (some ⟨b54, 0, none⟩))), (63, (slV (hSub helems 1 1 helems.c) (elems.drop 1))), (64, (.int .i64 (((elems.drop 1).length : Nat) : Int))), (65, (.int .i64 ((j : Nat) : Int)))] eb71 ∧ Ctx w nob w70 [] [slI (Old w) encS 1 helems elems]) _ ⟨0, rfl, (Nat.zero_le _), (by rw [joinTo_one (by omega)]; exact hB67), _, envL_self ⟨rfl, rfl, rfl, rfl, rfl, rfl, trivial⟩, H66⟩ ?_
     rintro m68 _ w70 ⟨j, rfl, hj, hB, eb71, rfl, H72⟩
     refine W_seq (W_reg ?_)
     refine O_v rfl (R_cmp (a := ((j : Nat) : Int)) (b := (((elems.drop 1).length : Nat) : Int)) (r := (decide (((j : Nat) : Int) < (((elems.drop 1).length : Nat) : Int)))) rfl rfl rfl ?_)
     refine O_nil (Then_n (W_seq ?_))
     refine W_cond (t := (decide (((j : Nat) : Int) < (((elems.drop 1).length : Nat) : Int)))) rfl (fun hc73 => ?_) (fun hc73 => ?_)
     ·have hc73 : (((j : Nat) : Int) < (((elems.drop 1).length : Nat) : Int)) := (of_decide_eq_true hc73)
      refine W_skip (Then_n (W_seq (W_block (W_seq (W_reg ?_)))))
      refine O_v rfl (R_index_pure (Sl.sub (H72.sl 0 rfl) 1 elems.length helems.c (by omega) (by first | omega | exact Nat.le_refl _) (by have := Sl.cap (H66.sl 0 rfl); omega) (by first | omega | exact Nat.le_refl _) (by rw [List.take_length])) (n := (elems.drop 1).length) rfl (j := ((j : Nat) : Int)) (oo := ((hSub helems 1 1 helems.c).o + j * 1)) Try.underlying65 Try.sizeOf9 rfl rfl (by omega) (by omega) rfl ?_)
      refine O_v rfl (R_load1 (v := (.string (nth (elems.drop 1) j))) Try.isAgg9 rfl ((Sl.elem (Sl.sub (H72.sl 0 rfl) 1 elems.length helems.c (by omega) (by first | omega | exact Nat.le_refl _) (by have := Sl.cap (H66.sl 0 rfl); omega) (by first | omega | exact Nat.le_refl _) (by rw [List.take_length])) (i := j) (by omega) rfl).chunks 0 1 0 ((hSub helems 1 1 helems.c).o + j * 1) _ rfl rfl rfl) ?_)
      refine O_v rfl (R_assign (v := (.string (nth (elems.drop 1) j))) rfl ?_)
      refine O_nil (Then_n (W_seq (W_reg ?_)))
      refine O_v rfl (R_move (v := (.string sep)) rfl ?_)
      refine O_v rfl (R_callL (vs := [(.pointer (some ⟨b54, 0, none⟩)), (.string sep)]) strings_Join_c44 rfl rfl ((Any.Builder_WriteString laysJ166 laysJX w.heap.size b54 (Lib.byteCells (joinTo elems sep (j + 1))) sep w70 hB (joinRoom1 htot (by have h := List.length_drop (i := 1) (l := elems); omega)) H72.gr.size).mono ?_))
      rintro _ w74 ⟨rfl, hB75, hb76⟩
      refine ⟨_, rfl, ?_⟩
      have H77 := H72.below hb76 (List.forall_mem_cons.2 ⟨fun _ h => h, fun _ h => (nomatch h)⟩)
      have hB78 : Lib.IsBuilder 81 5 w.heap.size b54 (Lib.byteCells ((joinTo elems sep (j + 1)) ++ sep.data.toList)) w74 := byteCells_app (joinTo elems sep (j + 1)) sep ▸ Or.inr hB75
      refine O_nil (Then_n (W_reg ?_))
      refine O_v rfl (R_move (v := (.string (nth (elems.drop 1) j))) rfl ?_)
      refine O_v rfl (R_callL (vs := [(.pointer (some ⟨b54, 0, none⟩)), (.string (nth (elems.drop 1) j))]) strings_Join_c44 rfl rfl ((Any.Builder_WriteString laysJ166 laysJX w.heap.size b54 (Lib.byteCells ((joinTo elems sep (j + 1)) ++ sep.data.toList)) (nth (elems.drop 1) j) w74 hB78 (joinRoom2 htot (by have h := List.length_drop (i := 1) (l := elems); omega)) H77.gr.size).mono ?_))
      rintro _ w79 ⟨rfl, hB80, hb81⟩
      refine ⟨_, rfl, ?_⟩
      have H82 := H77.below hb81 (List.forall_mem_cons.2 ⟨fun _ h => h, fun _ h => (nomatch h)⟩)
      have hB83 : Lib.IsBuilder 81 5 w.heap.size b54 (Lib.byteCells (((joinTo elems sep (j + 1)) ++ sep.data.toList) ++ (nth (elems.drop 1) j).data.toList)) w79 := byteCells_app ((joinTo elems sep (j + 1)) ++ sep.data.toList) (nth (elems.drop 1) j) ▸ Or.inr hB80
      refine O_nil (Blk_n (Then_n (W_reg ?_)))
      refine O_v rfl (R_arith (a := ((j : Nat) : Int)) (b := 1) (r0 := ((j : Nat) : Int) + 1) (r := ((j + 1 : Nat) : Int)) rfl rfl rfl (wrapN _ (by omega)) ?_)
      refine O_v rfl (R_move (v := (.int .i64 ((j + 1 : Nat) : Int))) rfl ?_)
      refine O_nil (Then_n ?_)
      refine ⟨_, ?_, (j + 1), rfl, (by simp only [List.length_drop] at *; omega), (by rw [joinTo_succ (by omega) (by simp only [List.length_drop] at *; omega)]; exact nth_drop1 (xs := elems) (j := j) ▸ hB83), _, envL_self ⟨rfl, rfl, rfl, rfl, rfl, rfl, trivial⟩, H82⟩
      simp only [List.length_drop] at *; omega
     ·have hc73 : ¬ (((j : Nat) : Int) < (((elems.drop 1).length : Nat) : Int)) := (of_decide_eq_false hc73)
      refine W_exit (Then_x (Then_x (Blk_x (Then_n (W_seq (W_reg ?_))))))
      refine O_v rfl (R_callL (vs := [(.pointer (some ⟨b54, 0, none⟩))]) strings_Join_c45 rfl rfl ((Any.Builder_String_any laysJ169 laysJX w.heap.size b54 (joinTo elems sep (j + 1)) w70 hB H72.gr.size).mono ?_))
      rintro _ w84 ⟨rfl, hb86⟩
      refine ⟨_, rfl, ?_⟩
      have H87 := H72.below hb86 (List.forall_mem_cons.2 ⟨fun _ h => h, fun _ h => (nomatch h)⟩)
      refine O_v rfl (R_assign (v := (.string (⟨(joinTo elems sep (j + 1)).toArray⟩ : ByteArray))) rfl ?_)
      refine O_nil (Then_n (W_ret ?_))
      refine ret_1 (v := (.string (⟨(joinTo elems sep (j + 1)).toArray⟩ : ByteArray))) Try.results33 rfl ?_
      exact ⟨(by rw [joinB_of (j := j) (by have h := List.length_drop (i := 1) (l := elems); omega)]), H87.gr⟩

end Go.Proofs.Ytiknfldhommmpaa
