/- Proved: for every input, pollardlaw14.DifferOrder returns true and leaves its arguments as they were. No condition. -/
import Derived.Test.YtiknfldhommmpaaProg
import Derived.Test.YtiknfldhommmpaaX0
/- From a statement's reading of its arguments to lists in memory, and back. -/
namespace Go.Proofs.Ytiknfldhommmpaa
open Go Go.ChangeShapes Go.WideShapes Go.RowKit
set_option linter.unusedVariables false
set_option linter.unusedSimpArgs false
set_option linter.unusedSectionVars false

/-- What reads as data of a type is one of these; no weight of it is over R. -/
structure Rd (P : Program) (W : World) (R : Nat) (t : TypeId) {α : Type} (en : α → List Value) (ok : α → Prop) : Prop where
  out : ∀ {H : Type} {enc : TypeId × Value → H} {fuel : Nat} {cs : List Value} {x : DataW H × List MemPlace}, DataW.trod enc P W 0 (fun _ => true) true fuel t cs = some x → (∀ k ∈ x.1.weights P t, k ≤ R) → ∃ a, cs = en a ∧ ok a

section
variable {P : Program} {W : World} {R : Nat} {t : TypeId}
theorem Rd_int {k : IntKind} (h : P.underlying t = some (.int k)) : Rd P W R t (fun n : Int => [.int k n]) (fun n => (Lit.int k n).wf = true) :=
  ⟨fun h1 _ => by
    obtain ⟨n, h2, _, h3⟩ := DataW.trod_int h h1
    exact ⟨n, h2, h3⟩⟩
theorem Rd_bool (h : P.underlying t = some .bool) : Rd P W R t (fun b : Bool => [.bool b]) (fun _ => True) :=
  ⟨fun h1 _ => by
    obtain ⟨n, h2, _⟩ := DataW.trod_bool h h1
    exact ⟨n, h2, trivial⟩⟩
theorem Rd_str (h : P.underlying t = some .string) : Rd P W R t (fun s : ByteArray => [.string s]) (fun s => s.size ≤ R) :=
  ⟨fun h1 hw => by
    obtain ⟨s, h2, hx, h3⟩ := DataW.trod_string h h1
    refine ⟨s, h2, ?_⟩
    subst hx
    have := hw s.data.toList.length (by simp [DataW.weights])
    simpa using this⟩
theorem list_of_lt {α : Type} {p : Nat → α → Prop} : ∀ {n : Nat}, (∀ i, i < n → ∃ x, p i x) → ∃ l : List α, l.length = n ∧ ∀ i x, l[i]? = some x → p i x
  | 0, _ => ⟨[], rfl, fun i x h => by simp at h⟩
  | n + 1, h => by
    obtain ⟨l, h1, h2⟩ := list_of_lt (n := n) fun i hi => h i (by omega)
    obtain ⟨x, hx⟩ := h n (by omega)
    refine ⟨l ++ [x], by simp [h1], fun i y hy => ?_⟩
    by_cases hi : i < l.length
    · rw [List.getElem?_append_left hi] at hy; exact h2 i y hy
    · have : i = l.length := by
        have := (List.getElem?_eq_some_iff.1 hy).1
        simp at this; omega
      subst this
      rw [List.getElem?_append_right (Nat.le_refl _)] at hy
      simp at hy
      subst hy; rw [h1]; exact hx
theorem spot_none {W : World} {a : Addr} {v : Value} (h : W.cell? a = some v) : a = ⟨a.block, a.off, none⟩ := by
  unfold World.cell? at h
  split at h
  · split at h
    · cases h
    · rename_i hs
      cases a with
      | mk b o s => cases s with
        | none => rfl
        | some _ => simp at hs
  · cases h
theorem weightsAll_mem {H : Type} {e : TypeId} {d : DataW H} : ∀ {l : List (DataW H)}, d ∈ l → ∀ k ∈ d.weights P e, k ∈ DataW.weightsAll P e l
  | x :: r, h, k, hk => by
    unfold DataW.weightsAll
    rw [List.mem_append]
    rcases List.mem_cons.1 h with rfl | h
    · exact .inl hk
    · exact .inr (weightsAll_mem h k hk)
/-- A slice: its elements lie there. -/
theorem Rd_slice {e : TypeId} {n bytes : Nat} {α : Type} {en : α → Chs} {ok : α → Prop} (hu : P.underlying t = some (.slice e)) (hn : P.cellsOf e = n) (hb : P.bytesOf e = bytes) (h0 : 0 < n) (hl : ∀ a, (en a).flatten.length = n) (E : Rd P W R e (fun a => (en a).flatten) ok) :
    Rd P W R t (fun x : SlH × List α => [slV x.1 x.2]) (fun x => Sl (Old W) en n x.1 x.2 W ∧ x.2.length * bytes ≤ R ∧ ∀ a ∈ x.2, ok a) := by
  refine ⟨fun {H enc fuel cs x} h1 hw => ?_⟩
  rcases Deep.open_slice hu h1 with ⟨rfl, rfl⟩ | ⟨a, len, cap, m, k, D, Pl, rfl, _, h2, h3, h4, rfl, h5⟩
  · exact ⟨(nilH, []), rfl, Sl.nil _ _ _ _, by simp, fun _ h => (nomatch h)⟩
  · have h4 : m = cap := h4
    subst h4
    rw [hn] at h5
    have hwe : ∀ i, i < m → ∀ q ∈ (D i).weights P e, q ≤ R := by
      intro i hi q hq
      refine hw q ?_
      unfold DataW.weights
      rw [hu]
      refine List.mem_cons_of_mem _ (List.mem_append.2 ?_)
      by_cases hil : i < len
      · exact .inl (weightsAll_mem (List.mem_map.2 ⟨i, List.mem_range.2 hil, rfl⟩) q hq)
      · exact .inr (weightsAll_mem (List.mem_map.2 ⟨i - len, List.mem_range.2 (by omega), by rw [show len + (i - len) = i from by omega]⟩) q hq)
    obtain ⟨l, hl1, hl2⟩ := list_of_lt (n := len) (p := fun i (x : α) => W.cells? 0 (a.add (i * n)) n = some (en x).flatten ∧ ok x) fun i hi => by
      obtain ⟨cs', h6, h7⟩ := h5 i (by omega)
      obtain ⟨y, h8, h9⟩ := E.out h7 (hwe i (by omega))
      exact ⟨y, by rw [h6, h8], h9⟩
    have cellAt : ∀ i x, l[i]? = some x → ∀ j v, (en x).flatten[j]? = some v → W.cell? ((a.add (i * n)).add j) = some v := by
      intro i x hx j v hv
      obtain ⟨h6, _⟩ := hl2 i x hx
      obtain ⟨_, _, h7⟩ := World.cells?_some h6
      have hj := (List.getElem?_eq_some_iff.1 hv).1
      rw [h7 j (by rw [hl] at hj; exact hj)]; exact hv
    have haddr : 0 < len → a = ⟨a.block, a.off, none⟩ := by
      intro hp
      have h0l : 0 < l.length := by omega
      have hx : l[0]? = some l[0] := List.getElem?_eq_getElem h0l
      have hf : 0 < (en l[0]).flatten.length := by rw [hl]; exact h0
      have := cellAt 0 _ hx 0 _ (List.getElem?_eq_getElem hf)
      rw [Nat.zero_mul] at this
      exact spot_none this
    refine ⟨(⟨some a, a.block, a.off, m⟩, l), by simp [slV, hl1], ⟨by rw [hl1]; exact h2, h3, fun hp => ?_, fun i x hx => ?_⟩, ?_, fun y hy => ?_⟩
    · have e1 := haddr (by rw [← hl1]; exact hp)
      refine ⟨congrArg some e1, ?_⟩
      have hx : l[0]? = some l[0] := List.getElem?_eq_getElem hp
      have hf : 0 < (en l[0]).flatten.length := by rw [hl]; exact h0
      have := cellAt 0 _ hx 0 _ (List.getElem?_eq_getElem hf)
      rw [Nat.zero_mul] at this
      exact World.block_lt_of_cell? W _ this
    · intro j v hv
      have hil : i < l.length := (List.getElem?_eq_some_iff.1 hx).1
      have := cellAt i x hx j v hv
      rw [haddr (by omega), add_lit, add_lit] at this
      exact this
    · have := hw ((((List.range len).map D).length + ((List.range (m - len)).map fun j => D (len + j)).length) * P.bytesOf e) (by unfold DataW.weights; rw [hu]; exact List.mem_cons_self ..)
      rw [hb] at this
      simp only [List.length_map, List.length_range] at this
      rw [hl1]
      have h6 : len * bytes ≤ (len + (m - len)) * bytes := Nat.mul_le_mul_right _ (by omega)
      omega
    · obtain ⟨i, hi, rfl⟩ := List.getElem_of_mem hy
      exact (hl2 i _ (List.getElem?_eq_getElem hi)).2

theorem cut1 {cs : List Value} {a : Nat} : cs = cs.take a ++ cs.drop a := (List.take_append_drop a cs).symm
theorem weightsEach_get {H : Type} : ∀ {ts : List TypeId} {ds : List (DataW H)} {i : Nat} {u : TypeId} {d : DataW H}, ts[i]? = some u → ds[i]? = some d → ∀ k ∈ d.weights P u, k ∈ DataW.weightsEach P ts ds
  | [], _, _, _, _, h, _, _, _ => by simp at h
  | _ :: _, [], _, _, _, _, h, _, _ => by simp at h
  | t :: ts, d :: ds, 0, u, d', h, h', k, hk => by
    simp at h h'
    subst h h'
    unfold DataW.weightsEach
    exact List.mem_append.2 (.inl hk)
  | t :: ts, d :: ds, i + 1, u, d', h, h', k, hk => by
    unfold DataW.weightsEach
    exact List.mem_append.2 (.inr (weightsEach_get (by simpa using h) (by simpa using h') k hk))
/-- A struct's field, read. -/
theorem struct_part {H : Type} {enc : TypeId × Value → H} {fuel : Nat} {cs : List Value} {x : DataW H × List MemPlace} {fs : Array Field} (hu : P.underlying t = some (.struct fs)) (h : DataW.trod enc P W 0 (fun _ => true) true fuel t cs = some x) (hw : ∀ k ∈ x.1.weights P t, k ≤ R)
    {i : Nat} {f : Field} (hf : fs[i]? = some f) {α : Type} {en : α → List Value} {ok : α → Prop} (E : Rd P W R f.type en ok) : ∃ a, (cs.drop f.offset).take (P.cellsOf f.type) = en a ∧ ok a := by
  obtain ⟨xs, n, _, rfl, hl, hlen, hp⟩ := DataW.trod_struct hu h
  have h1 := hp i f hf
  have hi : i < xs.length := by rw [hlen]; exact (Array.getElem?_eq_some_iff.1 hf).1
  rw [List.getElem?_eq_getElem hi] at h1
  refine E.out h1 fun k hk => hw k ?_
  unfold DataW.weights
  rw [hu]
  exact weightsEach_get (i := i) (u := f.type) (d := xs[i].1) (by simp [hf]) (by simp [List.getElem?_eq_getElem hi]) k hk
theorem struct_len {H : Type} {enc : TypeId × Value → H} {fuel : Nat} {cs : List Value} {x : DataW H × List MemPlace} {fs : Array Field} (hu : P.underlying t = some (.struct fs)) (h : DataW.trod enc P W 0 (fun _ => true) true fuel t cs = some x) : cs.length = P.cellsOf t := by
  obtain ⟨xs, n, _, rfl, hl, _⟩ := DataW.trod_struct hu h
  exact hl
theorem cutL {cs : List Value} {a b : Nat} (h : cs.length = a + b) : (cs.drop a).take b = cs.drop a := List.take_of_length_le (by simp; omega)
end

/-! ### The program's data -/
def i64ok (n : Int) : Prop := (Lit.int .i64 n).wf = true
theorem i64ok_iff {n : Int} : i64ok n ↔ -9223372036854775808 ≤ n ∧ n ≤ 9223372036854775807 := by
  unfold i64ok Lit.wf
  simp [IntKind.min, IntKind.max, IntKind.signed, IntKind.bits]
def Stamp.wf (s : Stamp) : Prop := i64ok s.T ∧ i64ok s.R
section
variable {P : Program} {W : World} {R : Nat} {t : TypeId}
theorem Rd_stamp {f0 f1 : Field} (hu : P.underlying t = some (.struct #[f0, f1])) (hc : P.cellsOf t = 2) (o0 : f0.offset = 0) (o1 : f1.offset = 1) (c0 : P.cellsOf f0.type = 1) (c1 : P.cellsOf f1.type = 1)
    (h0 : P.underlying f0.type = some (.int .i64)) (h1 : P.underlying f1.type = some (.int .i64)) : Rd P W R t (fun s : Stamp => (stampCh s).flatten) Stamp.wf := by
  refine ⟨fun h hw => ?_⟩
  have hl := struct_len hu h
  obtain ⟨a, ha, oka⟩ := struct_part hu h hw (i := 0) (f := f0) rfl (Rd_int h0)
  obtain ⟨b, hb, okb⟩ := struct_part hu h hw (i := 1) (f := f1) rfl (Rd_int h1)
  rw [o0, c0, List.drop_zero] at ha
  rw [o1, c1, cutL (by omega)] at hb
  refine ⟨⟨a, b⟩, ?_, oka, okb⟩
  rename_i cs _
  rw [cut1 (cs := cs) (a := 1), ha, hb]; rfl
/-- An ID: 32 bytes. -/
theorem Rd_id {e : TypeId} (hu : P.underlying t = some (.array 32 e)) (hc : P.cellsOf t = 32) (ce : P.cellsOf e = 1) (he : P.underlying e = some (.int .u8)) : Rd P W R t (fun d : ID => (idCh d).flatten) (fun _ => True) := by
  refine ⟨fun {H enc fuel cs x} h hw => ?_⟩
  obtain ⟨xs, m, _, rfl, hl, hlen, hp⟩ := DataW.trod_array hu h
  rw [hc] at hl
  have one : ∀ i (hi : i < 32), ∃ b : UInt8, cs[i]? = some (byteV b) := by
    intro i hi
    have h1 := hp i hi
    rw [ce, Nat.mul_one, List.getElem?_eq_getElem (by omega)] at h1
    obtain ⟨n, h2, _, h3⟩ := DataW.trod_int he h1
    have h4 : cs[i]? = some (.int .u8 n) := by
      have := congrArg (fun l => l[0]?) h2
      simpa [List.getElem?_take, List.getElem?_drop] using this
    have h5 : 0 ≤ n ∧ n ≤ 255 := by simpa [Lit.wf, IntKind.min, IntKind.max, IntKind.signed, IntKind.bits] using h3
    refine ⟨UInt8.ofNat n.toNat, ?_⟩
    rw [h4]
    unfold byteV
    congr 2
    rw [UInt8.toNat_ofNat', Nat.mod_eq_of_lt (by omega)]
    omega
  obtain ⟨l, hl1, hl2⟩ := list_of_lt (n := 32) (p := fun i (b : UInt8) => cs[i]? = some (byteV b)) one
  refine ⟨⟨l.toArray, by simp [hl1]⟩, ?_, trivial⟩
  rw [List.flatten_cons, List.flatten_nil, List.append_nil, idCells_eq]
  apply List.ext_getElem?
  intro i
  by_cases hi : i < 32
  · rw [hl2 i l[i] (List.getElem?_eq_getElem (by omega))]
    simp [hl1, hi]
  · rw [List.getElem?_eq_none (by omega), List.getElem?_eq_none (by simp [hl1]; omega)]
def Head.wf (x : Head) : Prop := x.tm.wf
theorem Rd_head {f0 f1 : Field} (hu : P.underlying t = some (.struct #[f0, f1])) (hc : P.cellsOf t = 34) (o0 : f0.offset = 0) (o1 : f1.offset = 2) (c0 : P.cellsOf f0.type = 2) (c1 : P.cellsOf f1.type = 32)
    (h0 : Rd P W R f0.type (fun s : Stamp => (stampCh s).flatten) Stamp.wf) (h1 : Rd P W R f1.type (fun d : ID => (idCh d).flatten) (fun _ => True)) : Rd P W R t (fun x : Head => (headCh x).flatten) Head.wf := by
  refine ⟨fun h hw => ?_⟩
  have hl := struct_len hu h
  obtain ⟨a, ha, oka⟩ := struct_part hu h hw (i := 0) (f := f0) rfl h0
  obtain ⟨b, hb, okb⟩ := struct_part hu h hw (i := 1) (f := f1) rfl h1
  rw [o0, c0, List.drop_zero] at ha
  rw [o1, c1, cutL (by omega)] at hb
  refine ⟨⟨a, b⟩, ?_, oka⟩
  rename_i cs _
  rw [cut1 (cs := cs) (a := 2), ha, hb]; rfl
/-- A row, as it is read. -/
def RowS.wf (W : World) (R : Nat) (r : RowS) : Prop := r.node.wf ∧ r.par.wf ∧ r.tm.wf ∧ r.name.size ≤ R ∧ Sl (Old W) headCh 34 r.hh r.heads W ∧ r.heads.length * 48 ≤ R ∧ ∀ x ∈ r.heads, x.wf
theorem Rd_row {f0 f1 f2 f3 f4 : Field} (hu : P.underlying t = some (.struct #[f0, f1, f2, f3, f4])) (hc : P.cellsOf t = 8) (o : f0.offset = 0 ∧ f1.offset = 2 ∧ f2.offset = 4 ∧ f3.offset = 6 ∧ f4.offset = 7)
    (c : P.cellsOf f0.type = 2 ∧ P.cellsOf f1.type = 2 ∧ P.cellsOf f2.type = 2 ∧ P.cellsOf f3.type = 1 ∧ P.cellsOf f4.type = 1)
    (h0 : Rd P W R f0.type (fun s : Stamp => (stampCh s).flatten) Stamp.wf) (h1 : Rd P W R f1.type (fun s : Stamp => (stampCh s).flatten) Stamp.wf) (h2 : Rd P W R f2.type (fun s : Stamp => (stampCh s).flatten) Stamp.wf)
    (h3 : P.underlying f3.type = some .string) (h4 : Rd P W R f4.type (fun x : SlH × List Head => [slV x.1 x.2]) (fun x => Sl (Old W) headCh 34 x.1 x.2 W ∧ x.2.length * 48 ≤ R ∧ ∀ a ∈ x.2, a.wf)) :
    Rd P W R t (fun r : RowS => (rowCh r).flatten) (RowS.wf W R) := by
  refine ⟨fun h hw => ?_⟩
  have hl := struct_len hu h
  obtain ⟨a0, e0, k0⟩ := struct_part hu h hw (i := 0) (f := f0) rfl h0
  obtain ⟨a1, e1, k1⟩ := struct_part hu h hw (i := 1) (f := f1) rfl h1
  obtain ⟨a2, e2, k2⟩ := struct_part hu h hw (i := 2) (f := f2) rfl h2
  obtain ⟨a3, e3, k3⟩ := struct_part hu h hw (i := 3) (f := f3) rfl (Rd_str h3)
  obtain ⟨a4, e4, k4⟩ := struct_part hu h hw (i := 4) (f := f4) rfl h4
  obtain ⟨o0, o1, o2, o3, o4⟩ := o
  obtain ⟨c0, c1, c2, c3, c4⟩ := c
  rw [o0, c0, List.drop_zero] at e0
  rw [o1, c1] at e1
  rw [o2, c2] at e2
  rw [o3, c3] at e3
  rw [o4, c4, cutL (by omega)] at e4
  refine ⟨⟨a0, a1, a2, a3, a4.2, a4.1⟩, ?_, k0, k1, k2, k3, k4⟩
  rename_i cs _ 
  have s1 : cs = cs.take 2 ++ ((cs.drop 2).take 2 ++ ((cs.drop 4).take 2 ++ ((cs.drop 6).take 1 ++ cs.drop 7))) := by
    rw [show cs.drop 7 = (cs.drop 6).drop 1 from by rw [List.drop_drop], List.take_append_drop, show cs.drop 6 = (cs.drop 4).drop 2 from by rw [List.drop_drop], List.take_append_drop, show cs.drop 4 = (cs.drop 2).drop 2 from by rw [List.drop_drop], List.take_append_drop, List.take_append_drop]
  rw [s1, e0, e1, e2, e3, e4]; rfl
end

/-! ### An argument -/
section
variable {P : Program} {W : World} {R : Nat} {t : TypeId} {H : Type} {enc : TypeId × Value → H}
theorem Rd.arg1 {α : Type} {en : α → Value} {ok : α → Prop} (E : Rd P W R t (fun a => [en a]) ok) {v : Value} {d : DataW H} {ps : List MemPlace} (h : DataW.Trod enc P W 0 (fun _ => true) true t v d ps) (hv : v.cells.toList = [v]) (hw : ∀ k ∈ d.weights P t, k ≤ R) : ∃ a, v = en a ∧ ok a := by
  obtain ⟨fuel, h⟩ := h
  obtain ⟨a, h1, h2⟩ := E.out h hw
  rw [hv] at h1
  exact ⟨a, by simpa using h1, h2⟩
theorem Rd.argA {α : Type} {en : α → Chs} {ok : α → Prop} (E : Rd P W R t (fun a => (en a).flatten) ok) {v : Value} {d : DataW H} {ps : List MemPlace} (h : DataW.Trod enc P W 0 (fun _ => true) true t v d ps) (hv : ∃ cs, v = .agg cs) (hw : ∀ k ∈ d.weights P t, k ≤ R) : ∃ a, v = aggOf (en a) ∧ ok a := by
  obtain ⟨fuel, h⟩ := h
  obtain ⟨a, h1, h2⟩ := E.out h hw
  obtain ⟨cs, rfl⟩ := hv
  refine ⟨a, ?_, h2⟩
  have h1 : cs.toList = (en a).flatten := h1
  rw [aggOf, ← h1]
end

/-! ### Behind the call -/
theorem Ext.keptBut {W W' : World} (h : Ext W W') (may : MemPlace → Prop) : W.keptBut W' may := by
  refine ⟨h.os, h.output, fun i hi => ?_⟩
  rw [h.block i hi (fun hn => hn)]
  cases hb : W.heap[i]? with
  | none => trivial
  | some o => cases o <;> simp
theorem frozen_block {W W' : World} {a : Addr} (h : W'.heap[a.block]? = W.heap[a.block]?) : W'.frozen? a = W.frozen? a := by
  unfold World.frozen?; rw [h]
section
variable {P : Program} {H : Type} {enc : TypeId × Value → H} {W W' : World}
theorem Ext.same (h : Ext W W') {p : MemPlace} (hp : p.block < W.heap.size) : W.sameAt W' p := by
  cases p with
  | cell b off => exact World.cell?_of_block (a := ⟨b, off, none⟩) (h.block b hp (fun hn => hn))
  | map b => exact h.block b hp (fun hn => hn)
theorem trodAll_ext (h : Ext W W') {sp : Nat → Bool} : ∀ {ts : List TypeId} {vs : List Value} {ds : List (DataW H)} {ps : List MemPlace}, DataW.TrodAll enc P W 0 sp true ts vs ds ps → (∀ p ∈ ps, p.block < W.heap.size) → DataW.TrodAll enc P W' 0 sp true ts vs ds ps
  | [], [], [], _, h1, _ => h1
  | _ :: _, _ :: _, _ :: _, _, ⟨p, q, ⟨fuel, h1⟩, h2, e⟩, hs =>
    ⟨p, q, ⟨fuel, DataW.trod_carry _ _ _ _ h1 fun x hx => h.same (hs x (by rw [e]; exact List.mem_append_left _ hx))⟩, trodAll_ext h h2 (fun x hx => hs x (by rw [e]; exact List.mem_append_right _ hx)), e⟩
/-- A statement's call that wrote nothing and answers true. -/
theorem post_law {f : Func} {s : ChangeSpec} {apart fresh handsOn again : Bool} {args : Array Value} {ds gs : List (DataW H)} {before : List MemPlace} {bt : TypeId} (hv : s.vars = []) (hl : laidOutB P = true) (hm : mapsRowed P = true)
    (hz : ((List.range P.types.size).all fun t => match P.underlying t with | some (.slice e) => decide (0 < P.cellsOf e) | _ => true) = true) (hts : f.params.toList.all (fun t => decide (t < P.types.size)) = true)
    (hr : f.resultTypes = #[bt]) (hb : P.underlying bt = some .bool) (hW : DataW.Whole enc P f.params.toList s.vars apart W args.toList ds gs before)
    (hres : (s.fn H (ds ++ gs)).results = [.lit (.bool true)]) (harg : (s.fn H (ds ++ gs)).args = ds) (hvar : (s.fn H (ds ++ gs)).vars = []) (hx : Ext W W') : s.post enc P f apart fresh handsOn again W args (.bool true) W' := by
  have hlt := hW.lt
  have hW0 := hW
  obtain ⟨p, q, hA, hV, rfl, hfz, hnd⟩ := hW
  have hV0 := hV
  rw [hv] at hV
  obtain ⟨rfl, rfl⟩ := trodVars_none hV
  have hold : ∀ p' ∈ p ++ [], (fun b => decide (b < W.heap.size)) p'.block = true := fun p' hp => by simpa using hlt p' hp
  have hargs : ∀ sp : Nat → Bool, (∀ p' ∈ p ++ [], sp p'.block = true) → DataW.TrodAll enc P W' 0 sp true f.params.toList args.toList (s.fn H (ds ++ [])).args p := fun sp hsp => by
    rw [harg]
    refine trodAll_ext hx ?_ fun x h => hlt x (by simpa using h)
    exact hA.respare (kids_rows hl hm) (fun t e h => slices_full_of P hz t e h) (fun t ht => of_decide_eq_true (List.all_eq_true.1 hts t ht)) fun x h => hsp x (by simpa using h)
  have hvars : ∀ sp : Nat → Bool, DataW.TrodVars enc P W' sp s.vars (s.fn H (ds ++ [])).vars [] := fun sp => by rw [hv, hvar]; rfl
  have hresT : ∀ (b : Nat) (sp : Nat → Bool) (hd : Bool), DataW.TrodAll enc P W' b sp hd f.resultTypes.toList ((Value.bool true).resultList f.resultTypes.size) (s.fn H (ds ++ [])).results [] := fun b sp hd => by
    rw [hr, hres]
    exact trodAll_cons_mk (p := []) (p' := []) (shut_bool hb _) trodAll_mk0
  refine ⟨ds, [], p ++ [], [], p, [], hW0, hresT _ _ _, hargs _ hold, hvars _, World.keptBut_mono (fun x hx' => ⟨hx', .inr (by simpa using hx')⟩) (hx.keptBut (· ∈ p ++ [])), fun _ => ⟨?_, _, _, ([] ++ p) ++ [], ⟨[] ++ p, [], trodAll_append (hargs _ (fun _ _ => rfl)) (hresT _ _ _), hvars _, rfl, ?_, ?_⟩, ?_⟩⟩
  · intro j t r h1 h2
    rw [hr] at h1 h2
    cases j with
    | zero =>
      simp at h1 h2
      subst h1
      have : r = .bool true := by simpa [Value.resultList] using h2.symm
      subst this
      exact okWide_bool_mk hb _
    | succ j => simp at h1
  · intro b off hp
    have hlt' := hlt _ (show MemPlace.cell b off ∈ p ++ [] by simpa using hp)
    rw [frozen_block (hx.block b hlt' (fun hn => hn))]
    exact hfz b off (by simpa using hp)
  · intro ha
    simpa using hnd ha
  · intro x hx' _
    simpa using hx'
end
end Go.Proofs.Ytiknfldhommmpaa
/- The plain side: what the functions compute, on lists and numbers. -/
namespace Go.Proofs.Ytiknfldhommmpaa
open Go
set_option linter.unusedVariables false
set_option linter.unusedSimpArgs false
set_option linter.unusedSectionVars false

/-- The order of stamps. -/
def cmpInt (a b : Int) : Int := if a < b then -1 else if b < a then 1 else 0
theorem cmpInt_lt {a b : Int} (h : a < b) : cmpInt a b = -1 := if_pos h
theorem cmpInt_gt {a b : Int} (h : ¬ a < b) (h2 : b < a) : cmpInt a b = 1 := by unfold cmpInt; rw [if_neg h, if_pos h2]
theorem cmpInt_eq {a b : Int} (h : ¬ a < b) (h2 : ¬ b < a) : cmpInt a b = 0 := by unfold cmpInt; rw [if_neg h, if_neg h2]
def cmpSt (a b : Stamp) : Int := if a.T < b.T ∨ a.T = b.T ∧ a.R < b.R then -1 else if a.T = b.T ∧ a.R = b.R then 0 else 1

def findRow (xs : List RowS) (s : Stamp) : Int := match xs.findIdx? (fun x => decide (x.node = s)) with | some i => (i : Int) | none => -1
def noneBelow {α : Type} [Inhabited α] (xs : List α) (p : α → Prop) (k : Nat) : Prop := ∀ i, i < k → ¬ p (nth xs i)
theorem noneBelow_zero {α : Type} [Inhabited α] (xs : List α) (p : α → Prop) : noneBelow xs p 0 := fun _ h => absurd h (Nat.not_lt_zero _)
theorem noneBelow_succ {α : Type} [Inhabited α] {xs : List α} {p : α → Prop} {k : Nat} (h : noneBelow xs p k) (hk : ¬ p (nth xs k)) : noneBelow xs p (k + 1) := fun i hi => by
  rcases Nat.lt_or_eq_of_le (Nat.le_of_lt_succ hi) with h1 | h1
  · exact h i h1
  · subst h1; exact hk
theorem findRow_at {xs : List RowS} {s : Stamp} {k : Nat} (h : noneBelow xs (fun x => x.node = s) k) (hk : k < xs.length) (he : (nth xs k).node = s) : findRow xs s = (k : Int) := by
  have : xs.findIdx? (fun x => decide (x.node = s)) = some k := by
    rw [List.findIdx?_eq_some_iff_getElem]
    refine ⟨hk, by rw [← nth_eq hk]; simpa using he, fun j hj => ?_⟩
    have := h j hj
    rw [nth_eq (by omega)] at this
    simpa using this
  simp [findRow, this]
theorem findRow_none {xs : List RowS} {s : Stamp} (h : noneBelow xs (fun x => x.node = s) xs.length) : findRow xs s = -1 := by
  have : xs.findIdx? (fun x => decide (x.node = s)) = none := by
    rw [List.findIdx?_eq_none_iff]
    intro x hx
    obtain ⟨i, hi, rfl⟩ := List.getElem_of_mem hx
    have := h i hi
    rw [nth_eq hi] at this
    simpa using this
  simp [findRow, this]
theorem findRow_lt {xs : List RowS} {s : Stamp} : findRow xs s < xs.length ∧ -1 ≤ findRow xs s := by
  unfold findRow
  split
  · rename_i i h
    have := (List.findIdx?_eq_some_iff_getElem.1 h).1
    omega
  · omega
/-- Rows by their nodes. -/
def tableOf (rows : List RowS) : List (Stamp × RowS) := rows.foldl (fun kv r => kvPut r.node r kv) []
theorem tableOf_succ {rows : List RowS} {k : Nat} (h : k < rows.length) : kvPut (nth rows k).node (nth rows k) (tableOf (rows.take k)) = tableOf (rows.take (k + 1)) := by
  rw [List.take_succ_eq_append_getElem h]
  unfold tableOf
  rw [List.foldl_append, nth_eq h]
  rfl
def placeGo (kv : List (Stamp × RowS)) : Nat → Stamp → Stamp × Bool
  | 0, _ => (⟨0, 0⟩, false)
  | n + 1, s => if s.T = 0 then (s, true) else match kvGet kv s with
    | none => (⟨0, 0⟩, false)
    | some r => placeGo kv n r.par
def placeOf (kv : List (Stamp × RowS)) (s : Stamp) : Stamp × Bool := placeGo kv (kv.length + 1) s
theorem placeGo_next {t : List (Stamp × RowS)} {n k : Nat} {nd : Stamp} {q : Stamp × Bool} (hp : placeGo t (n + 1 - k) nd = q) (hk : k < n + 1) (h0 : ¬ nd.T = 0) (hs : (kvGet t nd).isSome = true) :
    placeGo t (n + 1 - (k + 1)) ((kvGet t nd).getD zeroRow).par = q := by
  subst hp
  rw [show n + 1 - k = (n + 1 - (k + 1)) + 1 from by omega]
  conv => rhs; unfold placeGo
  rw [if_neg h0]
  obtain ⟨r, hr⟩ := Option.isSome_iff_exists.1 hs
  rw [hr]; rfl
theorem placeGo_ret {t : List (Stamp × RowS)} {n k : Nat} {nd : Stamp} {q : Stamp × Bool} (hp : placeGo t (n + 1 - k) nd = q) (hk : k < n + 1) (h0 : nd.T = 0) : q = (nd, true) := by
  subst hp
  rw [show n + 1 - k = (n + 1 - (k + 1)) + 1 from by omega]
  unfold placeGo
  rw [if_pos h0]
theorem placeGo_none {t : List (Stamp × RowS)} {n k : Nat} {nd : Stamp} {q : Stamp × Bool} (hp : placeGo t (n + 1 - k) nd = q) (hk : k < n + 1) (h0 : ¬ nd.T = 0) (hs : (kvGet t nd).isSome = false) : q = (⟨0, 0⟩, false) := by
  subst hp
  rw [show n + 1 - k = (n + 1 - (k + 1)) + 1 from by omega]
  unfold placeGo
  rw [if_neg h0]
  cases hr : kvGet t nd with
  | none => rfl
  | some r => rw [hr] at hs; cases hs
theorem placeGo_end {t : List (Stamp × RowS)} {n k : Nat} {nd : Stamp} {q : Stamp × Bool} (hp : placeGo t (n + 1 - k) nd = q) (hk : ¬ k < n + 1) : q = (⟨0, 0⟩, false) := by
  subst hp
  rw [show n + 1 - k = 0 from by omega]; rfl


def stRight (s : Stamp) : Bool := decide (1 ≤ s.T ∧ s.T ≤ 1099511627776 ∧ 1 ≤ s.R ∧ s.R ≤ 65536)
def badByte (b : UInt8) : Bool := b = 0 || b = 47 || b = 10
def nameOk (s : ByteArray) : Bool := decide (s ≠ ByteArray.empty ∧ s.size ≤ 60 ∧ s ≠ ⟨#[46]⟩ ∧ s ≠ ⟨#[46, 46]⟩ ∧ ∀ j, j < s.size → badByte (sbyte s j) = false)
theorem cmpSt_lt {a b : Stamp} (h : a.T < b.T ∨ a.T = b.T ∧ a.R < b.R) : cmpSt a b = -1 := if_pos h
theorem cmpSt_eq {a b : Stamp} (h : ¬ (a.T < b.T ∨ a.T = b.T ∧ a.R < b.R)) (h2 : a.T = b.T ∧ a.R = b.R) : cmpSt a b = 0 := by unfold cmpSt; rw [if_neg h, if_pos h2]
theorem cmpSt_gt {a b : Stamp} (h : ¬ (a.T < b.T ∨ a.T = b.T ∧ a.R < b.R)) (h2 : ¬ (a.T = b.T ∧ a.R = b.R)) : cmpSt a b = 1 := by unfold cmpSt; rw [if_neg h, if_neg h2]
theorem badByte_eq (b : UInt8) : badByte b = (decide ((b.toNat : Int) = 0) || decide ((b.toNat : Int) = 47) || decide ((b.toNat : Int) = 10)) := by
  have key : ∀ n : Nat, n < 256 → decide (b = UInt8.ofNat n) = decide ((b.toNat : Int) = n) := by
    intro n hn
    rw [decide_eq_decide]
    constructor
    · rintro rfl; simp [Nat.mod_eq_of_lt hn]
    · intro h
      apply UInt8.toNat_inj.1
      simp only [UInt8.toNat_ofNat']
      omega
  have k0 : decide (b = 0) = decide ((b.toNat : Int) = 0) := key 0 (by omega)
  have k1 : decide (b = 47) = decide ((b.toNat : Int) = 47) := key 47 (by omega)
  have k2 : decide (b = 10) = decide ((b.toNat : Int) = 10) := key 10 (by omega)
  unfold badByte
  rw [k0, k1, k2]
theorem badByte_f {b : UInt8} (h : ((¬ (b.toNat : Int) = 0) ∧ ¬ (b.toNat : Int) = 47) ∧ ¬ (b.toNat : Int) = 10) : badByte b = false := by
  obtain ⟨⟨h1, h2⟩, h3⟩ := h; rw [badByte_eq, decide_eq_false h1, decide_eq_false h2, decide_eq_false h3]; rfl
theorem badByte_t {b : UInt8} (h : ((b.toNat : Int) = 0 ∨ (b.toNat : Int) = 47) ∨ (b.toNat : Int) = 10) : badByte b = true := by
  rw [badByte_eq]
  rcases h with (h | h) | h <;> simp [h]
def itemHeadOk (node : Stamp) (hs : List Head) (i : Nat) : Prop := stRight (nth hs i).tm = true ∧ cmpSt (nth hs i).tm node = 1 ∧ (nth hs i).data ≠ zeroId ∧ (i = 0 ∨ cmpSt (nth hs (i - 1)).tm (nth hs i).tm = -1)
instance (node : Stamp) (hs : List Head) (i : Nat) : Decidable (itemHeadOk node hs i) := by unfold itemHeadOk; infer_instance
/-- An item is right. -/
def itemOk (node tm : Stamp) (name : ByteArray) (hs : List Head) : Bool :=
  decide (stRight node = true ∧ stRight tm = true ∧ ¬ cmpSt tm node < 0 ∧ nameOk name = true ∧ hs.length ≤ 1000 ∧ ∀ i, i < hs.length → itemHeadOk node hs i)
def itemOf (r : RowS) (sub : ID) : ItemS := { node := r.node, tm := r.tm, name := r.name, sub := sub, heads := r.heads, hh := r.hh }
def itemOkS (x : ItemS) : Bool := itemOk x.node x.tm x.name x.heads
def dirOk (xs : List ItemS) : Bool := decide (xs.length ≤ 1000 ∧ ∀ i, i < xs.length → itemOkS (nth xs i) = true ∧ (i = 0 ∨ cmpSt (nth xs (i - 1)).node (nth xs i).node = -1))
def lastSt : Stamp := ⟨1099511627776, 65536⟩
/-- What is told of a row: all but where its heads lie. -/
structure RowC where
  node : Stamp
  par : Stamp
  tm : Stamp
  name : ByteArray
  heads : List Head
  deriving DecidableEq, Inhabited
def RowS.core (r : RowS) : RowC := ⟨r.node, r.par, r.tm, r.name, r.heads⟩
def liesGo (rows : List RowS) (over : Stamp) : Nat → Stamp → Bool
  | 0, _ => false
  | n + 1, s => if findRow rows s < 0 ∨ s.T = 0 ∧ (s.R = 0 ∨ s.R = 1) then false else
    if (nth rows (findRow rows s).toNat).par = over then true else liesGo rows over n (nth rows (findRow rows s).toNat).par
def liesOf (rows : List RowS) (node over : Stamp) : Bool := liesGo rows over rows.length node
def rowOkAt (rows : List RowS) (i : Nat) : Prop := itemOk (nth rows i).node (nth rows i).tm (nth rows i).name (nth rows i).heads = true ∧ (nth rows i).node ≠ lastSt ∧ (i = 0 ∨ cmpSt (nth rows (i - 1)).node (nth rows i).node = -1) ∧
  (liesOf rows (nth rows i).node ⟨0, 0⟩ = true ∨ liesOf rows (nth rows i).node ⟨0, 1⟩ = true)
instance (rows : List RowS) (i : Nat) : Decidable (rowOkAt rows i) := by unfold rowOkAt; infer_instance
/-- Rows are a tree, as the document has it. -/
def treeOk (rows : List RowS) : Bool := decide (rows.length ≤ 5000 ∧ ∀ i, i < rows.length → rowOkAt rows i)
def sameRows (a b : List RowS) : Bool := decide (a.map RowS.core = b.map RowS.core)
def aliveRef (rows : List RowS) : List RowS := rows.filter fun r => !liesOf rows r.node ⟨0, 1⟩
def datas (hs : List Head) : List ID := hs.map (·.data)
/-- What Alike looks at. -/
def rowD (r : RowS) : Stamp × Stamp × ByteArray × List ID := (r.node, r.par, r.name, datas r.heads)
def alikeRef (a b : List RowS) : Bool := decide ((aliveRef a).map rowD = (aliveRef b).map rowD)
theorem eq_of_nth {α : Type} [Inhabited α] {a b : List α} (hl : a.length = b.length) (h : ∀ i, i < a.length → nth a i = nth b i) : a = b := by
  apply List.ext_getElem hl
  intro i h1 h2
  have := h i h1
  rwa [nth_eq h1, nth_eq h2] at this
theorem map_eq_nth {α β : Type} [Inhabited α] {a b : List α} {f : α → β} : a.map f = b.map f ↔ a.length = b.length ∧ ∀ i, i < a.length → f (nth a i) = f (nth b i) := by
  constructor
  · intro h
    have hl : a.length = b.length := by simpa using congrArg List.length h
    refine ⟨hl, fun i hi => ?_⟩
    have := congrArg (fun l => l[i]?) h
    simp only [List.getElem?_map, List.getElem?_eq_getElem hi, List.getElem?_eq_getElem (hl ▸ hi), Option.map_some, Option.some.injEq] at this
    rw [nth_eq hi, nth_eq (hl ▸ hi)]
    exact this
  · rintro ⟨hl, h⟩
    apply List.ext_getElem (by simpa using hl)
    intro i h1 h2
    simp only [List.length_map] at h1 h2
    have := h i h1
    rw [nth_eq h1, nth_eq h2] at this
    simpa using this
theorem filter_take_succ {α : Type} [Inhabited α] {p : α → Bool} {l : List α} {k : Nat} (h : k < l.length) : (l.take (k + 1)).filter p = (l.take k).filter p ++ (if p (nth l k) then [nth l k] else []) := by
  rw [List.take_succ_eq_append_getElem h, List.filter_append, nth_eq h]
  congr 1
  by_cases hp : p l[k] <;> simp [hp]
theorem all_succ {p : Nat → Prop} {k : Nat} (h : ∀ i, i < k → p i) (hk : p k) : ∀ i, i < k + 1 → p i := fun i hi => by
  rcases Nat.lt_or_eq_of_le (Nat.le_of_lt_succ hi) with h1 | h1
  · exact h i h1
  · subst h1; exact hk
theorem all_zero (p : Nat → Prop) : ∀ i, i < 0 → p i := fun _ h => absurd h (Nat.not_lt_zero _)
theorem nameOk_bad {s : ByteArray} {k : Nat} (hk : k < s.size) (h : (((sbyte s k).toNat : Int) = 0 ∨ ((sbyte s k).toNat : Int) = 47) ∨ ((sbyte s k).toNat : Int) = 10) : Value.bool false = Value.bool (nameOk s) :=
  boolF fun hh => by have := hh.2.2.2.2 k hk; rw [badByte_t h] at this; cases this
theorem nameOk_good {s : ByteArray} (h : ∀ j, j < s.size → badByte (sbyte s j) = false) :
    Value.bool (((!decide (s = ByteArray.empty) && decide ((s.size : Int) ≤ 60)) && !decide (s = (⟨#[46]⟩ : ByteArray))) && !decide (s = (⟨#[46, 46]⟩ : ByteArray))) = Value.bool (nameOk s) := by
  refine boolE ?_
  simp only [Bool.and_eq_true, Bool.not_eq_true', decide_eq_false_iff_not, decide_eq_true_eq]
  constructor
  · rintro ⟨⟨⟨h1, h2⟩, h3⟩, h4⟩; exact ⟨h1, by omega, h3, h4, h⟩
  · rintro ⟨h1, h2, h3, h4, _⟩; exact ⟨⟨⟨h1, by omega⟩, h3⟩, h4⟩
theorem lies_next {rows : List RowS} {over nd : Stamp} {n k : Nat} {q : Bool} (hp : liesGo rows over (n - k) nd = q) (hk : k < n) (h1 : ¬ (findRow rows nd < 0 ∨ nd.T = 0 ∧ (nd.R = 0 ∨ nd.R = 1))) (h2 : ¬ (nth rows (findRow rows nd).toNat).par = over) :
    liesGo rows over (n - (k + 1)) (nth rows (findRow rows nd).toNat).par = q := by
  subst hp
  rw [show n - k = (n - (k + 1)) + 1 from by omega]
  conv => rhs; unfold liesGo
  rw [if_neg h1, if_neg h2]
theorem lies_f {rows : List RowS} {over nd : Stamp} {n k : Nat} (hk : k < n) (h1 : findRow rows nd < 0 ∨ nd.T = 0 ∧ (nd.R = 0 ∨ nd.R = 1)) : liesGo rows over (n - k) nd = false := by
  rw [show n - k = (n - (k + 1)) + 1 from by omega]
  unfold liesGo
  rw [if_pos h1]
theorem lies_t {rows : List RowS} {over nd : Stamp} {n k : Nat} (hk : k < n) (h1 : ¬ (findRow rows nd < 0 ∨ nd.T = 0 ∧ (nd.R = 0 ∨ nd.R = 1))) (h2 : (nth rows (findRow rows nd).toNat).par = over) : liesGo rows over (n - k) nd = true := by
  rw [show n - k = (n - (k + 1)) + 1 from by omega]
  unfold liesGo
  rw [if_neg h1, if_pos h2]
theorem itemHead_t {node : Stamp} {hs : List Head} {k : Nat} (h : ((stRight (nth hs k).tm = true ∧ cmpSt (nth hs k).tm node = 1) ∧ ¬ (nth hs k).data = zeroId) ∧ (¬ (0 : Int) < ((k : Nat) : Int) ∨ cmpSt (nth hs (k - 1)).tm (nth hs k).tm = -1)) : itemHeadOk node hs k :=
  ⟨h.1.1.1, h.1.1.2, h.1.2, h.2.imp (fun h => by omega) id⟩
theorem itemOk_f1 {x : ItemS} (h : (((stRight x.node = false ∨ stRight x.tm = false) ∨ cmpSt x.tm x.node < 0) ∨ nameOk x.name = false) ∨ (1000 : Int) < ((x.heads.length : Nat) : Int)) : Value.bool false = Value.bool (itemOkS x) := by
  refine boolF ?_
  rintro ⟨h1, h2, h3, h4, h5, _⟩
  rcases h with (((h | h) | h) | h) | h
  · rw [h1] at h; cases h
  · rw [h2] at h; cases h
  · exact h3 h
  · rw [h4] at h; cases h
  · omega
theorem itemOk_f2 {x : ItemS} {k : Nat} (hk : k < x.heads.length) (h : ((stRight (nth x.heads k).tm = false ∨ ¬ cmpSt (nth x.heads k).tm x.node = 1) ∨ (nth x.heads k).data = zeroId) ∨ ((0 : Int) < ((k : Nat) : Int) ∧ ¬ cmpSt (nth x.heads (k - 1)).tm (nth x.heads k).tm = -1)) : Value.bool false = Value.bool (itemOkS x) := by
  refine boolF ?_
  rintro ⟨_, _, _, _, _, hh⟩
  obtain ⟨a1, a2, a3, a4⟩ := hh k hk
  rcases h with ((h | h) | h) | h
  · rw [a1] at h; cases h
  · exact h a2
  · exact a3 h
  · rcases a4 with a4 | a4
    · omega
    · exact h.2 a4
theorem itemOk_t {x : ItemS} (h : (((stRight x.node = true ∧ stRight x.tm = true) ∧ ¬ cmpSt x.tm x.node < 0) ∧ nameOk x.name = true) ∧ ¬ (1000 : Int) < ((x.heads.length : Nat) : Int)) (h2 : ∀ i, i < x.heads.length → itemHeadOk x.node x.heads i) : Value.bool true = Value.bool (itemOkS x) :=
  boolT ⟨h.1.1.1.1, h.1.1.1.2, h.1.1.2, h.1.2, by omega, h2⟩
theorem dirAt_t {xs : List ItemS} {k : Nat} (h : itemOkS (nth xs k) = true ∧ (¬ (0 : Int) < ((k : Nat) : Int) ∨ cmpSt (nth xs (k - 1)).node (nth xs k).node = -1)) : itemOkS (nth xs k) = true ∧ (k = 0 ∨ cmpSt (nth xs (k - 1)).node (nth xs k).node = -1) :=
  ⟨h.1, h.2.imp (fun h => by omega) id⟩
theorem dirOk_f {xs : List ItemS} {k : Nat} (hk : k < xs.length) (h : itemOkS (nth xs k) = false ∨ ((0 : Int) < ((k : Nat) : Int) ∧ ¬ cmpSt (nth xs (k - 1)).node (nth xs k).node = -1)) : Value.bool false = Value.bool (dirOk xs) := by
  refine boolF ?_
  rintro ⟨_, hh⟩
  obtain ⟨a1, a2⟩ := hh k hk
  rcases h with h | h
  · rw [a1] at h; cases h
  · rcases a2 with a2 | a2
    · omega
    · exact h.2 a2
theorem dirOk_t {xs : List ItemS} (h : ∀ i, i < xs.length → itemOkS (nth xs i) = true ∧ (i = 0 ∨ cmpSt (nth xs (i - 1)).node (nth xs i).node = -1)) : Value.bool (decide (((xs.length : Nat) : Int) ≤ 1000)) = Value.bool (dirOk xs) := by
  refine boolE ?_
  rw [decide_eq_true_eq]
  exact ⟨fun h1 => ⟨by omega, h⟩, fun h1 => by have := h1.1; omega⟩
theorem dirOk_one (x : ItemS) : dirOk [x] = itemOkS x := by
  unfold dirOk
  rw [Bool.eq_iff_iff, decide_eq_true_eq]
  constructor
  · intro h; exact (h.2 0 (by simp)).1
  · intro h
    refine ⟨by simp, fun i hi => ?_⟩
    have : i = 0 := by simp at hi; omega
    subst this
    exact ⟨h, .inl rfl⟩
theorem rowAt_t {rows : List RowS} {k : Nat} {x : ItemS} (hx : x = itemOf (nth rows k) zeroId) (h : (dirOk [x] = true ∧ ¬ (nth rows k).node = lastSt) ∧ (¬ (0 : Int) < ((k : Nat) : Int) ∨ cmpSt (nth rows (k - 1)).node (nth rows k).node = -1))
    (h2 : liesOf rows (nth rows k).node ⟨0, 0⟩ = true ∨ liesOf rows (nth rows k).node ⟨0, 1⟩ = true) : rowOkAt rows k := by
  subst hx
  rw [dirOk_one] at h
  exact ⟨h.1.1, h.1.2, h.2.imp (fun h => by omega) id, h2⟩
theorem treeOk_f0 {rows : List RowS} (h : (5000 : Int) < ((rows.length : Nat) : Int)) : Value.bool false = Value.bool (treeOk rows) := boolF fun hh => by have := hh.1; omega
theorem treeOk_f1 {rows : List RowS} {k : Nat} {x : ItemS} (hx : x = itemOf (nth rows k) zeroId) (hk : k < rows.length) (h : (dirOk [x] = false ∨ (nth rows k).node = lastSt) ∨ ((0 : Int) < ((k : Nat) : Int) ∧ ¬ cmpSt (nth rows (k - 1)).node (nth rows k).node = -1)) : Value.bool false = Value.bool (treeOk rows) := by
  subst hx
  rw [dirOk_one] at h
  refine boolF fun hh => ?_
  obtain ⟨a1, a2, a3, _⟩ := hh.2 k hk
  rcases h with (h | h) | h
  · rw [show itemOkS (itemOf (nth rows k) zeroId) = true from a1] at h; cases h
  · exact a2 h
  · rcases a3 with a3 | a3
    · omega
    · exact h.2 a3
theorem treeOk_f2 {rows : List RowS} {k : Nat} (hk : k < rows.length) (h : liesOf rows (nth rows k).node ⟨0, 0⟩ = false ∧ liesOf rows (nth rows k).node ⟨0, 1⟩ = false) : Value.bool false = Value.bool (treeOk rows) := by
  refine boolF fun hh => ?_
  obtain ⟨_, _, _, a4⟩ := hh.2 k hk
  rcases a4 with a4 | a4
  · rw [h.1] at a4; cases a4
  · rw [h.2] at a4; cases a4
theorem treeOk_t {rows : List RowS} (h0 : ¬ (5000 : Int) < ((rows.length : Nat) : Int)) (h : ∀ i, i < rows.length → rowOkAt rows i) : Value.bool true = Value.bool (treeOk rows) := boolT ⟨by omega, h⟩
theorem core_eq {a b : RowS} (h : (((a.node = b.node ∧ a.par = b.par) ∧ a.tm = b.tm) ∧ a.name = b.name) ∧ a.heads = b.heads) : a.core = b.core := by
  simp [RowS.core, h.1.1.1.1, h.1.1.1.2, h.1.1.2, h.1.2, h.2]
theorem core_ne {a b : RowS} (h : (((¬ a.node = b.node ∨ ¬ a.par = b.par) ∨ ¬ a.tm = b.tm) ∨ ¬ a.name = b.name) ∨ ¬ a.heads = b.heads) : ¬ a.core = b.core := by
  simp only [RowS.core, RowC.mk.injEq]
  rintro ⟨h1, h2, h3, h4, h5⟩
  rcases h with (((h | h) | h) | h) | h <;> exact h (by assumption)
theorem sameRows_len {a b : List RowS} (h : ¬ ((a.length : Nat) : Int) = ((b.length : Nat) : Int)) : Value.bool false = Value.bool (sameRows a b) := boolF fun hh => h (by rw [(map_eq_nth.1 hh).1])
theorem sameRows_f {a b : List RowS} {k : Nat} (hk : k < a.length) (h : ¬ (nth a k).core = (nth b k).core) : Value.bool false = Value.bool (sameRows a b) := boolF fun hh => h ((map_eq_nth.1 hh).2 k hk)
theorem sameRows_t {a b : List RowS} (hl : a.length = b.length) (h : ∀ i, i < a.length → (nth a i).core = (nth b i).core) : Value.bool true = Value.bool (sameRows a b) := boolT (map_eq_nth.2 ⟨hl, h⟩)
theorem rowD_eq {a b : RowS} (h : ((a.node = b.node ∧ a.par = b.par) ∧ a.name = b.name) ∧ datas a.heads = datas b.heads) : rowD a = rowD b := by simp [rowD, h.1.1.1, h.1.1.2, h.1.2, h.2]
theorem rowD_ne {a b : RowS} (h : ((¬ a.node = b.node ∨ ¬ a.par = b.par) ∨ ¬ a.name = b.name) ∨ ¬ datas a.heads = datas b.heads) : ¬ rowD a = rowD b := by
  simp only [rowD, Prod.mk.injEq]
  rintro ⟨h1, h2, h3, h4⟩
  rcases h with ((h | h) | h) | h <;> exact h (by assumption)
def aliveTo (rows : List RowS) (k : Nat) : List RowS := (rows.take k).filter fun r => !liesOf rows r.node ⟨0, 1⟩
theorem aliveTo_in {rows acc : List RowS} {k : Nat} (h : acc = aliveTo rows k) (hk : k < rows.length) (hl : liesOf rows (nth rows k).node ⟨0, 1⟩ = false) : acc ++ [nth rows k] = aliveTo rows (k + 1) := by
  subst h; unfold aliveTo; rw [filter_take_succ hk]; simp [hl]
theorem aliveTo_out {rows acc : List RowS} {k : Nat} (h : acc = aliveTo rows k) (hk : k < rows.length) (hl : liesOf rows (nth rows k).node ⟨0, 1⟩ = true) : acc = aliveTo rows (k + 1) := by
  subst h; unfold aliveTo; rw [filter_take_succ hk]; simp [hl]
theorem aliveTo_all (rows : List RowS) : aliveTo rows rows.length = aliveRef rows := by unfold aliveTo aliveRef; rw [List.take_length]
def eqBy {α : Type} [Inhabited α] (f : α → α → Bool) (a b : List α) : Bool := decide (a.length = b.length ∧ ∀ i, i < a.length → f (nth a i) (nth b i) = true)
theorem eqBy_map {α β : Type} [Inhabited α] [DecidableEq β] (p : α → β) (a b : List α) : eqBy (fun x y => decide (p x = p y)) a b = decide (a.map p = b.map p) := by
  unfold eqBy
  rw [Bool.eq_iff_iff]
  simp only [decide_eq_true_eq]
  exact map_eq_nth.symm
theorem eqBy_datas {a b : List Head} : eqBy (fun x y => decide (x.data = y.data)) a b = decide (datas a = datas b) := eqBy_map (·.data) a b
theorem tableOf_len (rows : List RowS) : (tableOf rows).length ≤ rows.length := by
  unfold tableOf
  have : ∀ (l : List RowS) (kv : List (Stamp × RowS)), (l.foldl (fun kv r => kvPut r.node r kv) kv).length ≤ kv.length + l.length := by
    intro l
    induction l with
    | nil => intro kv; simp
    | cons x l ih =>
      intro kv
      have h1 := ih (kvPut x.node x kv)
      have h2 := kvPut_len x.node x kv
      simp only [List.foldl_cons, List.length_cons]
      omega
  simpa using this rows []
/-- Does a row lie under the trash, by the table? -/
def deadOf (rows : List RowS) (r : RowS) : Bool := (placeOf (tableOf rows) r.node).2 && decide ((placeOf (tableOf rows) r.node).1 = ⟨0, 1⟩)
def aliveOf (rows : List RowS) : List RowS := rows.filter fun r => !deadOf rows r
def aliveOfTo (rows : List RowS) (k : Nat) : List RowS := (rows.take k).filter fun r => !deadOf rows r
theorem aliveOfTo_all (rows : List RowS) : aliveOfTo rows rows.length = aliveOf rows := by unfold aliveOfTo aliveOf; rw [List.take_length]
theorem aliveOfTo_out {rows acc : List RowS} {k : Nat} (h : acc.map RowS.core = (aliveOfTo rows k).map RowS.core) (hk : k < rows.length)
    (hl : (placeOf (tableOf rows) (nth rows k).node).2 = true ∧ (placeOf (tableOf rows) (nth rows k).node).1 = ⟨0, 1⟩) : acc.map RowS.core = (aliveOfTo rows (k + 1)).map RowS.core := by
  unfold aliveOfTo at *
  rw [filter_take_succ hk, show deadOf rows (nth rows k) = true from by simp [deadOf, hl.1, hl.2]]
  simpa using h
theorem aliveOfTo_in {rows acc : List RowS} {k : Nat} {x : RowS} (h : acc.map RowS.core = (aliveOfTo rows k).map RowS.core) (hk : k < rows.length)
    (hl : (placeOf (tableOf rows) (nth rows k).node).2 = false ∨ ¬ (placeOf (tableOf rows) (nth rows k).node).1 = ⟨0, 1⟩) (hx : x.core = (nth rows k).core) : (acc ++ [x]).map RowS.core = (aliveOfTo rows (k + 1)).map RowS.core := by
  unfold aliveOfTo at *
  rw [filter_take_succ hk, show deadOf rows (nth rows k) = false from by rcases hl with hl | hl <;> simp [deadOf, hl]]
  simp only [Bool.not_false, if_true, List.map_append, h, List.map_cons, List.map_nil, hx]
def alikeOf (a b : List RowS) : Bool := decide ((aliveOf a).map rowD = (aliveOf b).map rowD)
def coreD (r : RowC) : Stamp × Stamp × ByteArray × List ID := (r.node, r.par, r.name, datas r.heads)
theorem map_rowD {l l' : List RowS} (h : l.map RowS.core = l'.map RowS.core) : l.map rowD = l'.map rowD := by
  have e : ∀ l : List RowS, l.map rowD = (l.map RowS.core).map coreD := fun l => by rw [List.map_map]; rfl
  rw [e, h, ← e]
theorem alike_eq {a b la lb : List RowS} (ha : la.map RowS.core = (aliveOf a).map RowS.core) (hb : lb.map RowS.core = (aliveOf b).map RowS.core) : eqBy (fun x y => decide (rowD x = rowD y)) la lb = alikeOf a b := by
  rw [eqBy_map, map_rowD ha, map_rowD hb]; rfl
theorem aliveRef_le (rows : List RowS) : (aliveRef rows).length ≤ rows.length := List.length_filter_le _ _
theorem aliveRef_mem {rows : List RowS} {x : RowS} (h : x ∈ aliveRef rows) : x ∈ rows := (List.mem_filter.1 h).1
def pathGo (rows : List RowS) : Nat → Stamp → ByteArray → ByteArray
  | 0, _, out => out
  | n + 1, s, out => if (nth rows (findRow rows s).toNat).par = ⟨0, 0⟩ then (nth rows (findRow rows s).toNat).name ++ out
    else pathGo rows n (nth rows (findRow rows s).toNat).par ((⟨#[47]⟩ : ByteArray) ++ ((nth rows (findRow rows s).toNat).name ++ out))
def pathRef (rows : List RowS) (node : Stamp) : ByteArray := if liesOf rows node ⟨0, 0⟩ = true then pathGo rows rows.length node ByteArray.empty else ByteArray.empty
theorem pathRef_of {rows : List RowS} {node : Stamp} (h : liesOf rows node ⟨0, 0⟩ = true) : pathRef rows node = pathGo rows rows.length node ByteArray.empty := if_pos h
theorem pathRef_none {rows : List RowS} {node : Stamp} (h : liesOf rows node ⟨0, 0⟩ = false) : pathRef rows node = ByteArray.empty := if_neg (by rw [h]; simp)
theorem lies_at {rows : List RowS} {over nd : Stamp} {n : Nat} (h : liesGo rows over n nd = true) : 1 ≤ n ∧ 0 ≤ findRow rows nd ∧ (findRow rows nd).toNat < rows.length ∧ findRow rows nd < rows.length := by
  cases n with
  | zero => cases h
  | succ n =>
    unfold liesGo at h
    split at h
    · cases h
    · rename_i h1
      have := findRow_lt (xs := rows) (s := nd)
      omega
theorem lies_step {rows : List RowS} {over nd : Stamp} {n : Nat} (h : liesGo rows over n nd = true) (hp : ¬ (nth rows (findRow rows nd).toNat).par = over) : liesGo rows over (n - 1) (nth rows (findRow rows nd).toNat).par = true := by
  cases n with
  | zero => cases h
  | succ n =>
    unfold liesGo at h
    split at h
    · cases h
    · first | exact h | (rw [if_neg hp] at h; exact h)
theorem pathGo_step {rows : List RowS} {nd : Stamp} {n : Nat} {out : ByteArray} (h : liesGo rows ⟨0, 0⟩ n nd = true) (hp : ¬ (nth rows (findRow rows nd).toNat).par = ⟨0, 0⟩) :
    pathGo rows n nd out = pathGo rows (n - 1) (nth rows (findRow rows nd).toNat).par ((⟨#[47]⟩ : ByteArray) ++ ((nth rows (findRow rows nd).toNat).name ++ out)) := by
  cases n with
  | zero => cases h
  | succ n =>
    conv => lhs; unfold pathGo
    rw [if_neg hp]; rfl
theorem pathGo_end {rows : List RowS} {nd : Stamp} {n : Nat} {out : ByteArray} (h : liesGo rows ⟨0, 0⟩ n nd = true) (hp : (nth rows (findRow rows nd).toNat).par = ⟨0, 0⟩) : pathGo rows n nd out = (nth rows (findRow rows nd).toNat).name ++ out := by
  cases n with
  | zero => cases h
  | succ n =>
    unfold pathGo
    rw [if_pos hp]
theorem path_size {rows : List RowS} {over nd : Stamp} {n : Nat} {out name : ByteArray} (h : liesGo rows over n nd = true) (hn : n ≤ rows.length) (hs : out.size ≤ (rows.length - n) * 61) (hm : name.size ≤ 60) :
    ((⟨#[47]⟩ : ByteArray) ++ (name ++ out)).size ≤ (rows.length - (n - 1)) * 61 := by
  have := lies_at h
  rw [ByteArray.size_append, ByteArray.size_append, show (⟨#[47]⟩ : ByteArray).size = 1 from rfl]
  omega
theorem path_cat {rows : List RowS} {over nd : Stamp} {n : Nat} {out name : ByteArray} {a b : Nat} (h : liesGo rows over n nd = true) (hn : n ≤ rows.length) (hs : out.size ≤ (rows.length - n) * 61) (hl : rows.length ≤ 1048576) (hm : name.size ≤ 60) (e : a + b ≤ 1 + name.size + out.size) :
    a + b ≤ 9223372036854775807 := by
  omega
/-- The first k and the last k have changed places. -/
def revd (s : List ByteArray) (k : Nat) (cur : List ByteArray) : Prop := ∀ i, i < s.length → nth cur i = if i < k ∨ s.length - k ≤ i then nth s (s.length - 1 - i) else nth s i
theorem revd_zero (s : List ByteArray) : revd s 0 s := fun i hi => by rw [if_neg (by omega)]
theorem nth_set {α : Type} [Inhabited α] {l : List α} {i j : Nat} {x : α} (hi : i < l.length) : nth (l.set i x) j = if j = i then x else nth l j := by
  unfold nth
  simp only [List.getD_eq_getElem?_getD, List.getElem?_set]
  by_cases h : j = i
  · subst h; simp [hi]
  · rw [if_neg h, if_neg (Ne.symm h)]
theorem revd_succ {s cur : List ByteArray} {k : Nat} {j : Int} (hl : cur.length = s.length) (h : revd s k cur) (hj : j = (s.length : Int) - 1 - (k : Int)) (hk : (k : Int) < j) : revd s (k + 1) ((cur.set k (nth cur j.toNat)).set j.toNat (nth cur k)) := by
  intro i hi
  have e : j.toNat = s.length - 1 - k := by omega
  rw [e, nth_set (by rw [List.length_set]; omega), nth_set (by omega), h (s.length - 1 - k) (by omega), h k (by omega), h i hi]
  by_cases h1 : i = s.length - 1 - k
  · subst h1
    rw [if_pos rfl, if_neg (by omega), if_pos (by omega)]
    congr 1; omega
  · rw [if_neg h1]
    by_cases h2 : i = k
    · subst h2
      rw [if_pos rfl, if_neg (by omega), if_pos (by omega)]
    · rw [if_neg h2]
      by_cases h3 : i < k ∨ s.length - k ≤ i
      · rw [if_pos h3, if_pos (by omega)]
      · rw [if_neg h3, if_neg (by omega)]
theorem revd_end {s cur : List ByteArray} {k : Nat} (hl : cur.length = s.length) (h : revd s k cur) (hk : ¬ (k : Int) < (s.length : Int) - 1 - (k : Int)) : cur = s.reverse := by
  apply eq_of_nth (by simp [hl])
  intro i hi
  rw [h i (by omega)]
  have hr : nth s.reverse i = nth s (s.length - 1 - i) := by
    rw [nth_eq (by simp; omega), nth_eq (by omega), List.getElem_reverse]
  rw [hr]
  by_cases h3 : i < k ∨ s.length - k ≤ i
  · rw [if_pos h3]
  · rw [if_neg h3]
    congr 1; omega
def orInt (vals : List Int) : Int := (vals.find? fun v => !decide (v = 0)).getD 0
theorem orInt_at {vals : List Int} {k : Nat} (hn : ∀ i, i < k → nth vals i = 0) (hk : k < vals.length) (h : ¬ nth vals k = 0) : orInt vals = nth vals k := by
  unfold orInt
  have : vals.find? (fun v => !decide (v = 0)) = some (nth vals k) := by
    rw [List.find?_eq_some_iff_getElem]
    refine ⟨by simp [h], k, hk, (nth_eq hk).symm, fun j hj => ?_⟩
    have := hn j hj
    rw [nth_eq (by omega)] at this
    simp [this]
  rw [this]; rfl
theorem orInt_none {vals : List Int} (hn : ∀ i, i < vals.length → nth vals i = 0) : orInt vals = 0 := by
  unfold orInt
  have : vals.find? (fun v => !decide (v = 0)) = none := by
    rw [List.find?_eq_none]
    intro x hx
    obtain ⟨i, hi, rfl⟩ := List.getElem_of_mem hx
    have := hn i hi
    rw [nth_eq hi] at this
    simp [this]
  rw [this]; rfl
theorem orInt_cmp {a b : Stamp} : orInt [cmpInt a.T b.T, cmpInt a.R b.R] = cmpSt a b := by
  unfold orInt cmpInt cmpSt
  by_cases h1 : a.T < b.T
  · simp [h1]
  · by_cases h2 : b.T < a.T
    · have : ¬ a.T = b.T := by omega
      simp [h1, h2, this]
    · have : a.T = b.T := by omega
      simp only [this, Int.lt_irrefl, if_false, true_and, false_or]
      by_cases h3 : a.R < b.R
      · simp [h3]
      · by_cases h4 : b.R < a.R
        · have : ¬ a.R = b.R := by omega
          simp [h3, h4, this]
        · have : a.R = b.R := by omega
          simp [this]
theorem cmpSt_range (a b : Stamp) : cmpSt a b = -1 ∨ cmpSt a b = 0 ∨ cmpSt a b = 1 := by
  unfold cmpSt; split
  · exact .inl rfl
  · split
    · exact .inr (.inl rfl)
    · exact .inr (.inr rfl)
def riseBy {α : Type} [Inhabited α] (f : α → α → Int) (a : List α) : Bool := decide (∀ i, i < a.length → 1 ≤ i → f (nth a (i - 1)) (nth a i) < 0)
theorem rise_succ {α : Type} [Inhabited α] {f : α → α → Int} {a : List α} {k : Nat} (h : ∀ i, i < k → 1 ≤ i → f (nth a (i - 1)) (nth a i) < 0) (hk : f (nth a (k - 1)) (nth a k) < 0) : ∀ i, i < k + 1 → 1 ≤ i → f (nth a (i - 1)) (nth a i) < 0 := fun i h2 h1 => by
  rcases Nat.lt_or_eq_of_le (Nat.le_of_lt_succ h2) with h3 | h3
  · exact h i h3 h1
  · subst h3; exact hk
def itemHead1 (node : Stamp) (hs : List Head) (i : Nat) : Prop := stRight (nth hs i).tm = true ∧ cmpSt (nth hs i).tm node = 1 ∧ (nth hs i).data ≠ zeroId
theorem itemHead1_t {node : Stamp} {hs : List Head} {k : Nat} (h : (stRight (nth hs k).tm = true ∧ ¬ cmpSt (nth hs k).tm node ≤ 0) ∧ ¬ (nth hs k).data = zeroId) : itemHead1 node hs k :=
  ⟨h.1.1, by have := cmpSt_range (nth hs k).tm node; omega, h.2⟩
theorem itemOk_f3 {x : ItemS} {k : Nat} (hk : k < x.heads.length) (h : (stRight (nth x.heads k).tm = false ∨ cmpSt (nth x.heads k).tm x.node ≤ 0) ∨ (nth x.heads k).data = zeroId) : Value.bool false = Value.bool (itemOkS x) := by
  refine boolF ?_
  rintro ⟨_, _, _, _, _, hh⟩
  obtain ⟨a1, a2, a3, a4⟩ := hh k hk
  rcases h with (h | h) | h
  · rw [a1] at h; cases h
  · omega
  · exact a3 h
theorem cmp_lt_iff (a b : Stamp) : cmpSt a b < 0 ↔ cmpSt a b = -1 := by have := cmpSt_range a b; omega
theorem itemOk_e {x : ItemS} (h : (((stRight x.node = true ∧ stRight x.tm = true) ∧ ¬ cmpSt x.tm x.node < 0) ∧ nameOk x.name = true) ∧ ¬ (1000 : Int) < ((x.heads.length : Nat) : Int)) (h2 : ∀ i, i < x.heads.length → itemHead1 x.node x.heads i) :
    Value.bool (riseBy (fun a b : Head => cmpSt a.tm b.tm) x.heads) = Value.bool (itemOkS x) := by
  refine boolE ?_
  unfold riseBy
  rw [decide_eq_true_eq]
  constructor
  · intro hr
    refine ⟨h.1.1.1.1, h.1.1.1.2, h.1.1.2, h.1.2, by omega, fun i hi => ⟨(h2 i hi).1, (h2 i hi).2.1, (h2 i hi).2.2, ?_⟩⟩
    by_cases h0 : i = 0
    · exact .inl h0
    · exact .inr ((cmp_lt_iff _ _).1 (hr i hi (by omega)))
  · intro hr i hi h1
    rcases (hr.2.2.2.2.2 i hi).2.2.2 with h0 | h0
    · omega
    · exact (cmp_lt_iff _ _).2 h0
def idxBy {α : Type} (f : α → Bool) (a : List α) : Int := match a.findIdx? f with | some i => (i : Int) | none => -1
theorem idxBy_at {α : Type} [Inhabited α] {f : α → Bool} {a : List α} {k : Nat} (hn : ∀ i, i < k → f (nth a i) = false) (hk : k < a.length) (h : f (nth a k) = true) : idxBy f a = (k : Int) := by
  have : a.findIdx? f = some k := by
    rw [List.findIdx?_eq_some_iff_getElem]
    refine ⟨hk, by rw [← nth_eq hk]; exact h, fun j hj => ?_⟩
    have := hn j hj
    rw [nth_eq (by omega)] at this
    simp [this]
  simp [idxBy, this]
theorem idxBy_none {α : Type} [Inhabited α] {f : α → Bool} {a : List α} (hn : ∀ i, i < a.length → f (nth a i) = false) : idxBy f a = -1 := by
  have : a.findIdx? f = none := by
    rw [List.findIdx?_eq_none_iff]
    intro x hx
    obtain ⟨i, hi, rfl⟩ := List.getElem_of_mem hx
    have := hn i hi
    rwa [nth_eq hi] at this
  simp [idxBy, this]
theorem boolIdx {α : Type} [Inhabited α] (f : α → Bool) (a : List α) : Value.bool (decide (0 ≤ idxBy f a)) = Value.bool (a.any f) := by
  congr 1
  unfold idxBy
  cases h : a.findIdx? f with
  | none =>
    rw [List.findIdx?_eq_none_iff] at h
    have : a.any f = false := by rw [List.any_eq_false]; intro x hx; simp [h x hx]
    rw [this]; rfl
  | some i =>
    obtain ⟨hi, h1, _⟩ := List.findIdx?_eq_some_iff_getElem.1 h
    have : a.any f = true := List.any_eq_true.2 ⟨a[i], List.getElem_mem hi, h1⟩
    rw [this]; simp
theorem dirOk_e {items : List ItemS} : Value.bool ((decide (((items.length : Nat) : Int) ≤ 1000) && !items.any fun x => !itemOkS x) && riseBy (fun a b : ItemS => cmpSt a.node b.node) items) = Value.bool (dirOk items) := by
  refine boolE ?_
  unfold riseBy
  simp only [Bool.and_eq_true, decide_eq_true_eq, Bool.not_eq_true', List.any_eq_false, Bool.not_eq_false]
  constructor
  · rintro ⟨⟨h1, h2⟩, h3⟩
    refine ⟨by omega, fun i hi => ⟨h2 _ (nth_mem hi), ?_⟩⟩
    by_cases h0 : i = 0
    · exact .inl h0
    · exact .inr ((cmp_lt_iff _ _).1 (h3 i hi (by omega)))
  · rintro ⟨h1, h2⟩
    refine ⟨⟨by omega, fun x hx => ?_⟩, fun i hi h0 => ?_⟩
    · obtain ⟨i, hi, rfl⟩ := List.getElem_of_mem hx
      rw [← nth_eq hi]; exact (h2 i hi).1
    · rcases (h2 i hi).2 with h | h
      · omega
      · exact (cmp_lt_iff _ _).2 h
theorem swap_perm {α : Type} [Inhabited α] {l : List α} {i j : Nat} (hi : i < l.length) (hj : j < l.length) : ((l.set i (nth l j)).set j (nth l i)).Perm l := by
  by_cases hij : i = j
  · subst hij
    rw [nth_eq hi, List.set_getElem_self, List.set_getElem_self]
  · rw [nth_eq hi, nth_eq hj]
    exact @List.set_set_perm _ l i j hi hj
theorem swap_perm' {l s : List RowS} {i j : Nat} (h : l.Perm s) (hi : i < l.length) (hj : j < l.length) : ((l.set i (nth l j)).set j (nth l i)).Perm s := (swap_perm hi hj).trans h
end Go.Proofs.Ytiknfldhommmpaa
namespace Go.Proofs.Ytiknfldhommmpaa
open Go
set_option maxRecDepth 100000
set_option linter.unusedVariables false
set_option linter.unusedSimpArgs false
theorem eqv_Stamp24 : EqV Try.prog 24 2 (fun x : Stamp => stampV x) :=
  eqv_struct2 Try.underlying24 Try.stoodInHeld24 (by decide) (by decide) (fun _ _ => part_1 (kk := 0) Try.isAgg2 rfl rfl) (fun _ _ => part_1 (kk := 1) Try.isAgg3 rfl rfl) (p := Stamp.T) (q := Stamp.R) (eqv_int Try.underlying2) (eqv_int Try.underlying3) (fun x y h1 h2 => by cases x; cases y; simp_all)
theorem eqv_ID36 : EqV Try.prog 36 2 (fun x : ID => idV x) := eqv_id (e := 5) (i := Try.t5) Try.underlying36 Try.underlying5 (by kernel_rfl) rfl Try.isAgg5
theorem eqv_ID35 : EqV Try.prog 35 2 (fun x : ID => idV x) := eqv_id (e := 5) (i := Try.t5) Try.underlying35 Try.underlying5 (by kernel_rfl) rfl Try.isAgg5
theorem eqv_Head62 : EqV Try.prog 62 3 (fun x : Head => headV x) :=
  eqv_struct2 Try.underlying62 Try.stoodInHeld62 (by decide) (by decide) (fun _ _ => part_A (kk := 0) (m := 2) Try.isAgg24 Try.sizeOf24 rfl rfl rfl) (fun _ _ => part_A (kk := 2) (m := 1) Try.isAgg36 Try.sizeOf36 rfl rfl rfl) (p := Head.tm) (q := Head.data) eqv_Stamp24 eqv_ID36 (fun x y h1 h2 => by cases x; cases y; simp_all)
theorem keyT_Stamp24 : KeyT Try.prog 24 (fun x : Stamp => stampV x) := keyT_stamp (i1 := 0) (i2 := 0) (n1 := "") (n2 := "") Try.underlying24 (by decide) (by decide) rfl rfl Try.underlying2 Try.underlying3 Try.isAgg2 Try.isAgg3 eqv_Stamp24
theorem TryMixed : Try.prog.follows .mixedOrders = true := by kernel_rfl
end Go.Proofs.Ytiknfldhommmpaa
namespace Go.Proofs.Ytiknfldhommmpaa
open Go
set_option maxRecDepth 100000
set_option linter.unusedVariables false
set_option linter.unusedSimpArgs false
set_option maxHeartbeats 1000000 in
theorem differ_of (hrows : SlH) (rows : List RowS) (w : World) (Srows : Sl (Old w) rowCh 8 hrows rows w) :
    Calls Try.prog 24 #[(slV hrows rows)] w (Ret fun v w' => ∃ r, v = .map (some r) ∧ Ext w w' ∧ w.heap.size ≤ r ∧ MapQ r (fun x : Stamp => stampV x) rowV (tableOf rows) w') := by
 refine calls_W Try.func24 rfl Try.ntmps24 rfl ?_
 have H0 := Ctx.start w nob
 have H1 := H0.addSl _ Srows (fun b hb => ⟨hb, fun _ ho => (nomatch ho)⟩)
 have LSrows := Srows.len
 refine W_seq (W_reg ?_)
 refine O_v rfl (R_assign (v := (.map none)) rfl ?_)
 refine O_nil (Then_n (W_seq (W_reg ?_)))
 refine O_v rfl (C_makeMap H1 (fun x : Stamp => stampV x) rowV ?_)
 intro r2 w3 hr4 hx5 H6
 refine O_v rfl (R_assign (v := (.map (some r2))) rfl ?_)
 refine O_nil (Then_n (W_seq (W_seq (W_reg ?_))))
 refine O_v rfl (R_move (v := (slV hrows rows)) rfl ?_)
 refine O_v rfl (R_len_slice (a := hrows.a) (n := rows.length) (c := hrows.c) Try.underlying22 rfl ?_)
 refine O_v rfl (R_move (v := (.int .i64 0)) rfl ?_)
 refine O_nil (Then_n (W_block ?_))
 refine W_loop (fun m7 e8 w9 => ∃ (k : Nat), ∃ (kv : List (Stamp × RowS)), m7 = rows.length - k ∧ (k ≤ rows.length) ∧ (kv = tableOf (rows.take k)) ∧ ∃ eb10, e8 = envL [(2, (.map none)), (3, (.map (some r2))), (7, (slV hrows rows)), (8, (.int .i64 ((rows.length : Nat) : Int))), (9, (.int .i64 ((k : Nat) : Int)))] eb10 ∧ Ctx w nob w9 [mapO r2 (fun x : Stamp => stampV x) rowV kv] [slI (Old w) rowCh 8 hrows rows]) _ ⟨0, [], rfl, (by omega), rfl, _, envL_self ⟨rfl, rfl, rfl, rfl, rfl, trivial⟩, H6⟩ ?_
 rintro m7 _ w9 ⟨k, kv, rfl, hk, hkv, eb10, rfl, H11⟩
 refine W_seq (W_reg ?_)
 refine O_v rfl (R_cmp (a := ((k : Nat) : Int)) (b := ((rows.length : Nat) : Int)) (r := (decide (((k : Nat) : Int) < ((rows.length : Nat) : Int)))) rfl rfl rfl ?_)
 refine O_nil (Then_n (W_seq ?_))
 refine W_cond (t := (decide (((k : Nat) : Int) < ((rows.length : Nat) : Int)))) rfl (fun hc12 => ?_) (fun hc12 => ?_)
 ·have hc12 : (((k : Nat) : Int) < ((rows.length : Nat) : Int)) := (of_decide_eq_true hc12)
  refine W_skip (Then_n (W_seq (W_block (W_seq (W_reg ?_)))))
  refine O_v rfl (R_index_pure (H11.sl 0 rfl) (n := rows.length) rfl (j := ((k : Nat) : Int)) (oo := (hrows.o + k * 8)) Try.underlying22 Try.sizeOf44 rfl rfl (by omega) (by omega) rfl ?_)
  refine O_v rfl (R_loadA (cs := [[(.int .i64 (((nth rows k).node).T))], [(.int .i64 (((nth rows k).node).R))], [(.int .i64 (((nth rows k).par).T))], [(.int .i64 (((nth rows k).par).R))], [(.int .i64 (((nth rows k).tm).T))], [(.int .i64 (((nth rows k).tm).R))], [(.string ((nth rows k).name))], [(slV ((nth rows k).hh) ((nth rows k).heads))]]) Try.isAgg44 Try.sizeOf44 rfl rfl ((Sl.elem (H11.sl 0 rfl) (i := k) (by omega) rfl).chunks 0 8 0 (hrows.o + k * 8) _ rfl rfl rfl) ?_)
  refine O_v rfl (C_alloc H11 [[(.int .i64 0)], [(.int .i64 0)], [(.int .i64 0)], [(.int .i64 0)], [(.int .i64 0)], [(.int .i64 0)], [(.string ByteArray.empty)], [(.slice none 0 0)]] Try.zeroValue44 ?_)
  intro b13 w14 hb15 hx16 H17
  refine O_u (C_storeA H17 0 rfl 0 (sub := [[(.int .i64 (((nth rows k).node).T))], [(.int .i64 (((nth rows k).node).R))], [(.int .i64 (((nth rows k).par).T))], [(.int .i64 (((nth rows k).par).R))], [(.int .i64 (((nth rows k).tm).T))], [(.int .i64 (((nth rows k).tm).R))], [(.string ((nth rows k).name))], [(slV ((nth rows k).hh) ((nth rows k).heads))]]) [[(.int .i64 (((nth rows k).node).T))], [(.int .i64 (((nth rows k).node).R))], [(.int .i64 (((nth rows k).par).T))], [(.int .i64 (((nth rows k).par).R))], [(.int .i64 (((nth rows k).tm).T))], [(.int .i64 (((nth rows k).tm).R))], [(.string ((nth rows k).name))], [(slV ((nth rows k).hh) ((nth rows k).heads))]] Try.sizeOf44 rfl rfl rfl rfl ⟨[[(.int .i64 0)], [(.int .i64 0)], [(.int .i64 0)], [(.int .i64 0)], [(.int .i64 0)], [(.int .i64 0)], [(.string ByteArray.empty)], [(.slice none 0 0)]], [], rfl, rfl, rfl⟩ rfl ?_)
  intro w18 hg19 H20
  refine O_nil (Then_n (W_reg ?_))
  refine O_v rfl (R_move (v := (.map (some r2))) rfl ?_)
  refine O_v rfl (R_fieldAddr (off := 0) (oo := 0) Try.underlying44 rfl rfl Try.sizeOf24 rfl rfl ?_)
  refine O_v rfl (R_loadA (cs := [[(.int .i64 (((nth rows k).node).T))], [(.int .i64 (((nth rows k).node).R))]]) Try.isAgg24 Try.sizeOf24 rfl rfl ((boxR_at (H20.getOwn 0 rfl)).chunks 0 2 0 0 _ rfl rfl rfl) ?_)
  refine O_v rfl (R_loadA (cs := [[(.int .i64 (((nth rows k).node).T))], [(.int .i64 (((nth rows k).node).R))], [(.int .i64 (((nth rows k).par).T))], [(.int .i64 (((nth rows k).par).R))], [(.int .i64 (((nth rows k).tm).T))], [(.int .i64 (((nth rows k).tm).R))], [(.string ((nth rows k).name))], [(slV ((nth rows k).hh) ((nth rows k).heads))]]) Try.isAgg44 Try.sizeOf44 rfl rfl ((boxR_at (H20.getOwn 0 rfl)).chunks 0 8 0 0 _ rfl rfl rfl) ?_)
  refine O_u (C_mapUpdate H20 1 rfl (kk := ((nth rows k).node)) (v := (nth rows k)) keyT_Stamp24 Try.underlying56 rfl rfl rfl ?_)
  intro w21 hg22 H23
  refine O_nil (Blk_n (Then_n (W_reg ?_)))
  refine O_v rfl (R_arith (a := ((k : Nat) : Int)) (b := 1) (r0 := ((k : Nat) : Int) + 1) (r := ((k + 1 : Nat) : Int)) rfl rfl rfl (wrapN _ (by omega)) ?_)
  refine O_v rfl (R_move (v := (.int .i64 ((k + 1 : Nat) : Int))) rfl ?_)
  refine O_nil (Then_n ?_)
  have H24 := H23.sub (B' := [mapO r2 (fun x : Stamp => stampV x) rowV (kvPut ((nth rows k).node) (nth rows k) kv)]) (I' := [slI (Old w) rowCh 8 hrows rows]) (List.Sublist.cons _ (List.Sublist.cons_cons _ List.Sublist.slnil)) (List.forall_mem_cons.2 ⟨List.mem_of_getElem? (i := 0) rfl, fun _ h => (nomatch h)⟩)
  refine ⟨_, ?_, (k + 1), (kvPut (nth rows k).node (nth rows k) kv), rfl, (by omega), (by rw [hkv]; exact tableOf_succ (by omega)), _, envL_self ⟨rfl, rfl, rfl, rfl, rfl, trivial⟩, H24⟩
  omega
 ·have hc12 : ¬ (((k : Nat) : Int) < ((rows.length : Nat) : Int)) := (of_decide_eq_false hc12)
  refine W_exit (Then_x (Then_x (Blk_x (Then_n (W_seq (W_reg ?_))))))
  refine O_v rfl (R_move (v := (.map (some r2))) rfl ?_)
  refine O_v rfl (R_assign (v := (.map (some r2))) rfl ?_)
  refine O_nil (Then_n (W_ret ?_))
  refine ret_1 (v := (.map (some r2))) Try.results24 rfl ?_
  have hE : kv = tableOf rows := (by rw [hkv, List.take_of_length_le (by omega)])
  exact ⟨r2, rfl, H11.gr, C_mapNew H11 0 rfl, (by rw [← hE]; exact (H11.getOwn 0 rfl))⟩

end Go.Proofs.Ytiknfldhommmpaa
namespace Go.Proofs.Ytiknfldhommmpaa
open Go
set_option maxRecDepth 100000
set_option linter.unusedVariables false
set_option linter.unusedSimpArgs false
set_option maxHeartbeats 1000000 in
theorem EqualFunc_Head (ha : SlH) (a : List Head) (hb : SlH) (b : List Head) (keq : FuncId) (ceq : Array Value) (f : Head → Head → Bool) (w : World) (Sa : Sl (Old w) headCh 34 ha a w) (Sb : Sl (Old w) headCh 34 hb b w) (Keq : callable Try.prog keq = true) (Ceq : ∀ x ∈ a, ∀ y ∈ b, ∀ w1, Ext w w1 → Calls Try.prog keq (#[headV x, headV y] ++ ceq) w1 (Ret fun v w2 => v = .bool (f x y) ∧ Ext w1 w2)) :
    Calls Try.prog 41 #[(slV ha a), (slV hb b), (.func (.func keq) #[] ceq)] w (Ret fun v w' => v = (.bool (eqBy f a b)) ∧ Ext w w') := by
 refine calls_W Try.func41 rfl Try.ntmps41 rfl ?_
 have H0 := Ctx.start w nob
 have H1 := H0.addSl _ Sa (fun b hb => ⟨hb, fun _ ho => (nomatch ho)⟩)
 have LSa := Sa.len
 have H2 := H1.addSl _ Sb (fun b hb => ⟨hb, fun _ ho => (nomatch ho)⟩)
 have LSb := Sb.len
 refine W_seq (W_reg ?_)
 refine O_v rfl (R_assign (v := (.bool false)) rfl ?_)
 refine O_nil (Then_n (W_seq (W_seq (W_reg ?_))))
 refine O_v rfl (R_move (v := (slV ha a)) rfl ?_)
 refine O_v rfl (R_len_slice (a := ha.a) (n := a.length) (c := ha.c) Try.underlying42 rfl ?_)
 refine O_v rfl (R_move (v := (slV hb b)) rfl ?_)
 refine O_v rfl (R_len_slice (a := hb.a) (n := b.length) (c := hb.c) Try.underlying42 rfl ?_)
 refine O_v rfl (R_cmp (a := ((a.length : Nat) : Int)) (b := ((b.length : Nat) : Int)) (r := (!(decide (((a.length : Nat) : Int) = ((b.length : Nat) : Int))))) rfl rfl rfl ?_)
 refine O_nil (Then_n ?_)
 refine W_cond (t := (!(decide (((a.length : Nat) : Int) = ((b.length : Nat) : Int))))) rfl (fun hc3 => ?_) (fun hc3 => ?_)
 ·have hc3 : ¬ (((a.length : Nat) : Int) = ((b.length : Nat) : Int)) := (of_decide_eq_false (notT hc3))
  refine W_seq (W_reg ?_)
  refine O_v rfl (R_assign (v := (.bool false)) rfl ?_)
  refine O_nil (Then_n (W_ret (Then_r ?_)))
  refine ret_1 (v := (.bool false)) Try.results41 rfl ?_
  exact ⟨(boolF (fun h => by have := h.1; omega)), H2.gr⟩
 ·have hc3 : (((a.length : Nat) : Int) = ((b.length : Nat) : Int)) := (of_decide_eq_true (notF hc3))
  refine W_skip (Then_n (W_seq (W_seq (W_reg ?_))))
  refine O_v rfl (R_move (v := (slV ha a)) rfl ?_)
  refine O_v rfl (R_len_slice (a := ha.a) (n := a.length) (c := ha.c) Try.underlying42 rfl ?_)
  refine O_v rfl (R_move (v := (.int .i64 0)) rfl ?_)
  refine O_nil (Then_n (W_block ?_))
  refine W_loop (fun m4 e5 w6 => ∃ (k : Nat), m4 = a.length - k ∧ (k ≤ a.length) ∧ (∀ i, i < k → f (nth a i) (nth b i) = true) ∧ ∃ eb7, e5 = envL [(1, (slV hb b)), (2, (.func (.func keq) #[] ceq)), (15, (slV ha a)), (16, (.int .i64 ((a.length : Nat) : Int))), (17, (.int .i64 ((k : Nat) : Int)))] eb7 ∧ Ctx w nob w6 [] [slI (Old w) headCh 34 hb b, slI (Old w) headCh 34 ha a]) _ ⟨0, rfl, (by omega), (all_zero _), _, envL_self ⟨rfl, rfl, rfl, rfl, rfl, trivial⟩, H2⟩ ?_
  rintro m4 _ w6 ⟨k, rfl, hk, hn, eb7, rfl, H8⟩
  refine W_seq (W_reg ?_)
  refine O_v rfl (R_cmp (a := ((k : Nat) : Int)) (b := ((a.length : Nat) : Int)) (r := (decide (((k : Nat) : Int) < ((a.length : Nat) : Int)))) rfl rfl rfl ?_)
  refine O_nil (Then_n (W_seq ?_))
  refine W_cond (t := (decide (((k : Nat) : Int) < ((a.length : Nat) : Int)))) rfl (fun hc9 => ?_) (fun hc9 => ?_)
  ·have hc9 : (((k : Nat) : Int) < ((a.length : Nat) : Int)) := (of_decide_eq_true hc9)
   refine W_skip (Then_n (W_seq (W_block (W_seq (W_reg ?_)))))
   refine O_v rfl (R_move (v := (.int .i64 ((k : Nat) : Int))) rfl ?_)
   refine O_v rfl (R_index_pure (H8.sl 1 rfl) (n := a.length) rfl (j := ((k : Nat) : Int)) (oo := (ha.o + k * 34)) Try.underlying42 Try.sizeOf62 rfl rfl (by omega) (by omega) rfl ?_)
   refine O_v rfl (R_loadA (cs := [[(.int .i64 (((nth a k).tm).T))], [(.int .i64 (((nth a k).tm).R))], (idCells ((nth a k).data))]) Try.isAgg62 Try.sizeOf62 rfl rfl ((Sl.elem (H8.sl 1 rfl) (i := k) (by omega) rfl).chunks 0 3 0 (ha.o + k * 34) _ rfl rfl rfl) ?_)
   refine O_v rfl (C_alloc H8 [[(.int .i64 0)], [(.int .i64 0)], (idCells zeroId)] Try.zeroValue62 ?_)
   intro b10 w11 hb12 hx13 H14
   refine O_v rfl (R_assign (v := (.int .i64 ((k : Nat) : Int))) rfl ?_)
   refine O_u (C_storeA H14 0 rfl 0 (sub := [[(.int .i64 (((nth a k).tm).T))], [(.int .i64 (((nth a k).tm).R))], (idCells ((nth a k).data))]) [[(.int .i64 (((nth a k).tm).T))], [(.int .i64 (((nth a k).tm).R))], (idCells ((nth a k).data))] Try.sizeOf62 rfl rfl rfl rfl ⟨[[(.int .i64 0)], [(.int .i64 0)], (idCells zeroId)], [], rfl, rfl, rfl⟩ rfl ?_)
   intro w15 hg16 H17
   refine O_nil (Then_n (W_seq (W_reg ?_)))
   refine O_v rfl (R_move (v := (slV hb b)) rfl ?_)
   refine O_v rfl (R_move (v := (.int .i64 ((k : Nat) : Int))) rfl ?_)
   refine O_v rfl (R_index_pure (H17.sl 0 rfl) (n := b.length) rfl (j := ((k : Nat) : Int)) (oo := (hb.o + k * 34)) Try.underlying42 Try.sizeOf62 rfl rfl (by omega) (by omega) rfl ?_)
   refine O_v rfl (R_loadA (cs := [[(.int .i64 (((nth b k).tm).T))], [(.int .i64 (((nth b k).tm).R))], (idCells ((nth b k).data))]) Try.isAgg62 Try.sizeOf62 rfl rfl ((Sl.elem (H17.sl 0 rfl) (i := k) (by omega) rfl).chunks 0 3 0 (hb.o + k * 34) _ rfl rfl rfl) ?_)
   refine O_v rfl (C_alloc H17 [[(.int .i64 0)], [(.int .i64 0)], (idCells zeroId)] Try.zeroValue62 ?_)
   intro b18 w19 hb20 hx21 H22
   refine O_u (C_storeA H22 0 rfl 0 (sub := [[(.int .i64 (((nth b k).tm).T))], [(.int .i64 (((nth b k).tm).R))], (idCells ((nth b k).data))]) [[(.int .i64 (((nth b k).tm).T))], [(.int .i64 (((nth b k).tm).R))], (idCells ((nth b k).data))] Try.sizeOf62 rfl rfl rfl rfl ⟨[[(.int .i64 0)], [(.int .i64 0)], (idCells zeroId)], [], rfl, rfl, rfl⟩ rfl ?_)
   intro w23 hg24 H25
   refine O_nil (Then_n (W_seq (W_reg ?_)))
   refine O_v rfl (R_move (v := (.func (.func keq) #[] ceq)) rfl ?_)
   refine O_v rfl (R_loadA (cs := [[(.int .i64 (((nth a k).tm).T))], [(.int .i64 (((nth a k).tm).R))], (idCells ((nth a k).data))]) Try.isAgg62 Try.sizeOf62 rfl rfl ((boxR_at (H25.getOwn 1 rfl)).chunks 0 3 0 0 _ rfl rfl rfl) ?_)
   refine O_v rfl (R_loadA (cs := [[(.int .i64 (((nth b k).tm).T))], [(.int .i64 (((nth b k).tm).R))], (idCells ((nth b k).data))]) Try.isAgg62 Try.sizeOf62 rfl rfl ((boxR_at (H25.getOwn 0 rfl)).chunks 0 3 0 0 _ rfl rfl rfl) ?_)
   refine O_v rfl (R_callV (vs := [(aggOf (headCh (nth a k))), (aggOf (headCh (nth b k)))]) Keq rfl rfl ((Ceq _ (nth_mem (by omega)) _ (nth_mem (by omega)) w23 H25.gr).ret ?_))
   rintro _ w26 ⟨rfl, hx27⟩
   have H28 := H25.ext hx27
   refine O_v rfl (R_not rfl ?_)
   refine O_nil (Then_n ?_)
   refine W_cond (t := (!(f (nth a k) (nth b k)))) rfl (fun hc29 => ?_) (fun hc29 => ?_)
   ·have hc29 : (f (nth a k) (nth b k)) = false := (notT hc29)
    refine W_seq (W_reg ?_)
    refine O_v rfl (R_assign (v := (.bool false)) rfl ?_)
    refine O_nil (Then_n (W_ret (Blk_r (Then_r (Then_r (Blk_r (Then_r ?_)))))))
    refine ret_1 (v := (.bool false)) Try.results41 rfl ?_
    exact ⟨(boolF (fun h => by have h1 := h.2 k (by omega); simp_all)), H28.gr⟩
   ·have hc29 : (f (nth a k) (nth b k)) = true := (notF hc29)
    refine W_skip (Blk_n (Then_n (W_reg ?_)))
    refine O_v rfl (R_arith (a := ((k : Nat) : Int)) (b := 1) (r0 := ((k : Nat) : Int) + 1) (r := ((k + 1 : Nat) : Int)) rfl rfl rfl (wrapN _ (by omega)) ?_)
    refine O_v rfl (R_move (v := (.int .i64 ((k + 1 : Nat) : Int))) rfl ?_)
    refine O_nil (Then_n ?_)
    have H30 := H28.sub (B' := []) (I' := [slI (Old w) headCh 34 hb b, slI (Old w) headCh 34 ha a]) (List.Sublist.cons _ (List.Sublist.cons _ List.Sublist.slnil)) (List.forall_mem_cons.2 ⟨List.mem_of_getElem? (i := 0) rfl, List.forall_mem_cons.2 ⟨List.mem_of_getElem? (i := 1) rfl, fun _ h => (nomatch h)⟩⟩)
    refine ⟨_, ?_, (k + 1), rfl, (by omega), (all_succ hn (by assumption)), _, envL_self ⟨rfl, rfl, rfl, rfl, rfl, trivial⟩, H30⟩
    omega
  ·have hc9 : ¬ (((k : Nat) : Int) < ((a.length : Nat) : Int)) := (of_decide_eq_false hc9)
   refine W_exit (Then_x (Then_x (Blk_x (Then_n (W_seq (W_reg ?_))))))
   refine O_v rfl (R_assign (v := (.bool true)) rfl ?_)
   refine O_nil (Then_n (W_ret ?_))
   refine ret_1 (v := (.bool true)) Try.results41 rfl ?_
   exact ⟨(boolT ⟨by omega, by rwa [show a.length = k from by omega]⟩), H8.gr⟩

end Go.Proofs.Ytiknfldhommmpaa
namespace Go.Proofs.Ytiknfldhommmpaa
open Go
set_option maxRecDepth 100000
set_option linter.unusedVariables false
set_option linter.unusedSimpArgs false
set_option maxHeartbeats 1000000 in
theorem differ_sameData_1 (x : Head) (y : Head) (w : World) :
    Calls Try.prog 42 #[(aggOf (headCh x)), (aggOf (headCh y))] w (Ret fun v w' => v = (.bool (decide (x.data = y.data))) ∧ Ext w w') := by
 refine calls_W Try.func42 rfl Try.ntmps42 rfl ?_
 have H0 := Ctx.start w nob
 refine W_seq (W_reg ?_)
 refine O_v rfl (C_box H0 [[(.int .i64 x.tm.T)], [(.int .i64 x.tm.R)], (idCells x.data)] rfl ?_)
 intro b1 w2 hb3 hx4 H5
 refine O_v rfl (C_box H5 [[(.int .i64 y.tm.T)], [(.int .i64 y.tm.R)], (idCells y.data)] rfl ?_)
 intro b6 w7 hb8 hx9 H10
 refine O_v rfl (R_assign (v := (.bool false)) rfl ?_)
 refine O_nil (Then_n (W_seq (W_reg ?_)))
 refine O_v rfl (R_fieldAddr (off := 2) (oo := 2) Try.underlying62 rfl rfl Try.sizeOf36 rfl rfl ?_)
 refine O_v rfl (R_loadA (cs := [(idCells x.data)]) Try.isAgg36 Try.sizeOf36 rfl rfl ((boxR_at (H10.getOwn 1 rfl)).chunks 2 1 2 2 _ rfl rfl rfl) ?_)
 refine O_v rfl (R_fieldAddr (off := 2) (oo := 2) Try.underlying62 rfl rfl Try.sizeOf36 rfl rfl ?_)
 refine O_v rfl (R_loadA (cs := [(idCells y.data)]) Try.isAgg36 Try.sizeOf36 rfl rfl ((boxR_at (H10.getOwn 0 rfl)).chunks 2 1 2 2 _ rfl rfl rfl) ?_)
 refine O_v rfl (R_eqv (a := x.data) (b := y.data) eqv_ID36 rfl Try.eqGuardType36 rfl rfl ?_)
 refine O_v rfl (R_assign (v := (.bool (decide (x.data = y.data)))) rfl ?_)
 refine O_nil (Then_n (W_ret ?_))
 refine ret_1 (v := (.bool (decide (x.data = y.data)))) Try.results42 rfl ?_
 exact ⟨rfl, H10.gr⟩

end Go.Proofs.Ytiknfldhommmpaa
namespace Go.Proofs.Ytiknfldhommmpaa
open Go
set_option maxRecDepth 100000
set_option linter.unusedVariables false
set_option linter.unusedSimpArgs false
theorem differ_sameData_c41 : callable Try.prog 41 = true := by kernel_rfl
theorem differ_sameData_c42 : callable Try.prog 42 = true := by kernel_rfl
set_option maxHeartbeats 1000000 in
theorem differ_sameData (a : RowS) (b : RowS) (w : World) (Sa_heads : Sl (Old w) headCh 34 a.hh a.heads w) (Sb_heads : Sl (Old w) headCh 34 b.hh b.heads w) :
    Calls Try.prog 30 #[(aggOf (rowCh a)), (aggOf (rowCh b))] w (Ret fun v w' => v = (.bool (decide (datas a.heads = datas b.heads))) ∧ Ext w w') := by
 refine calls_W Try.func30 rfl Try.ntmps30 rfl ?_
 have H0 := Ctx.start w nob
 have H1 := H0.addSl _ Sa_heads (fun b hb => ⟨hb, fun _ ho => (nomatch ho)⟩)
 have LSa_heads := Sa_heads.len
 have H2 := H1.addSl _ Sb_heads (fun b hb => ⟨hb, fun _ ho => (nomatch ho)⟩)
 have LSb_heads := Sb_heads.len
 refine W_seq (W_reg ?_)
 refine O_v rfl (C_box H2 [[(.int .i64 a.node.T)], [(.int .i64 a.node.R)], [(.int .i64 a.par.T)], [(.int .i64 a.par.R)], [(.int .i64 a.tm.T)], [(.int .i64 a.tm.R)], [(.string a.name)], [(slV a.hh a.heads)]] rfl ?_)
 intro b3 w4 hb5 hx6 H7
 refine O_v rfl (C_box H7 [[(.int .i64 b.node.T)], [(.int .i64 b.node.R)], [(.int .i64 b.par.T)], [(.int .i64 b.par.R)], [(.int .i64 b.tm.T)], [(.int .i64 b.tm.R)], [(.string b.name)], [(slV b.hh b.heads)]] rfl ?_)
 intro b8 w9 hb10 hx11 H12
 refine O_v rfl (R_assign (v := (.bool false)) rfl ?_)
 refine O_nil (Then_n (W_seq (W_reg ?_)))
 refine O_v rfl (R_fieldAddr (off := 7) (oo := 7) Try.underlying44 rfl rfl Try.sizeOf42 rfl rfl ?_)
 refine O_v rfl (R_load1 (v := (slV a.hh a.heads)) Try.isAgg42 rfl ((boxR_at (H12.getOwn 1 rfl)).chunks 7 1 7 7 _ rfl rfl rfl) ?_)
 refine O_v rfl (R_fieldAddr (off := 7) (oo := 7) Try.underlying44 rfl rfl Try.sizeOf42 rfl rfl ?_)
 refine O_v rfl (R_load1 (v := (slV b.hh b.heads)) Try.isAgg42 rfl ((boxR_at (H12.getOwn 0 rfl)).chunks 7 1 7 7 _ rfl rfl rfl) ?_)
 refine O_v rfl (R_callL (vs := [(slV a.hh a.heads), (slV b.hh b.heads), (.func (.func 42) #[] #[])]) differ_sameData_c41 rfl rfl ((EqualFunc_Head a.hh a.heads b.hh b.heads 42 #[] (fun (x y : Head) => decide (x.data = y.data)) w9 (H12.slOld 1 rfl) (H12.slOld 0 rfl) differ_sameData_c42 (fun x _ y _ w1 _ => callsCap0 (differ_sameData_1 x y w1))).ret ?_))
 rintro _ w13 ⟨rfl, hx14⟩
 have H15 := H12.ext hx14
 refine O_v rfl (R_assign (v := (.bool (eqBy (fun (x y : Head) => decide (x.data = y.data)) a.heads b.heads))) rfl ?_)
 refine O_nil (Then_n (W_ret ?_))
 refine ret_1 (v := (.bool (eqBy (fun (x y : Head) => decide (x.data = y.data)) a.heads b.heads))) Try.results30 rfl ?_
 exact ⟨(by rw [eqBy_datas]), H15.gr⟩

end Go.Proofs.Ytiknfldhommmpaa
namespace Go.Proofs.Ytiknfldhommmpaa
open Go
set_option maxRecDepth 100000
set_option linter.unusedVariables false
set_option linter.unusedSimpArgs false
set_option maxHeartbeats 1000000 in
theorem stamp_Right (s : Stamp) (w : World) :
    Calls Try.prog 35 #[(aggOf (stampCh s))] w (Ret fun v w' => v = (.bool (stRight s)) ∧ Ext w w') := by
 refine calls_W Try.func35 rfl Try.ntmps35 rfl ?_
 have H0 := Ctx.start w nob
 refine W_seq (W_reg ?_)
 refine O_v rfl (C_box H0 [[(.int .i64 s.T)], [(.int .i64 s.R)]] rfl ?_)
 intro b1 w2 hb3 hx4 H5
 refine O_v rfl (R_assign (v := (.bool false)) rfl ?_)
 refine O_nil (Then_n (W_seq ?_))
 refine W_rg [(0, .q false), (1, .q false), (2, .q false), (3, .q false), (4, .q false), (5, .q false), (6, .q false), (7, .q false), (8, .q false), (9, .q false), (10, .q false), (11, .q false), (12, .q false), (13, .q false), (14, .q false), (15, .q false), (16, .q false), (17, .q false), (18, .q false)] (by kernel_rfl) ?_
 refine Lx_q (i := 0) rfl rfl _ (fun v6 hv7 => R_fieldAddr (off := 0) (oo := 0) Try.underlying24 rfl rfl Try.sizeOf2 rfl rfl ⟨rfl, Gr.refl _ _⟩) ?_
 refine Lx_q (i := 1) rfl rfl _ (fun v8 hv9 => R_load1 (v := (.int .i64 s.T)) Try.isAgg2 rfl ((boxR_at ((H5.ext hv9).getOwn 0 rfl)).chunks 0 1 0 0 _ rfl rfl rfl) ⟨rfl, Gr.refl _ _⟩) ?_
 refine Lx_q (i := 2) rfl rfl _ (fun v10 hv11 => R_cmp (a := s.T) (b := 1) (r := (decide (1 ≤ s.T))) rfl rfl rfl ⟨rfl, Gr.refl _ _⟩) ?_
 refine Lx_q (i := 3) rfl rfl _ (fun v12 hv13 => R_move (v := (.bool (decide (1 ≤ s.T)))) rfl ⟨rfl, Gr.refl _ _⟩) ?_
 refine Lx_qg (i := 4) true (decide (1 ≤ s.T)) rfl rfl rfl rfl rfl (decide (1 ≤ s.T)) ga_t _ (fun hA v14 hv15 => R_fieldAddr (off := 0) (oo := 0) Try.underlying24 rfl rfl Try.sizeOf2 rfl rfl ⟨rfl, Gr.refl _ _⟩) ?_
 refine Lx_qg (i := 5) true (decide (1 ≤ s.T)) rfl rfl rfl rfl rfl (decide (1 ≤ s.T)) ga_t _ (fun hA v16 hv17 => R_load1 (v := (.int .i64 s.T)) Try.isAgg2 (gv_t hA) ((boxR_at ((H5.ext hv17).getOwn 0 rfl)).chunks 0 1 0 0 _ rfl rfl rfl) ⟨rfl, Gr.refl _ _⟩) ?_
 refine Lx_qg (i := 6) true (decide (1 ≤ s.T)) rfl rfl rfl rfl rfl (decide (1 ≤ s.T)) ga_t _ (fun hA v18 hv19 => R_cmp (a := s.T) (b := 1099511627776) (r := (decide (s.T ≤ 1099511627776))) (gv_t hA) rfl rfl ⟨rfl, Gr.refl _ _⟩) ?_
 refine Lx_q (i := 7) rfl rfl _ (fun v20 hv21 => R_pick (t := (decide (1 ≤ s.T))) (v := (.bool ((decide (1 ≤ s.T)) && (decide (s.T ≤ 1099511627776))))) rfl pk_and ⟨rfl, Gr.refl _ _⟩) ?_
 refine Lx_q (i := 8) rfl rfl _ (fun v22 hv23 => R_move (v := (.bool ((decide (1 ≤ s.T)) && (decide (s.T ≤ 1099511627776))))) rfl ⟨rfl, Gr.refl _ _⟩) ?_
 refine Lx_qg (i := 9) true ((decide (1 ≤ s.T)) && (decide (s.T ≤ 1099511627776))) rfl rfl rfl rfl rfl ((decide (1 ≤ s.T)) && (decide (s.T ≤ 1099511627776))) ga_t _ (fun hA v24 hv25 => R_fieldAddr (off := 1) (oo := 1) Try.underlying24 rfl rfl Try.sizeOf3 rfl rfl ⟨rfl, Gr.refl _ _⟩) ?_
 refine Lx_qg (i := 10) true ((decide (1 ≤ s.T)) && (decide (s.T ≤ 1099511627776))) rfl rfl rfl rfl rfl ((decide (1 ≤ s.T)) && (decide (s.T ≤ 1099511627776))) ga_t _ (fun hA v26 hv27 => R_load1 (v := (.int .i64 s.R)) Try.isAgg3 (gv_t hA) ((boxR_at ((H5.ext hv27).getOwn 0 rfl)).chunks 1 1 1 1 _ rfl rfl rfl) ⟨rfl, Gr.refl _ _⟩) ?_
 refine Lx_qg (i := 11) true ((decide (1 ≤ s.T)) && (decide (s.T ≤ 1099511627776))) rfl rfl rfl rfl rfl ((decide (1 ≤ s.T)) && (decide (s.T ≤ 1099511627776))) ga_t _ (fun hA v28 hv29 => R_cmp (a := s.R) (b := 1) (r := (decide (1 ≤ s.R))) (gv_t hA) rfl rfl ⟨rfl, Gr.refl _ _⟩) ?_
 refine Lx_q (i := 12) rfl rfl _ (fun v30 hv31 => R_pick (t := ((decide (1 ≤ s.T)) && (decide (s.T ≤ 1099511627776)))) (v := (.bool (((decide (1 ≤ s.T)) && (decide (s.T ≤ 1099511627776))) && (decide (1 ≤ s.R))))) rfl pk_and ⟨rfl, Gr.refl _ _⟩) ?_
 refine Lx_q (i := 13) rfl rfl _ (fun v32 hv33 => R_move (v := (.bool (((decide (1 ≤ s.T)) && (decide (s.T ≤ 1099511627776))) && (decide (1 ≤ s.R))))) rfl ⟨rfl, Gr.refl _ _⟩) ?_
 refine Lx_qg (i := 14) true (((decide (1 ≤ s.T)) && (decide (s.T ≤ 1099511627776))) && (decide (1 ≤ s.R))) rfl rfl rfl rfl rfl (((decide (1 ≤ s.T)) && (decide (s.T ≤ 1099511627776))) && (decide (1 ≤ s.R))) ga_t _ (fun hA v34 hv35 => R_fieldAddr (off := 1) (oo := 1) Try.underlying24 rfl rfl Try.sizeOf3 rfl rfl ⟨rfl, Gr.refl _ _⟩) ?_
 refine Lx_qg (i := 15) true (((decide (1 ≤ s.T)) && (decide (s.T ≤ 1099511627776))) && (decide (1 ≤ s.R))) rfl rfl rfl rfl rfl (((decide (1 ≤ s.T)) && (decide (s.T ≤ 1099511627776))) && (decide (1 ≤ s.R))) ga_t _ (fun hA v36 hv37 => R_load1 (v := (.int .i64 s.R)) Try.isAgg3 (gv_t hA) ((boxR_at ((H5.ext hv37).getOwn 0 rfl)).chunks 1 1 1 1 _ rfl rfl rfl) ⟨rfl, Gr.refl _ _⟩) ?_
 refine Lx_qg (i := 16) true (((decide (1 ≤ s.T)) && (decide (s.T ≤ 1099511627776))) && (decide (1 ≤ s.R))) rfl rfl rfl rfl rfl (((decide (1 ≤ s.T)) && (decide (s.T ≤ 1099511627776))) && (decide (1 ≤ s.R))) ga_t _ (fun hA v38 hv39 => R_cmp (a := s.R) (b := 65536) (r := (decide (s.R ≤ 65536))) (gv_t hA) rfl rfl ⟨rfl, Gr.refl _ _⟩) ?_
 refine Lx_q (i := 17) rfl rfl _ (fun v40 hv41 => R_pick (t := (((decide (1 ≤ s.T)) && (decide (s.T ≤ 1099511627776))) && (decide (1 ≤ s.R)))) (v := (.bool ((((decide (1 ≤ s.T)) && (decide (s.T ≤ 1099511627776))) && (decide (1 ≤ s.R))) && (decide (s.R ≤ 65536))))) rfl pk_and ⟨rfl, Gr.refl _ _⟩) ?_
 refine Lx_q (i := 18) rfl rfl _ (fun v42 hv43 => R_assign (v := (.bool ((((decide (1 ≤ s.T)) && (decide (s.T ≤ 1099511627776))) && (decide (1 ≤ s.R))) && (decide (s.R ≤ 65536))))) rfl ⟨rfl, Gr.refl _ _⟩) ?_
 refine Lx_nil (fun w44 hw45 => ?_)
 have H46 := H5.ext hw45
 refine Then_n (W_ret ?_)
 refine ret_1 (v := (.bool ((((decide (1 ≤ s.T)) && (decide (s.T ≤ 1099511627776))) && (decide (1 ≤ s.R))) && (decide (s.R ≤ 65536))))) Try.results35 rfl ?_
 exact ⟨(boolE (by simp only [stRight, Bool.and_eq_true, Bool.or_eq_true, Bool.not_eq_true, decide_eq_true_eq]; omega)), H46.gr⟩

end Go.Proofs.Ytiknfldhommmpaa
namespace Go.Proofs.Ytiknfldhommmpaa
open Go
set_option maxRecDepth 100000
set_option linter.unusedVariables false
set_option linter.unusedSimpArgs false
set_option maxHeartbeats 1000000 in
theorem isNaN_i64 (x : Int) (w : World) :
    Calls Try.prog 72 #[(.int .i64 x)] w (Ret fun v w' => v = (.bool false) ∧ Ext w w') := by
 refine calls_W Try.func72 rfl Try.ntmps72 rfl ?_
 have H0 := Ctx.start w nob
 refine W_seq (W_reg ?_)
 refine O_v rfl (R_assign (v := (.bool false)) rfl ?_)
 refine O_nil (Then_n (W_seq (W_reg ?_)))
 refine O_v rfl (R_move (v := (.int .i64 x)) rfl ?_)
 refine O_v rfl (R_move (v := (.int .i64 x)) rfl ?_)
 refine O_v rfl (R_cmp (a := x) (b := x) (r := (!(decide (x = x)))) rfl rfl rfl ?_)
 refine O_v rfl (R_assign (v := (.bool (!(decide (x = x))))) rfl ?_)
 refine O_nil (Then_n (W_ret ?_))
 refine ret_1 (v := (.bool (!(decide (x = x))))) Try.results72 rfl ?_
 exact ⟨(by simp), H0.gr⟩

end Go.Proofs.Ytiknfldhommmpaa
namespace Go.Proofs.Ytiknfldhommmpaa
open Go
set_option maxRecDepth 100000
set_option linter.unusedVariables false
set_option linter.unusedSimpArgs false
theorem Compare_i64_c72 : callable Try.prog 72 = true := by kernel_rfl
set_option maxHeartbeats 1000000 in
theorem Compare_i64 (x : Int) (y : Int) (w : World) :
    Calls Try.prog 61 #[(.int .i64 x), (.int .i64 y)] w (Ret fun v w' => v = (.int .i64 (cmpInt x y)) ∧ Ext w w') := by
 refine calls_W Try.func61 rfl Try.ntmps61 rfl ?_
 have H0 := Ctx.start w nob
 refine W_seq (W_reg ?_)
 refine O_v rfl (R_assign (v := (.int .i64 0)) rfl ?_)
 refine O_nil (Then_n (W_seq (W_reg ?_)))
 refine O_v rfl (R_move (v := (.int .i64 x)) rfl ?_)
 refine O_v rfl (R_callL (vs := [(.int .i64 x)]) Compare_i64_c72 rfl rfl ((isNaN_i64 x w ).ret ?_))
 rintro _ w1 ⟨rfl, hx2⟩
 have H3 := H0.ext hx2
 refine O_v rfl (R_assign (v := (.bool false)) rfl ?_)
 refine O_nil (Then_n (W_seq (W_reg ?_)))
 refine O_v rfl (R_move (v := (.int .i64 y)) rfl ?_)
 refine O_v rfl (R_callL (vs := [(.int .i64 y)]) Compare_i64_c72 rfl rfl ((isNaN_i64 y w1 ).ret ?_))
 rintro _ w4 ⟨rfl, hx5⟩
 have H6 := H3.ext hx5
 refine O_v rfl (R_assign (v := (.bool false)) rfl ?_)
 refine O_nil (Then_n (W_seq (W_seq (W_reg ?_))))
 refine O_v rfl (R_move (v := (.bool false)) rfl ?_)
 refine O_nil (Then_n ?_)
 refine W_cond_f rfl ?_
 refine W_skip (Then_n (W_seq (W_seq (W_reg ?_))))
 refine O_v rfl (R_move (v := (.bool false)) rfl ?_)
 refine O_nil (Then_n ?_)
 refine W_cond_f rfl ?_
 refine W_skip (Then_n (W_seq (W_seq (W_reg ?_))))
 refine O_v rfl (R_move (v := (.int .i64 x)) rfl ?_)
 refine O_v rfl (R_move (v := (.int .i64 y)) rfl ?_)
 refine O_v rfl (R_cmp (a := x) (b := y) (r := (decide (x < y))) rfl rfl rfl ?_)
 refine O_nil (Then_n ?_)
 refine W_cond (t := (decide (x < y))) rfl (fun hc7 => ?_) (fun hc7 => ?_)
 ·have hc7 : (x < y) := (of_decide_eq_true hc7)
  refine W_seq (W_reg ?_)
  refine O_v rfl (R_assign (v := (.int .i64 (-1))) rfl ?_)
  refine O_nil (Then_n (W_ret (Then_r ?_)))
  refine ret_1 (v := (.int .i64 (-1))) Try.results61 rfl ?_
  exact ⟨(by rw [cmpInt_lt (by assumption)]), H6.gr⟩
 ·have hc7 : ¬ (x < y) := (of_decide_eq_false hc7)
  refine W_skip (Then_n (W_seq (W_seq (W_reg ?_))))
  refine O_v rfl (R_move (v := (.int .i64 x)) rfl ?_)
  refine O_v rfl (R_move (v := (.int .i64 y)) rfl ?_)
  refine O_v rfl (R_cmp (a := x) (b := y) (r := (decide (y < x))) rfl rfl rfl ?_)
  refine O_nil (Then_n ?_)
  refine W_cond (t := (decide (y < x))) rfl (fun hc8 => ?_) (fun hc8 => ?_)
  ·have hc8 : (y < x) := (of_decide_eq_true hc8)
   refine W_seq (W_reg ?_)
   refine O_v rfl (R_assign (v := (.int .i64 1)) rfl ?_)
   refine O_nil (Then_n (W_ret (Then_r ?_)))
   refine ret_1 (v := (.int .i64 1)) Try.results61 rfl ?_
   exact ⟨(by rw [cmpInt_gt (by assumption) (by assumption)]), H6.gr⟩
  ·have hc8 : ¬ (y < x) := (of_decide_eq_false hc8)
   refine W_skip (Then_n (W_seq (W_reg ?_)))
   refine O_v rfl (R_assign (v := (.int .i64 0)) rfl ?_)
   refine O_nil (Then_n (W_ret ?_))
   refine ret_1 (v := (.int .i64 0)) Try.results61 rfl ?_
   exact ⟨(by rw [cmpInt_eq (by assumption) (by assumption)]), H6.gr⟩

end Go.Proofs.Ytiknfldhommmpaa
namespace Go.Proofs.Ytiknfldhommmpaa
open Go
set_option maxRecDepth 100000
set_option linter.unusedVariables false
set_option linter.unusedSimpArgs false
set_option maxHeartbeats 1000000 in
theorem isNaN_int (x : Int) (w : World) :
    Calls Try.prog 63 #[(.int .i64 x)] w (Ret fun v w' => v = (.bool false) ∧ Ext w w') := by
 refine calls_W Try.func63 rfl Try.ntmps63 rfl ?_
 have H0 := Ctx.start w nob
 refine W_seq (W_reg ?_)
 refine O_v rfl (R_assign (v := (.bool false)) rfl ?_)
 refine O_nil (Then_n (W_seq (W_reg ?_)))
 refine O_v rfl (R_move (v := (.int .i64 x)) rfl ?_)
 refine O_v rfl (R_move (v := (.int .i64 x)) rfl ?_)
 refine O_v rfl (R_cmp (a := x) (b := x) (r := (!(decide (x = x)))) rfl rfl rfl ?_)
 refine O_v rfl (R_assign (v := (.bool (!(decide (x = x))))) rfl ?_)
 refine O_nil (Then_n (W_ret ?_))
 refine ret_1 (v := (.bool (!(decide (x = x))))) Try.results63 rfl ?_
 exact ⟨(by simp), H0.gr⟩

end Go.Proofs.Ytiknfldhommmpaa
namespace Go.Proofs.Ytiknfldhommmpaa
open Go
set_option maxRecDepth 100000
set_option linter.unusedVariables false
set_option linter.unusedSimpArgs false
theorem Compare_int_c63 : callable Try.prog 63 = true := by kernel_rfl
set_option maxHeartbeats 1000000 in
theorem Compare_int (x : Int) (y : Int) (w : World) :
    Calls Try.prog 51 #[(.int .i64 x), (.int .i64 y)] w (Ret fun v w' => v = (.int .i64 (cmpInt x y)) ∧ Ext w w') := by
 refine calls_W Try.func51 rfl Try.ntmps51 rfl ?_
 have H0 := Ctx.start w nob
 refine W_seq (W_reg ?_)
 refine O_v rfl (R_assign (v := (.int .i64 0)) rfl ?_)
 refine O_nil (Then_n (W_seq (W_reg ?_)))
 refine O_v rfl (R_move (v := (.int .i64 x)) rfl ?_)
 refine O_v rfl (R_callL (vs := [(.int .i64 x)]) Compare_int_c63 rfl rfl ((isNaN_int x w ).ret ?_))
 rintro _ w1 ⟨rfl, hx2⟩
 have H3 := H0.ext hx2
 refine O_v rfl (R_assign (v := (.bool false)) rfl ?_)
 refine O_nil (Then_n (W_seq (W_reg ?_)))
 refine O_v rfl (R_move (v := (.int .i64 y)) rfl ?_)
 refine O_v rfl (R_callL (vs := [(.int .i64 y)]) Compare_int_c63 rfl rfl ((isNaN_int y w1 ).ret ?_))
 rintro _ w4 ⟨rfl, hx5⟩
 have H6 := H3.ext hx5
 refine O_v rfl (R_assign (v := (.bool false)) rfl ?_)
 refine O_nil (Then_n (W_seq (W_seq (W_reg ?_))))
 refine O_v rfl (R_move (v := (.bool false)) rfl ?_)
 refine O_nil (Then_n ?_)
 refine W_cond_f rfl ?_
 refine W_skip (Then_n (W_seq (W_seq (W_reg ?_))))
 refine O_v rfl (R_move (v := (.bool false)) rfl ?_)
 refine O_nil (Then_n ?_)
 refine W_cond_f rfl ?_
 refine W_skip (Then_n (W_seq (W_seq (W_reg ?_))))
 refine O_v rfl (R_move (v := (.int .i64 x)) rfl ?_)
 refine O_v rfl (R_move (v := (.int .i64 y)) rfl ?_)
 refine O_v rfl (R_cmp (a := x) (b := y) (r := (decide (x < y))) rfl rfl rfl ?_)
 refine O_nil (Then_n ?_)
 refine W_cond (t := (decide (x < y))) rfl (fun hc7 => ?_) (fun hc7 => ?_)
 ·have hc7 : (x < y) := (of_decide_eq_true hc7)
  refine W_seq (W_reg ?_)
  refine O_v rfl (R_assign (v := (.int .i64 (-1))) rfl ?_)
  refine O_nil (Then_n (W_ret (Then_r ?_)))
  refine ret_1 (v := (.int .i64 (-1))) Try.results51 rfl ?_
  exact ⟨(by rw [cmpInt_lt (by assumption)]), H6.gr⟩
 ·have hc7 : ¬ (x < y) := (of_decide_eq_false hc7)
  refine W_skip (Then_n (W_seq (W_seq (W_reg ?_))))
  refine O_v rfl (R_move (v := (.int .i64 x)) rfl ?_)
  refine O_v rfl (R_move (v := (.int .i64 y)) rfl ?_)
  refine O_v rfl (R_cmp (a := x) (b := y) (r := (decide (y < x))) rfl rfl rfl ?_)
  refine O_nil (Then_n ?_)
  refine W_cond (t := (decide (y < x))) rfl (fun hc8 => ?_) (fun hc8 => ?_)
  ·have hc8 : (y < x) := (of_decide_eq_true hc8)
   refine W_seq (W_reg ?_)
   refine O_v rfl (R_assign (v := (.int .i64 1)) rfl ?_)
   refine O_nil (Then_n (W_ret (Then_r ?_)))
   refine ret_1 (v := (.int .i64 1)) Try.results51 rfl ?_
   exact ⟨(by rw [cmpInt_gt (by assumption) (by assumption)]), H6.gr⟩
  ·have hc8 : ¬ (y < x) := (of_decide_eq_false hc8)
   refine W_skip (Then_n (W_seq (W_reg ?_)))
   refine O_v rfl (R_assign (v := (.int .i64 0)) rfl ?_)
   refine O_nil (Then_n (W_ret ?_))
   refine ret_1 (v := (.int .i64 0)) Try.results51 rfl ?_
   exact ⟨(by rw [cmpInt_eq (by assumption) (by assumption)]), H6.gr⟩

end Go.Proofs.Ytiknfldhommmpaa
namespace Go.Proofs.Ytiknfldhommmpaa
open Go
set_option maxRecDepth 100000
set_option linter.unusedVariables false
set_option linter.unusedSimpArgs false
set_option maxHeartbeats 1000000 in
theorem cmp_Or (hvals : SlH) (vals : List Int) (w : World) (Svals : Sl (Old w) encI 1 hvals vals w) :
    Calls Try.prog 60 #[(slV hvals vals)] w (Ret fun v w' => v = (.int .i64 (orInt vals)) ∧ Ext w w') := by
 refine calls_W Try.func60 rfl Try.ntmps60 rfl ?_
 have H0 := Ctx.start w nob
 have H1 := H0.addSl _ Svals (fun b hb => ⟨hb, fun _ ho => (nomatch ho)⟩)
 have LSvals := Svals.len
 refine W_seq (W_reg ?_)
 refine O_v rfl (R_assign (v := (.int .i64 0)) rfl ?_)
 refine O_nil (Then_n (W_seq (W_reg ?_)))
 refine O_v rfl (R_assign (v := (.int .i64 0)) rfl ?_)
 refine O_nil (Then_n (W_seq (W_seq (W_reg ?_))))
 refine O_v rfl (R_move (v := (slV hvals vals)) rfl ?_)
 refine O_v rfl (R_len_slice (a := hvals.a) (n := vals.length) (c := hvals.c) Try.underlying112 rfl ?_)
 refine O_v rfl (R_move (v := (.int .i64 0)) rfl ?_)
 refine O_nil (Then_n (W_block ?_))
 refine W_loop (fun m2 e3 w4 => ∃ (k : Nat), m2 = vals.length - k ∧ (k ≤ vals.length) ∧ (∀ i, i < k → nth vals i = 0) ∧ ∃ eb5, e3 = envL [(3, (.int .i64 0)), (6, (slV hvals vals)), (7, (.int .i64 ((vals.length : Nat) : Int))), (8, (.int .i64 ((k : Nat) : Int)))] eb5 ∧ Ctx w nob w4 [] [slI (Old w) encI 1 hvals vals]) _ ⟨0, rfl, (by omega), (all_zero _), _, envL_self ⟨rfl, rfl, rfl, rfl, trivial⟩, H1⟩ ?_
 rintro m2 _ w4 ⟨k, rfl, hk, hn, eb5, rfl, H6⟩
 refine W_seq (W_reg ?_)
 refine O_v rfl (R_cmp (a := ((k : Nat) : Int)) (b := ((vals.length : Nat) : Int)) (r := (decide (((k : Nat) : Int) < ((vals.length : Nat) : Int)))) rfl rfl rfl ?_)
 refine O_nil (Then_n (W_seq ?_))
 refine W_cond (t := (decide (((k : Nat) : Int) < ((vals.length : Nat) : Int)))) rfl (fun hc7 => ?_) (fun hc7 => ?_)
 ·have hc7 : (((k : Nat) : Int) < ((vals.length : Nat) : Int)) := (of_decide_eq_true hc7)
  refine W_skip (Then_n (W_seq (W_block (W_seq (W_reg ?_)))))
  refine O_v rfl (R_index_pure (H6.sl 0 rfl) (n := vals.length) rfl (j := ((k : Nat) : Int)) (oo := (hvals.o + k * 1)) Try.underlying112 Try.sizeOf3 rfl rfl (by omega) (by omega) rfl ?_)
  refine O_v rfl (R_load1 (v := (.int .i64 (nth vals k))) Try.isAgg3 rfl ((Sl.elem (H6.sl 0 rfl) (i := k) (by omega) rfl).chunks 0 1 0 (hvals.o + k * 1) _ rfl rfl rfl) ?_)
  refine O_v rfl (R_assign (v := (.int .i64 (nth vals k))) rfl ?_)
  refine O_nil (Then_n (W_seq (W_reg ?_)))
  refine O_v rfl (R_move (v := (.int .i64 (nth vals k))) rfl ?_)
  refine O_v rfl (R_move (v := (.int .i64 0)) rfl ?_)
  refine O_v rfl (R_cmp (a := (nth vals k)) (b := 0) (r := (!(decide ((nth vals k) = 0)))) rfl rfl rfl ?_)
  refine O_nil (Then_n ?_)
  refine W_cond (t := (!(decide ((nth vals k) = 0)))) rfl (fun hc8 => ?_) (fun hc8 => ?_)
  ·have hc8 : ¬ ((nth vals k) = 0) := (of_decide_eq_false (notT hc8))
   refine W_seq (W_reg ?_)
   refine O_v rfl (R_move (v := (.int .i64 (nth vals k))) rfl ?_)
   refine O_v rfl (R_assign (v := (.int .i64 (nth vals k))) rfl ?_)
   refine O_nil (Then_n (W_ret (Blk_r (Then_r (Then_r (Blk_r (Then_r ?_)))))))
   refine ret_1 (v := (.int .i64 (nth vals k))) Try.results60 rfl ?_
   exact ⟨(by rw [orInt_at hn (by omega) (by assumption)]), H6.gr⟩
  ·have hc8 : ((nth vals k) = 0) := (of_decide_eq_true (notF hc8))
   refine W_skip (Blk_n (Then_n (W_reg ?_)))
   refine O_v rfl (R_arith (a := ((k : Nat) : Int)) (b := 1) (r0 := ((k : Nat) : Int) + 1) (r := ((k + 1 : Nat) : Int)) rfl rfl rfl (wrapN _ (by omega)) ?_)
   refine O_v rfl (R_move (v := (.int .i64 ((k + 1 : Nat) : Int))) rfl ?_)
   refine O_nil (Then_n ?_)
   refine ⟨_, ?_, (k + 1), rfl, (by omega), (all_succ hn (by assumption)), _, envL_self ⟨rfl, rfl, rfl, rfl, trivial⟩, H6⟩
   omega
 ·have hc7 : ¬ (((k : Nat) : Int) < ((vals.length : Nat) : Int)) := (of_decide_eq_false hc7)
  refine W_exit (Then_x (Then_x (Blk_x (Then_n (W_seq (W_reg ?_))))))
  refine O_v rfl (R_move (v := (.int .i64 0)) rfl ?_)
  refine O_v rfl (R_assign (v := (.int .i64 0)) rfl ?_)
  refine O_nil (Then_n (W_ret ?_))
  refine ret_1 (v := (.int .i64 0)) Try.results60 rfl ?_
  exact ⟨(by rw [orInt_none (by rwa [show vals.length = k from by omega])]), H6.gr⟩

end Go.Proofs.Ytiknfldhommmpaa
namespace Go.Proofs.Ytiknfldhommmpaa
open Go
set_option maxRecDepth 100000
set_option linter.unusedVariables false
set_option linter.unusedSimpArgs false
theorem stamp_Cmp_c51 : callable Try.prog 51 = true := by kernel_rfl
theorem stamp_Cmp_c60 : callable Try.prog 60 = true := by kernel_rfl
theorem stamp_Cmp_c61 : callable Try.prog 61 = true := by kernel_rfl
set_option maxHeartbeats 1000000 in
theorem stamp_Cmp (a : Stamp) (b : Stamp) (w : World) :
    Calls Try.prog 47 #[(aggOf (stampCh a)), (aggOf (stampCh b))] w (Ret fun v w' => v = (.int .i64 (cmpSt a b)) ∧ Ext w w') := by
 refine calls_W Try.func47 rfl Try.ntmps47 rfl ?_
 have H0 := Ctx.start w nob
 refine W_seq (W_reg ?_)
 refine O_v rfl (C_box H0 [[(.int .i64 a.T)], [(.int .i64 a.R)]] rfl ?_)
 intro b1 w2 hb3 hx4 H5
 refine O_v rfl (C_box H5 [[(.int .i64 b.T)], [(.int .i64 b.R)]] rfl ?_)
 intro b6 w7 hb8 hx9 H10
 refine O_v rfl (R_assign (v := (.int .i64 0)) rfl ?_)
 refine O_nil (Then_n (W_seq ?_))
 refine W_rgd TryMixed [(0, .q false), (1, .q false), (2, .q false), (3, .q false), (4, .q false), (5, .q false), (6, .q false), (7, .q false), (8, .q false), (9, .q false), (10, .c false), (11, .q false), (12, .q false)] (by kernel_rfl) ?_
 refine Lx_q (i := 0) rfl rfl _ (fun v11 hv12 => R_fieldAddr (off := 0) (oo := 0) Try.underlying24 rfl rfl Try.sizeOf2 rfl rfl ⟨rfl, Gr.refl _ _⟩) ?_
 refine Lx_q (i := 1) rfl rfl _ (fun v13 hv14 => R_load1 (v := (.int .i64 a.T)) Try.isAgg2 rfl ((boxR_at ((H10.ext hv14).getOwn 1 rfl)).chunks 0 1 0 0 _ rfl rfl rfl) ⟨rfl, Gr.refl _ _⟩) ?_
 refine Lx_q (i := 2) rfl rfl _ (fun v15 hv16 => R_fieldAddr (off := 0) (oo := 0) Try.underlying24 rfl rfl Try.sizeOf2 rfl rfl ⟨rfl, Gr.refl _ _⟩) ?_
 refine Lx_q (i := 3) rfl rfl _ (fun v17 hv18 => R_load1 (v := (.int .i64 b.T)) Try.isAgg2 rfl ((boxR_at ((H10.ext hv18).getOwn 0 rfl)).chunks 0 1 0 0 _ rfl rfl rfl) ⟨rfl, Gr.refl _ _⟩) ?_
 refine Lx_q (i := 4) rfl rfl (.int .i64 (cmpInt a.T b.T)) (fun v19 hv20 => R_callL (vs := [(.int .i64 a.T), (.int .i64 b.T)]) stamp_Cmp_c61 rfl rfl (Compare_i64 a.T b.T v19 )) ?_
 refine Lx_q (i := 5) rfl rfl _ (fun v21 hv22 => R_fieldAddr (off := 1) (oo := 1) Try.underlying24 rfl rfl Try.sizeOf3 rfl rfl ⟨rfl, Gr.refl _ _⟩) ?_
 refine Lx_q (i := 6) rfl rfl _ (fun v23 hv24 => R_load1 (v := (.int .i64 a.R)) Try.isAgg3 rfl ((boxR_at ((H10.ext hv24).getOwn 1 rfl)).chunks 1 1 1 1 _ rfl rfl rfl) ⟨rfl, Gr.refl _ _⟩) ?_
 refine Lx_q (i := 7) rfl rfl _ (fun v25 hv26 => R_fieldAddr (off := 1) (oo := 1) Try.underlying24 rfl rfl Try.sizeOf3 rfl rfl ⟨rfl, Gr.refl _ _⟩) ?_
 refine Lx_q (i := 8) rfl rfl _ (fun v27 hv28 => R_load1 (v := (.int .i64 b.R)) Try.isAgg3 rfl ((boxR_at ((H10.ext hv28).getOwn 0 rfl)).chunks 1 1 1 1 _ rfl rfl rfl) ⟨rfl, Gr.refl _ _⟩) ?_
 refine Lx_q (i := 9) rfl rfl (.int .i64 (cmpInt a.R b.R)) (fun v29 hv30 => R_callL (vs := [(.int .i64 a.R), (.int .i64 b.R)]) stamp_Cmp_c51 rfl rfl (Compare_int a.R b.R v29 )) ?_
 refine Lx_c (i := 10) rfl rfl (fun w31 hw32 => ?_)
 have H33 := H10.ext hw32
 refine (C_buildSliceL H33 (enc := encI) (val := intV) ([cmpInt a.T b.T, cmpInt a.R b.R] : List Int) Try.underlying112 Try.sizeOf3 Try.zeroValue3 rfl (by decide) (fun _ => rfl) (fun _ => rfl) rfl rfl (by decide) ?_)
 intro b34 w35 hb36 hx37 H38
 refine ⟨GrF.ofExt hx37, ?_⟩
 refine Lx_q (i := 11) rfl rfl (.int .i64 (orInt ([cmpInt a.T b.T, cmpInt a.R b.R] : List Int))) (fun v39 hv40 => R_callL (vs := [(slV ⟨some ⟨b34, 0, none⟩, b34, 0, 2⟩ ([cmpInt a.T b.T, cmpInt a.R b.R] : List Int))]) stamp_Cmp_c60 rfl rfl (cmp_Or ⟨some ⟨b34, 0, none⟩, b34, 0, 2⟩ ([cmpInt a.T b.T, cmpInt a.R b.R] : List Int) v39 ((H38.ext hv40).rowSl 0 rfl (fun _ => rfl)))) ?_
 refine Lx_q (i := 12) rfl rfl _ (fun v41 hv42 => R_assign (v := (.int .i64 (orInt ([cmpInt a.T b.T, cmpInt a.R b.R] : List Int)))) rfl ⟨rfl, Gr.refl _ _⟩) ?_
 refine Lx_nil (fun w43 hw44 => ?_)
 have H45 := H38.ext hw44
 refine Then_n (W_ret ?_)
 refine ret_1 (v := (.int .i64 (orInt ([cmpInt a.T b.T, cmpInt a.R b.R] : List Int)))) Try.results47 rfl ?_
 exact ⟨(by rw [← orInt_cmp]), H45.gr⟩

end Go.Proofs.Ytiknfldhommmpaa
/- The plain side: numbers, texts and objects as bytes. -/
namespace Go.Proofs.Ytiknfldhommmpaa
open Go
set_option linter.unusedVariables false
set_option linter.unusedSimpArgs false
set_option linter.unusedSectionVars false
def numGo (u : Nat) : List UInt8 := if h : 127 < u then (UInt8.ofNat u ||| 128) :: numGo (u / 128) else [UInt8.ofNat u]
termination_by u
decreasing_by omega
def numClamp (n : Int) : Nat := (min (max n 0) 4611686018427387904).toNat
def numB (n : Int) : List UInt8 := numGo (numClamp n)
theorem numClamp_le (n : Int) : numClamp n ≤ 4611686018427387904 := by unfold numClamp; omega
theorem numGo_big {u : Nat} (h : 127 < u) : numGo u = (UInt8.ofNat u ||| 128) :: numGo (u / 128) := by rw [numGo]; rw [dif_pos h]
theorem numGo_small {u : Nat} (h : ¬ 127 < u) : numGo u = [UInt8.ofNat u] := by rw [numGo]; rw [dif_neg h]
theorem numGo_len : ∀ (k u : Nat), u < 128 ^ (k + 1) → 1 ≤ (numGo u).length ∧ (numGo u).length ≤ k + 1
  | 0, u, h => by rw [numGo_small (by omega)]; simp
  | k + 1, u, h => by
    by_cases hu : 127 < u
    · rw [numGo_big hu]
      have := numGo_len k (u / 128) (by rw [Nat.pow_succ] at h; exact Nat.div_lt_of_lt_mul (by omega))
      simp only [List.length_cons]; omega
    · rw [numGo_small hu]; simp
theorem numB_len (n : Int) : 1 ≤ (numB n).length ∧ (numB n).length ≤ 9 := by
  have h := numClamp_le n
  have e : 128 ^ (8 + 1) = 9223372036854775808 := by decide
  exact numGo_len 8 _ (by rw [e]; omega)
theorem conv_clamp (n : Int) : IntKind.u64.wrap (min (max n 0) 4611686018427387904) = ((numClamp n : Nat) : Int) := by
  rw [u64_in _ (by omega)]; unfold numClamp; omega
theorem numGo_len1 (u : Nat) : 1 ≤ (numGo u).length := by
  by_cases h : 127 < u
  · rw [numGo_big h]; simp
  · rw [numGo_small h]; simp
theorem num_step {acc b : List UInt8} {u : Nat} {n : Int} (h : acc ++ numGo u = b ++ numB n) (hu : 127 < u) : (acc ++ [UInt8.ofNat u ||| 128]) ++ numGo (u / 128) = b ++ numB n := by
  rw [← h, numGo_big hu]; simp
theorem num_end {acc b : List UInt8} {u : Nat} {n : Int} (h : acc ++ numGo u = b ++ numB n) (hu : ¬ 127 < u) : acc ++ [UInt8.ofNat u] = b ++ numB n := by rw [← h, numGo_small hu]
theorem num_room {acc b : List UInt8} {u : Nat} {n : Int} (h : acc ++ numGo u = b ++ numB n) : acc.length + 1 ≤ b.length + 9 := by
  have h1 := congrArg List.length h
  have h2 := numB_len n
  have h3 := numGo_len1 u
  simp only [List.length_append] at h1
  omega
def atB (s : Stamp) : List UInt8 := numB s.T ++ numB s.R
def textB (s : ByteArray) : List UInt8 := numB s.size ++ s.data.toList
theorem atB_len (s : Stamp) : (atB s).length ≤ 18 := by
  have := numB_len s.T
  have := numB_len s.R
  simp only [atB, List.length_append]; omega
theorem textB_len (s : ByteArray) : (textB s).length ≤ 9 + s.size := by
  have := numB_len s.size
  have e : s.data.toList.length = s.size := by rw [Array.length_toList]; rfl
  simp only [textB, List.length_append, e]; omega
theorem size_data' (s : ByteArray) : s.data.toList.length = s.size := by rw [Array.length_toList]; rfl
theorem bad_ascii : ∀ (j : Nat) b, (⟨#[0, 47, 10]⟩ : ByteArray).data.toList[j]? = some b → b.toNat < 128 := by
  intro j b h
  match j with
  | 0 => simp at h; subst h; decide
  | 1 => simp at h; subst h; decide
  | 2 => simp at h; subst h; decide
  | n + 3 => simp at h
theorem containsAny_iff (l chars : List UInt8) : Lib.containsAny l chars = l.any fun b => chars.contains b := by
  unfold Lib.containsAny
  induction l with
  | nil => rfl
  | cons b l ih =>
    unfold Lib.indexAny
    simp only [List.any_cons]
    by_cases hb : chars.contains b = true
    · simp only [hb, if_true, Bool.true_or]; rfl
    · have hb' : chars.contains b = false := by simpa using hb
      simp only [hb', Bool.false_eq_true, if_false, Bool.false_or]
      rw [← ih]
      by_cases hi : (Lib.indexAny l chars == -1) = true
      · rw [if_pos hi]
        have : Lib.indexAny l chars = -1 := by simpa using hi
        rw [this]
      · rw [if_neg hi]
        have h1 := Lib.indexAny_ge chars l
        have h2 : Lib.indexAny l chars ≠ -1 := by simpa using hi
        rw [decide_eq_decide]; omega
theorem nameOk_any {s : ByteArray} : Value.bool ((((decide ((1 : Int) ≤ ((s.size : Nat) : Int)) && decide (((s.size : Nat) : Int) ≤ 60)) && !decide (s = (⟨#[46]⟩ : ByteArray))) && !decide (s = (⟨#[46, 46]⟩ : ByteArray))) && !Lib.containsAny s.data.toList (⟨#[0, 47, 10]⟩ : ByteArray).data.toList) = Value.bool (nameOk s) := by
  have hc : Lib.containsAny s.data.toList (⟨#[0, 47, 10]⟩ : ByteArray).data.toList = false ↔ ∀ j, j < s.size → badByte (sbyte s j) = false := by
    rw [containsAny_iff, List.any_eq_false]
    constructor
    · intro h j hj
      have := h s[j] (by
        have e : s.data.toList[j]'(by rw [size_data' s]; exact hj) = s[j] := rfl
        rw [← e]; exact List.getElem_mem _)
      rw [sbyte_eq hj]
      simp only [badByte, List.contains_cons, List.contains_nil, Bool.or_false, Bool.not_eq_true, Bool.or_eq_false_iff, beq_eq_false_iff_ne, ne_eq, decide_eq_false_iff_not] at this ⊢
      exact ⟨⟨this.1, this.2.1⟩, this.2.2⟩
    · intro h b hb
      obtain ⟨j, hj, rfl⟩ := List.getElem_of_mem hb
      have hj' : j < s.size := by rw [← size_data' s]; exact hj
      have := h j hj'
      rw [sbyte_eq hj', show s[j] = s.data.toList[j] from rfl] at this
      simp only [badByte, List.contains_cons, List.contains_nil, Bool.or_false, Bool.not_eq_true, Bool.or_eq_false_iff, beq_eq_false_iff_ne, ne_eq, decide_eq_false_iff_not] at this ⊢
      exact ⟨this.1.1, this.1.2, this.2⟩
  refine boolE ?_
  simp only [Bool.and_eq_true, Bool.not_eq_true', decide_eq_false_iff_not, decide_eq_true_eq, hc]
  constructor
  · rintro ⟨⟨⟨⟨h1, h2⟩, h3⟩, h4⟩, h5⟩
    exact ⟨fun e => by rw [e] at h1; exact absurd h1 (by decide), by omega, h3, h4, h5⟩
  · rintro ⟨h1, h2, h3, h4, h5⟩
    refine ⟨⟨⟨⟨?_, by omega⟩, h3⟩, h4⟩, h5⟩
    rcases Nat.eq_zero_or_pos s.size with h0 | h0
    · exact absurd (ByteArray.size_eq_zero_iff.1 h0) h1
    · omega
def headB (h : Head) : List UInt8 := atB h.tm ++ idList h.data
def itemTo (x : ItemS) (j : Nat) : List UInt8 := (((((([] : List UInt8) ++ atB x.node) ++ atB x.tm) ++ textB x.name) ++ idList x.sub) ++ numB ((x.heads.length : Nat) : Int)) ++ ((x.heads.take j).map headB).flatten
def itemB (x : ItemS) : List UInt8 := itemTo x x.heads.length
def dirTo (items : List ItemS) (k : Nat) : List UInt8 := ([2] ++ numB ((items.length : Nat) : Int)) ++ ((items.take k).map itemB).flatten
def dirB (items : List ItemS) : List UInt8 := dirTo items items.length
def putDirB (items : List ItemS) : List UInt8 := if dirOk items = true then dirB items else []
def putDirE (items : List ItemS) : Int := if dirOk items = true then 0 else 1
theorem putDir_no {items : List ItemS} (h : dirOk items = false) : ([] : List UInt8) = putDirB items ∧ (1 : Int) = putDirE items := by
  unfold putDirB putDirE; rw [if_neg (by rw [h]; simp), if_neg (by rw [h]; simp)]; exact ⟨rfl, rfl⟩
theorem dirTo_zero (items : List ItemS) : ([2] : List UInt8) ++ numB ((items.length : Nat) : Int) = dirTo items 0 := by simp [dirTo]
theorem item_end {items : List ItemS} {acc acc2 : List UInt8} {k j : Nat} (ha : acc = dirTo items k) (h2 : acc2 = acc ++ itemTo (nth items k) j) (hk : k < items.length) (hj : j = (nth items k).heads.length) : acc2 = dirTo items (k + 1) := by
  subst ha hj
  rw [h2]
  unfold dirTo
  rw [List.take_succ_eq_append_getElem hk, List.map_append, List.flatten_append, nth_eq hk]
  simp [itemB, List.append_assoc]
theorem item_start (acc : List UInt8) (x : ItemS) : acc ++ ((((([] : List UInt8) ++ atB x.node) ++ atB x.tm) ++ textB x.name) ++ idList x.sub ++ numB ((x.heads.length : Nat) : Int)) = acc ++ itemTo x 0 := by simp [itemTo]
theorem head_step {acc acc2 : List UInt8} {x : ItemS} {j : Nat} (h : acc2 = acc ++ itemTo x j) (hj : j < x.heads.length) : acc2 ++ ((([] : List UInt8) ++ atB (nth x.heads j).tm) ++ idList (nth x.heads j).data) = acc ++ itemTo x (j + 1) := by
  rw [h]
  unfold itemTo
  rw [List.take_succ_eq_append_getElem hj, List.map_append, List.flatten_append, nth_eq hj]
  simp [headB, List.append_assoc]
theorem dir_end {items : List ItemS} {acc : List UInt8} {k : Nat} (ha : acc = dirTo items k) (hD : dirOk items = true) (hk : k = items.length) : acc = putDirB items ∧ (0 : Int) = putDirE items := by
  subst hk
  unfold putDirB putDirE
  rw [if_pos hD, if_pos hD]
  exact ⟨ha, rfl⟩
theorem dirOk_lens {items : List ItemS} {k : Nat} (h : dirOk items = true) (hk : k < items.length) : (nth items k).name.size ≤ 60 ∧ (nth items k).heads.length ≤ 1000 ∧ items.length ≤ 1000 := by
  have h1 := of_decide_eq_true h
  have h2 := of_decide_eq_true (h1.2 k hk).1
  have h3 := of_decide_eq_true h2.2.2.2.1
  exact ⟨h3.2.1, h2.2.2.2.2.1, h1.1⟩
def fixedSt (s : Stamp) : Bool := decide (s.T = 0 ∧ (s.R = 0 ∨ s.R = 1))
end Go.Proofs.Ytiknfldhommmpaa
/- The plain side of trees: parents' chains. -/
namespace Go.Proofs.Ytiknfldhommmpaa
open Go
set_option linter.unusedVariables false
set_option linter.unusedSimpArgs false
set_option linter.unusedSectionVars false
def rightRow (r : RowS) : Bool := itemOk r.node r.tm r.name r.heads && !decide (r.node = lastSt)
theorem putDirE_one (x : ItemS) : decide (putDirE [x] = 0) = itemOkS x := by
  unfold putDirE
  rw [dirOk_one]
  cases itemOkS x <;> simp
theorem rightRow_e {r : RowS} {x : ItemS} (h : itemOkS x = itemOk r.node r.tm r.name r.heads) : Value.bool (decide (putDirE [x] = 0) && !decide (r.node = lastSt)) = Value.bool (rightRow r) := by
  rw [putDirE_one, h]; rfl
/-- Up n parents. -/
def upN (kv : List (Stamp × Stamp)) : Nat → Stamp → Stamp
  | 0, s => s
  | n + 1, s => upN kv n ((kvGet kv s).getD ⟨0, 0⟩)
/-- The root or the trash lies n parents above; each one on the way is in the table. -/
def upOk (kv : List (Stamp × Stamp)) : Nat → Stamp → Prop
  | 0, s => fixedSt s = true
  | n + 1, s => fixedSt s = false ∧ (kvGet kv s).isSome = true ∧ upOk kv n ((kvGet kv s).getD ⟨0, 0⟩)
def reach (kv : List (Stamp × Stamp)) (s : Stamp) : Prop := ∃ n, upOk kv n s
theorem upOk_uniq {kv : List (Stamp × Stamp)} : ∀ {n m : Nat} {s : Stamp}, upOk kv n s → upOk kv m s → n = m
  | 0, 0, _, _, _ => rfl
  | 0, m + 1, s, h, k => by have := k.1; rw [show fixedSt s = true from h] at this; cases this
  | n + 1, 0, s, h, k => by have := h.1; rw [show fixedSt s = true from k] at this; cases this
  | n + 1, m + 1, s, h, k => by rw [upOk_uniq h.2.2 k.2.2]
theorem reach_fixed {kv : List (Stamp × Stamp)} {s : Stamp} (h : fixedSt s = true) : reach kv s := ⟨0, h⟩
theorem reach_step {kv : List (Stamp × Stamp)} {s : Stamp} (h : fixedSt s = false) (hk : (kvGet kv s).isSome = true) : reach kv s ↔ reach kv ((kvGet kv s).getD ⟨0, 0⟩) := by
  constructor
  · rintro ⟨n, hn⟩
    cases n with
    | zero => rw [show fixedSt s = true from hn] at h; cases h
    | succ n => exact ⟨n, hn.2.2⟩
  · rintro ⟨n, hn⟩
    exact ⟨n + 1, h, hk, hn⟩
theorem reach_not {kv : List (Stamp × Stamp)} {s : Stamp} (h : fixedSt s = false) (hk : (kvGet kv s).isSome = false) : ¬ reach kv s := by
  rintro ⟨n, hn⟩
  cases n with
  | zero => rw [show fixedSt s = true from hn] at h; cases h
  | succ n => rw [hn.2.1] at hk; cases hk
/-- The first j stamps of the way up from s are these. -/
def onWay (kv : List (Stamp × Stamp)) (s : Stamp) (way : List Stamp) (at_ : Stamp) : Prop :=
  at_ = upN kv way.length s ∧ ∀ i, i < way.length → nth way i = upN kv i s ∧ fixedSt (nth way i) = false ∧ (kvGet kv (nth way i)).isSome = true
theorem upN_succ (kv : List (Stamp × Stamp)) : ∀ (n : Nat) (s : Stamp), upN kv (n + 1) s = (kvGet kv (upN kv n s)).getD ⟨0, 0⟩
  | 0, s => rfl
  | n + 1, s => by
    show upN kv (n + 1) ((kvGet kv s).getD ⟨0, 0⟩) = _
    rw [upN_succ kv n]; rfl
theorem onWay_zero (kv : List (Stamp × Stamp)) (s : Stamp) : onWay kv s [] s := ⟨rfl, fun i hi => by simp at hi⟩
theorem nth_append_lt {α : Type} [Inhabited α] {l : List α} {x : α} {i : Nat} (h : i < l.length) : nth (l ++ [x]) i = nth l i := by
  unfold nth; simp [List.getD_eq_getElem?_getD, List.getElem?_append_left h]
theorem nth_append_last {α : Type} [Inhabited α] {l : List α} {x : α} : nth (l ++ [x]) l.length = x := by
  unfold nth; simp [List.getD_eq_getElem?_getD]
theorem onWay_succ {kv : List (Stamp × Stamp)} {s a : Stamp} {way : List Stamp} (h : onWay kv s way a) (hf : fixedSt a = false) (hk : (kvGet kv a).isSome = true) : onWay kv s (way ++ [a]) ((kvGet kv a).getD ⟨0, 0⟩) := by
  refine ⟨?_, fun i hi => ?_⟩
  · rw [List.length_append, List.length_singleton, upN_succ, ← h.1]
  · by_cases hl : i < way.length
    · rw [nth_append_lt hl]; exact h.2 i hl
    · have : i = way.length := by simp at hi; omega
      subst this
      rw [nth_append_last]
      exact ⟨h.1, hf, hk⟩
theorem onWay_reach {kv : List (Stamp × Stamp)} {s a : Stamp} {way : List Stamp} (h : onWay kv s way a) : ∀ i, i ≤ way.length → (reach kv (upN kv i s) ↔ reach kv a) := by
  have key : ∀ d i, i + d = way.length → (reach kv (upN kv i s) ↔ reach kv a) := by
    intro d
    induction d with
    | zero => intro i hi; rw [h.1, ← hi]; exact Iff.rfl
    | succ d ih =>
      intro i hi
      obtain ⟨h1, h2, h3⟩ := h.2 i (by omega)
      rw [h1] at h2 h3
      rw [reach_step h2 h3, ← upN_succ]
      exact ih (i + 1) (by omega)
  intro i hi
  exact key (way.length - i) i (by omega)
theorem pigeon {α : Type} [DecidableEq α] : ∀ {l k : List α}, l.Pairwise (· ≠ ·) → (∀ x ∈ l, x ∈ k) → l.length ≤ k.length
  | [], _, _, _ => Nat.zero_le _
  | x :: l, k, h, hs => by
    have h1 := List.pairwise_cons.1 h
    have h2 := pigeon (l := l) (k := k.erase x) h1.2 fun y hy => (List.mem_erase_of_ne (h1.1 y hy).symm).2 (hs y (List.mem_cons_of_mem _ hy))
    have h3 := hs x (by simp)
    have h4 := List.length_erase_of_mem h3
    have h5 := List.length_pos_of_mem h3
    simp only [List.length_cons]; omega
theorem way_long {kv : List (Stamp × Stamp)} {s a : Stamp} {way : List Stamp} (h : onWay kv s way a) (hl : kv.length < way.length) : ¬ reach kv s := by
  rintro ⟨n, hn⟩
  -- the way's stamps are unlike
  have hup : ∀ i, i ≤ way.length → ∃ m, upOk kv m (upN kv i s) ∧ m + i = n := by
    intro i
    induction i with
    | zero => intro _; exact ⟨n, hn, rfl⟩
    | succ i ih =>
      intro hi
      obtain ⟨m, hm, hmn⟩ := ih (by omega)
      obtain ⟨h1, h2, h3⟩ := h.2 i (by omega)
      rw [h1] at h2
      cases m with
      | zero => rw [show fixedSt (upN kv i s) = true from hm] at h2; cases h2
      | succ m => exact ⟨m, by rw [upN_succ]; exact hm.2.2, by omega⟩
  have hinj : ∀ i j, i < way.length → j < way.length → nth way i = nth way j → i = j := by
    intro i j hi hj e
    rw [(h.2 i hi).1, (h.2 j hj).1] at e
    obtain ⟨m, hm, h1⟩ := hup i (by omega)
    obtain ⟨m', hm', h2⟩ := hup j (by omega)
    rw [e] at hm
    have := upOk_uniq hm hm'
    omega
  have hnd : way.Pairwise (· ≠ ·) := by
    rw [List.pairwise_iff_getElem]
    intro x y hx hy hxy e
    have := hinj x y hx hy (by rw [nth_eq hx, nth_eq hy]; exact e)
    omega
  have hsub : ∀ x ∈ way, x ∈ kv.map (·.1) := by
    intro x hx
    obtain ⟨i, hi, rfl⟩ := List.getElem_of_mem hx
    have := (h.2 i hi).2.2
    rw [nth_eq hi] at this
    obtain ⟨v, hv⟩ := Option.isSome_iff_exists.1 this
    exact List.mem_map.2 ⟨_, kvGet_mem hv, rfl⟩
  have := pigeon hnd hsub
  simp at this
  omega
def parentsTo (rows : List RowS) (k : Nat) : List (Stamp × Stamp) := (rows.take k).foldl (fun kv r => kvPut r.node r.par kv) []
theorem parentsTo_succ {rows : List RowS} {k : Nat} (h : k < rows.length) : kvPut (nth rows k).node (nth rows k).par (parentsTo rows k) = parentsTo rows (k + 1) := by
  unfold parentsTo
  rw [List.take_succ_eq_append_getElem h, List.foldl_append, nth_eq h]; rfl
theorem parentsTo_len (rows : List RowS) : ∀ k, (parentsTo rows k).length ≤ k ∧ (parentsTo rows k).length ≤ rows.length := by
  intro k
  have key : ∀ (l : List RowS) (kv : List (Stamp × Stamp)), (l.foldl (fun kv r => kvPut r.node r.par kv) kv).length ≤ kv.length + l.length := by
    intro l
    induction l with
    | nil => intro kv; simp
    | cons x l ih =>
      intro kv
      have h1 := ih (kvPut x.node x.par kv)
      have h2 := kvPut_len x.node x.par kv
      simp only [List.foldl_cons, List.length_cons]
      omega
  have := key (rows.take k) []
  simp only [List.length_take, List.length_nil] at this
  unfold parentsTo
  omega
def parentsAll (rows : List RowS) : List (Stamp × Stamp) := parentsTo rows rows.length
open Classical in
/-- Rows are a tree, as the program looks. -/
noncomputable def snapOk (rows : List RowS) : Bool := decide (rows.length ≤ 5000 ∧ (∀ i, i < rows.length → rightRow (nth rows i) = true ∧ (i = 0 ∨ cmpSt (nth rows (i - 1)).node (nth rows i).node < 0)) ∧ ∀ i, i < rows.length → reach (parentsAll rows) (nth rows i).node)
open Classical in
theorem snapOk_iff {rows : List RowS} : snapOk rows = true ↔ rows.length ≤ 5000 ∧ (∀ i, i < rows.length → rightRow (nth rows i) = true ∧ (i = 0 ∨ cmpSt (nth rows (i - 1)).node (nth rows i).node < 0)) ∧ ∀ i, i < rows.length → reach (parentsAll rows) (nth rows i).node := decide_eq_true_iff
theorem snapF {rows : List RowS} (h : ¬ (rows.length ≤ 5000 ∧ (∀ i, i < rows.length → rightRow (nth rows i) = true ∧ (i = 0 ∨ cmpSt (nth rows (i - 1)).node (nth rows i).node < 0)) ∧ ∀ i, i < rows.length → reach (parentsAll rows) (nth rows i).node)) : Value.bool false = Value.bool (snapOk rows) := by
  have : snapOk rows = false := by
    cases hh : snapOk rows with
    | false => rfl
    | true => exact absurd (snapOk_iff.1 hh) h
  rw [this]
theorem snapT {rows : List RowS} (h0 : ¬ (5000 : Int) < ((rows.length : Nat) : Int)) (h1 : ∀ i, i < rows.length → rightRow (nth rows i) = true ∧ (i = 0 ∨ cmpSt (nth rows (i - 1)).node (nth rows i).node < 0)) (h2 : ∀ i, i < rows.length → reach (parentsAll rows) (nth rows i).node) : Value.bool true = Value.bool (snapOk rows) := by
  rw [snapOk_iff.2 ⟨by omega, h1, h2⟩]
theorem right_at {rows : List RowS} {k : Nat} (h : rightRow (nth rows k) = true ∧ (¬ (0 : Int) < ((k : Nat) : Int) ∨ ¬ 0 ≤ cmpSt (nth rows (k - 1)).node (nth rows k).node)) : rightRow (nth rows k) = true ∧ (k = 0 ∨ cmpSt (nth rows (k - 1)).node (nth rows k).node < 0) :=
  ⟨h.1, by rcases h.2 with h | h <;> omega⟩
theorem right_bad {rows : List RowS} {k : Nat} (hh : rightRow (nth rows k) = true ∧ (k = 0 ∨ cmpSt (nth rows (k - 1)).node (nth rows k).node < 0)) (h : rightRow (nth rows k) = false ∨ ((0 : Int) < ((k : Nat) : Int) ∧ 0 ≤ cmpSt (nth rows (k - 1)).node (nth rows k).node)) : False := by
  rcases h with h | h
  · rw [hh.1] at h; cases h
  · rcases hh.2 with h1 | h1 <;> omega
theorem way_step {kv : List (Stamp × Stamp)} {kvg : List (Stamp × Bool)} {s a : Stamp} {way : List Stamp} {n : Nat} (h : onWay kv s way a) (hg : fixedSt a = false ∧ (kvGet kvg a).getD false = false) (hk : (kvGet kv a).isSome = true ∧ ¬ ((n : Nat) : Int) < ((way.length : Nat) : Int)) : onWay kv s (way ++ [a]) ((kvGet kv a).getD ⟨0, 0⟩) :=
  onWay_succ h hg.1 hk.1
theorem way_stop {kv : List (Stamp × Stamp)} {kvg : List (Stamp × Bool)} {a : Stamp} (hg : ∀ s, (kvGet kvg s).getD false = true → reach kv s) (h : fixedSt a = true ∨ (kvGet kvg a).getD false = true) : reach kv a := by
  rcases h with h | h
  · exact reach_fixed h
  · exact hg a h
theorem way_all {kv : List (Stamp × Stamp)} {s a : Stamp} {way : List Stamp} (h : onWay kv s way a) (hr : reach kv a) : ∀ i, i < way.length → reach kv (nth way i) := fun i hi => by
  rw [(h.2 i hi).1]; exact (onWay_reach h i (by omega)).2 hr
theorem mark_good {kv : List (Stamp × Stamp)} {kvg : List (Stamp × Bool)} {x : Stamp} (hg : ∀ s, (kvGet kvg s).getD false = true → reach kv s) (hx : reach kv x) : ∀ s, (kvGet (kvPut x true kvg) s).getD false = true → reach kv s := fun s h => by
  rw [kvGet_put] at h
  split at h
  · rename_i e; rw [e]; exact hx
  · exact hg s h
theorem way_bad {kv : List (Stamp × Stamp)} {kvg : List (Stamp × Bool)} {s a : Stamp} {way : List Stamp} {n : Nat} (h : onWay kv s way a) (hl : way.length ≤ n + 1) (hn : kv.length ≤ n) (hg : fixedSt a = false ∧ (kvGet kvg a).getD false = false) (hk : (kvGet kv a).isSome = false ∨ ((n : Nat) : Int) < ((way.length : Nat) : Int)) (hr : reach kv s) : False := by
  rcases hk with hk | hk
  · exact reach_not hg.1 hk ((onWay_reach h 0 (Nat.zero_le _)).1 hr)
  · exact way_long h (by omega) hr
theorem way_step' {kv kvp : List (Stamp × Stamp)} (e : kvp = kv) {kvg : List (Stamp × Bool)} {s a : Stamp} {way : List Stamp} {n : Nat} (h : onWay kv s way a) (hg : fixedSt a = false ∧ (kvGet kvg a).getD false = false) (hk : (kvGet kvp a).isSome = true ∧ ¬ ((n : Nat) : Int) < ((way.length : Nat) : Int)) : onWay kv s (way ++ [a]) ((kvGet kvp a).getD ⟨0, 0⟩) := by
  subst e; exact way_step h hg hk
theorem way_bad' {kv kvp : List (Stamp × Stamp)} (e : kvp = kv) {kvg : List (Stamp × Bool)} {s a : Stamp} {way : List Stamp} {n : Nat} (h : onWay kv s way a) (hl : way.length ≤ n + 1) (hn : kv.length ≤ n) (hg : fixedSt a = false ∧ (kvGet kvg a).getD false = false) (hk : (kvGet kvp a).isSome = false ∨ ((n : Nat) : Int) < ((way.length : Nat) : Int)) (hr : reach kv s) : False := by
  subst e; exact way_bad h hl hn hg hk hr
end Go.Proofs.Ytiknfldhommmpaa
/- The plain side of operations. -/
namespace Go.Proofs.Ytiknfldhommmpaa
open Go
set_option linter.unusedVariables false
set_option linter.unusedSimpArgs false
set_option linter.unusedSectionVars false
def opOverAt (tm : Stamp) (over : List Stamp) (i : Nat) : Prop := stRight (nth over i) = true ∧ cmpSt (nth over i) tm < 0 ∧ (i = 0 ∨ cmpSt (nth over (i - 1)) (nth over i) < 0)
instance (tm : Stamp) (over : List Stamp) (i : Nat) : Decidable (opOverAt tm over i) := by unfold opOverAt; infer_instance
def moveOk (o : OpS) : Bool := decide (cmpSt o.node o.tm ≤ 0 ∧ (stRight o.par = true ∨ fixedSt o.par = true) ∧ nameOk o.name = true ∧ o.data = zeroId ∧ o.over.length = 0)
def editOk (o : OpS) : Bool := decide (cmpSt o.node o.tm < 0 ∧ o.par = ⟨0, 0⟩ ∧ o.name = ByteArray.empty ∧ o.data ≠ zeroId ∧ o.over.length ≤ 64 ∧ ∀ i, i < o.over.length → opOverAt o.tm o.over i)
def goodOp (o : OpS) : Bool := decide (stRight o.tm = true ∧ stRight o.node = true ∧ (o.kind = 1 ∧ moveOk o = true ∨ o.kind = 2 ∧ editOk o = true))
theorem moveOk_e {o : OpS} : Value.bool ((((decide (cmpSt o.node o.tm ≤ 0) && (stRight o.par || fixedSt o.par)) && nameOk o.name) && decide (o.data = zeroId)) && decide (((o.over.length : Nat) : Int) = 0)) = Value.bool (moveOk o) := by
  refine boolE ?_
  simp only [Bool.and_eq_true, Bool.or_eq_true, decide_eq_true_eq]
  constructor
  · rintro ⟨⟨⟨⟨h1, h2⟩, h3⟩, h4⟩, h5⟩; exact ⟨h1, h2, h3, h4, by omega⟩
  · rintro ⟨h1, h2, h3, h4, h5⟩; exact ⟨⟨⟨⟨h1, h2⟩, h3⟩, h4⟩, by omega⟩
theorem editOk_f1 {o : OpS} (h : (((0 ≤ cmpSt o.node o.tm ∨ ¬ o.par = (⟨0, 0⟩ : Stamp)) ∨ ¬ o.name = ByteArray.empty) ∨ o.data = zeroId) ∨ (64 : Int) < ((o.over.length : Nat) : Int)) : Value.bool false = Value.bool (editOk o) := by
  refine boolF ?_
  rintro ⟨h1, h2, h3, h4, h5, _⟩
  rcases h with (((h | h) | h) | h) | h
  · omega
  · exact h h2
  · exact h h3
  · exact h4 h
  · omega
theorem overAt_t {tm : Stamp} {over : List Stamp} {k : Nat} (h : (stRight (nth over k) = true ∧ ¬ 0 ≤ cmpSt (nth over k) tm) ∧ (¬ (0 : Int) < ((k : Nat) : Int) ∨ ¬ 0 ≤ cmpSt (nth over (k - 1)) (nth over k))) : opOverAt tm over k :=
  ⟨h.1.1, by omega, by rcases h.2 with h | h <;> omega⟩
theorem editOk_f2 {o : OpS} {k : Nat} (hk : k < o.over.length) (h : (stRight (nth o.over k) = false ∨ 0 ≤ cmpSt (nth o.over k) o.tm) ∨ ((0 : Int) < ((k : Nat) : Int) ∧ 0 ≤ cmpSt (nth o.over (k - 1)) (nth o.over k))) : Value.bool false = Value.bool (editOk o) := by
  refine boolF ?_
  rintro ⟨_, _, _, _, _, hh⟩
  obtain ⟨a1, a2, a3⟩ := hh k hk
  rcases h with (h | h) | h
  · rw [a1] at h; cases h
  · omega
  · rcases a3 with a3 | a3 <;> omega
theorem editOk_t {o : OpS} (h : (((¬ 0 ≤ cmpSt o.node o.tm ∧ o.par = (⟨0, 0⟩ : Stamp)) ∧ o.name = ByteArray.empty) ∧ ¬ o.data = zeroId) ∧ ¬ (64 : Int) < ((o.over.length : Nat) : Int)) (h2 : ∀ i, i < o.over.length → opOverAt o.tm o.over i) : Value.bool true = Value.bool (editOk o) :=
  boolT ⟨by omega, h.1.1.1.2, h.1.1.2, h.1.2, by omega, h2⟩
theorem good_f {o : OpS} (h : stRight o.tm = false ∨ stRight o.node = false) : Value.bool false = Value.bool (goodOp o) := boolF fun hh => by
  rcases h with h | h
  · rw [hh.1] at h; cases h
  · rw [hh.2.1] at h; cases h
theorem good_m {o : OpS} (h : stRight o.tm = true ∧ stRight o.node = true) (h1 : o.kind = 1) : Value.bool (moveOk o) = Value.bool (goodOp o) := boolE ⟨fun hm => ⟨h.1, h.2, .inl ⟨h1, hm⟩⟩, fun hh => by
  rcases hh.2.2 with h3 | h3
  · exact h3.2
  · omega⟩
theorem good_e {o : OpS} (h : stRight o.tm = true ∧ stRight o.node = true) (h1 : o.kind = 2) : Value.bool (editOk o) = Value.bool (goodOp o) := boolE ⟨fun hm => ⟨h.1, h.2, .inr ⟨h1, hm⟩⟩, fun hh => by
  rcases hh.2.2 with h3 | h3
  · omega
  · exact h3.2⟩
theorem good_n {o : OpS} (h1 : ¬ o.kind = 1) (h2 : ¬ o.kind = 2) : Value.bool false = Value.bool (goodOp o) := boolF fun hh => by rcases hh.2.2 with h | h <;> exact absurd h.1 (by assumption)
structure MakerS where
  at_ : Stamp
  ops : List OpS
  oh : SlH
  bad : Bool
  deriving Inhabited
abbrev makerCh (m : MakerS) : Chs := [[.int .i64 m.at_.T], [.int .i64 m.at_.R], [slV m.oh m.ops], [.bool m.bad]]
abbrev makerV (m : MakerS) : Value := aggOf (makerCh m)
/-- An operation that was put. -/
def putOp (m : MakerS) (o : OpS) : OpS := { o with tm := m.at_ }
structure OpC where
  kind : Int
  tm : Stamp
  node : Stamp
  par : Stamp
  name : ByteArray
  data : ID
  over : List Stamp
  deriving DecidableEq, Inhabited
def OpS.core (o : OpS) : OpC := ⟨o.kind, o.tm, o.node, o.par, o.name, o.data, o.over⟩
/-- The root or the trash (a stamp of time 0) lies d parents above. -/
def depN (kv : List (Stamp × RowS)) : Nat → Stamp → Prop
  | 0, s => s.T = 0
  | d + 1, s => ¬ s.T = 0 ∧ depN kv d ((kvGet kv s).getD zeroRow).par
theorem depN_uniq {kv : List (Stamp × RowS)} : ∀ {n m : Nat} {s : Stamp}, depN kv n s → depN kv m s → n = m
  | 0, 0, _, _, _ => rfl
  | 0, m + 1, s, h, k => absurd h k.1
  | n + 1, 0, s, h, k => absurd k h.1
  | n + 1, m + 1, s, h, k => by rw [depN_uniq h.2 k.2]
open Classical in
noncomputable def depOf (kv : List (Stamp × RowS)) (s : Stamp) : Nat := if h : ∃ d, depN kv d s then Classical.choose h else 0
theorem depOf_eq {kv : List (Stamp × RowS)} {s : Stamp} {d : Nat} (h : depN kv d s) : depOf kv s = d := by
  have hx : ∃ d, depN kv d s := ⟨d, h⟩
  unfold depOf
  rw [dif_pos hx]
  exact depN_uniq (Classical.choose_spec hx) h
theorem dep_zero {kv : List (Stamp × RowS)} {s : Stamp} {d k n : Nat} (h : depN kv d s) (hk : k + d = n) (h0 : s.T = 0) : k = n := by
  cases d with
  | zero => omega
  | succ d => exact absurd h0 h.1
theorem dep_step {kv : List (Stamp × RowS)} {s : Stamp} {d : Nat} (h : depN kv d s) (h0 : ¬ s.T = 0) : 1 ≤ d ∧ depN kv (d - 1) ((kvGet kv s).getD zeroRow).par := by
  cases d with
  | zero => exact absurd h h0
  | succ d => exact ⟨by omega, h.2⟩
def OpC.good (o : OpC) : Bool := goodOp { kind := o.kind, tm := o.tm, node := o.node, par := o.par, name := o.name, data := o.data, over := o.over, oh := nilH }
theorem goodOp_core (o : OpS) : goodOp o = o.core.good := rfl
/-- What a maker is, but for where its operations lie. -/
structure MakerC where
  at_ : Stamp
  ops : List OpC
  bad : Bool
def MakerS.st (m : MakerS) : MakerC := ⟨m.at_, m.ops.map OpS.core, m.bad⟩
def putC (m : MakerC) (o : OpC) : MakerC := ⟨⟨m.at_.T + 1, m.at_.R⟩, m.ops ++ [{ o with tm := m.at_ }], m.bad || !OpC.good { o with tm := m.at_ }⟩
theorem put_st {m m' : MakerS} {o : OpS} (h : m'.at_ = ⟨m.at_.T + 1, m.at_.R⟩ ∧ m'.bad = (m.bad || !goodOp (putOp m o)) ∧ ∃ h, m'.ops = m.ops ++ [{ putOp m o with oh := h }]) : m'.st = putC m.st o.core := by
  obtain ⟨h1, h2, hh, h3⟩ := h
  unfold MakerS.st putC
  rw [h1, h2, h3]
  simp [List.map_append, OpS.core, putOp, goodOp_core]
theorem putC_at (l : List OpC) : ∀ m : MakerC, (l.foldl putC m).at_ = ⟨m.at_.T + l.length, m.at_.R⟩ ∧ (l.foldl putC m).ops.length = m.ops.length + l.length := by
  induction l with
  | nil => intro m; simp
  | cons o l ih =>
    intro m
    obtain ⟨h1, h2⟩ := ih (putC m o)
    rw [List.foldl_cons, h1, h2]
    refine ⟨?_, ?_⟩
    · simp only [putC, List.length_cons, Stamp.mk.injEq, and_true]; omega
    · simp only [putC, List.length_append, List.length_cons, List.length_nil]; omega
def zeroOp : OpC := ⟨0, ⟨0, 0⟩, ⟨0, 0⟩, ⟨0, 0⟩, ByteArray.empty, zeroId, []⟩
/-- A row's move; a row's move to the trash. -/
def mvOp (r : RowS) : OpC := { zeroOp with kind := 1, node := r.node, par := r.par, name := r.name }
def trOp (r : RowS) : OpC := { zeroOp with kind := 1, node := r.node, par := ⟨0, 1⟩, name := r.name }
/-- Does a row of the other tree want a move? -/
def needs (a : List RowS) (r : RowS) : Bool := !(kvGet (tableOf a) r.node).isSome || !decide (((kvGet (tableOf a) r.node).getD zeroRow).par = r.par) || !decide (((kvGet (tableOf a) r.node).getD zeroRow).name = r.name)
/-- Is a row's node gone in the other tree, and not in the trash? -/
def gone (b : List RowS) (r : RowS) : Bool := !(kvGet (tableOf b) r.node).isSome && !decide (r.par = ⟨0, 1⟩)
theorem st_at (m : MakerS) : m.st.at_ = m.at_ := rfl
theorem st_len {m m' : MakerS} {l : List OpC} (h : m'.st = l.foldl putC m.st) : m'.at_ = ⟨m.at_.T + l.length, m.at_.R⟩ ∧ m'.ops.length = m.ops.length + l.length := by
  have := putC_at l m.st
  rw [← h] at this
  refine ⟨this.1, ?_⟩
  have h2 := this.2
  simpa [MakerS.st] using h2
theorem moves_step {m mm mm2 : MakerS} {pre : List OpC} {L : List RowS} {j : Nat} {o : OpC} {g : RowS → OpC} (h : mm.st = (pre ++ (L.take j).map g).foldl putC m.st) (hj : j < L.length) (ho : o = g (nth L j)) (h2 : mm2.st = putC mm.st o) : mm2.st = (pre ++ (L.take (j + 1)).map g).foldl putC m.st := by
  rw [h2, h, ho, List.take_succ_eq_append_getElem hj, List.map_append, ← List.append_assoc, nth_eq hj]
  simp only [List.foldl_append, List.map_cons, List.map_nil, List.foldl_cons, List.foldl_nil]
theorem needs_in {a b acc : List RowS} {k : Nat} (h : acc = (b.take k).filter (needs a)) (hk : k < b.length) (hn : ((kvGet (tableOf a) (nth b k).node).isSome = false ∨ ¬ ((kvGet (tableOf a) (nth b k).node).getD zeroRow).par = (nth b k).par) ∨ ¬ ((kvGet (tableOf a) (nth b k).node).getD zeroRow).name = (nth b k).name) : acc ++ [nth b k] = (b.take (k + 1)).filter (needs a) := by
  rw [filter_take_succ hk, ← h, if_pos (by unfold needs; rcases hn with (hn | hn) | hn <;> simp [hn])]
theorem needs_out {a b acc : List RowS} {k : Nat} (h : acc = (b.take k).filter (needs a)) (hk : k < b.length) (hn : ((kvGet (tableOf a) (nth b k).node).isSome = true ∧ ((kvGet (tableOf a) (nth b k).node).getD zeroRow).par = (nth b k).par) ∧ ((kvGet (tableOf a) (nth b k).node).getD zeroRow).name = (nth b k).name) : acc = (b.take (k + 1)).filter (needs a) := by
  rw [filter_take_succ hk, ← h, if_neg (by unfold needs; simp [hn.1.1, hn.1.2, hn.2]), List.append_nil]
theorem moved_mem {a b acc : List RowS} {k : Nat} {x : RowS} (h : acc = (b.take k).filter (needs a)) (hx : x ∈ acc) : x ∈ b := by
  rw [h] at hx
  exact List.mem_of_mem_take (List.mem_filter.1 hx).1
theorem SS_step {SS SS2 Sm : Nat → Prop} {n n2 : Nat} (h : ∀ c, SS c → Sm c ∨ n ≤ c) (h2 : ∀ c, SS2 c → SS c ∨ n2 ≤ c ∨ nob c) (hn : n ≤ n2) : ∀ c, SS2 c → Sm c ∨ n ≤ c := fun c hc => by
  rcases h2 c hc with h3 | h3 | h3
  · exact h c h3
  · exact .inr (Nat.le_trans hn h3)
  · exact h3.elim
theorem gone_step {m mm mm2 : MakerS} {pre : List OpC} {a b : List RowS} {k : Nat} {o : OpC} (h : mm.st = (pre ++ ((a.take k).filter (gone b)).map trOp).foldl putC m.st) (hk : k < a.length) (hg : (kvGet (tableOf b) (nth a k).node).isSome = false ∧ ¬ (nth a k).par = ⟨0, 1⟩) (ho : o = trOp (nth a k)) (h2 : mm2.st = putC mm.st o) : mm2.st = (pre ++ ((a.take (k + 1)).filter (gone b)).map trOp).foldl putC m.st := by
  rw [h2, h, ho, filter_take_succ hk, if_pos (by unfold gone; simp [hg.1, hg.2]), List.map_append, ← List.append_assoc]
  simp only [List.foldl_append, List.map_cons, List.map_nil, List.foldl_cons, List.foldl_nil]
theorem gone_skip {m mm : MakerS} {pre : List OpC} {a b : List RowS} {k : Nat} (h : mm.st = (pre ++ ((a.take k).filter (gone b)).map trOp).foldl putC m.st) (hk : k < a.length) (hg : (kvGet (tableOf b) (nth a k).node).isSome = true ∨ (nth a k).par = ⟨0, 1⟩) : mm.st = (pre ++ ((a.take (k + 1)).filter (gone b)).map trOp).foldl putC m.st := by
  rw [h, filter_take_succ hk, if_neg (by unfold gone; rcases hg with hg | hg <;> simp [hg]), List.append_nil]
theorem T_room {m mm : MakerS} {l : List OpC} (h : mm.st = l.foldl putC m.st) (hT : 0 ≤ m.at_.T ∧ m.at_.T ≤ 2199023255552) (hl : l.length ≤ 100000) : mm.at_.T ≤ 4611686018427387904 ∧ -4611686018427387904 ≤ mm.at_.T := by
  rw [(st_len h).1]; simp only []; omega
theorem L_room {m mm : MakerS} {l : List OpC} (h : mm.st = l.foldl putC m.st) (hm : m.ops.length ≤ 100000) (hl : l.length ≤ 100000) : mm.ops.length ≤ 1048576 := by
  rw [(st_len h).2]; omega
/-- What a node was in the elder tree. -/
def wasOf (a : List RowS) (r : RowS) : RowS := (kvGet (tableOf a) r.node).getD zeroRow
def sameHeads (a : List RowS) (r : RowS) : Bool := decide (datas ((kvGet (tableOf a) r.node).getD zeroRow).heads = datas r.heads)
def edOp (a : List RowS) (r : RowS) : OpC := { zeroOp with kind := 2, node := r.node, data := (nth r.heads 0).data, over := (wasOf a r).heads.map (·.tm) }
def edWants (a : List RowS) (r : RowS) : Bool := !sameHeads a r && decide (r.heads.length = 1)
def edBad (a : List RowS) (r : RowS) : Bool := !sameHeads a r && !decide (r.heads.length = 1)
def editsOf (a b : List RowS) : List OpC := (b.filter (edWants a)).map (edOp a)
def editsOne (a b : List RowS) : Bool := b.all fun r => !edBad a r
theorem editsOne_succ {a b : List RowS} {k : Nat} (hk : k < b.length) : editsOne a (b.take (k + 1)) = (editsOne a (b.take k) && !edBad a (nth b k)) := by
  unfold editsOne
  rw [List.take_succ_eq_append_getElem hk, List.all_append, nth_eq hk]
  simp
theorem edits_len (a b : List RowS) (k : Nat) : (editsOf a (b.take k)).length ≤ k := by
  unfold editsOf
  rw [List.length_map]
  refine Nat.le_trans (List.length_filter_le _ _) ?_
  rw [List.length_take]; omega
theorem edits_same {m mm : MakerS} {a b : List RowS} {k : Nat} {one : Bool} (h : mm.st = (editsOf a (b.take k)).foldl putC m.st) (ho : one = editsOne a (b.take k)) (hk : k < b.length)
    (hs : datas ((kvGet (tableOf a) (nth b k).node).getD zeroRow).heads = datas (nth b k).heads) : mm.st = (editsOf a (b.take (k + 1))).foldl putC m.st ∧ one = editsOne a (b.take (k + 1)) := by
  have hsm : sameHeads a (nth b k) = true := decide_eq_true hs
  refine ⟨?_, ?_⟩
  · rw [h, editsOf, editsOf, filter_take_succ hk, if_neg (by unfold edWants; simp [hsm]), List.append_nil]
  · rw [ho, editsOne_succ hk, edBad, hsm]; simp
theorem edits_many {m mm : MakerS} {a b : List RowS} {k : Nat} (h : mm.st = (editsOf a (b.take k)).foldl putC m.st) (hk : k < b.length)
    (hs : ¬ datas ((kvGet (tableOf a) (nth b k).node).getD zeroRow).heads = datas (nth b k).heads) (hn : ¬ (((nth b k).heads.length : Nat) : Int) = 1) : mm.st = (editsOf a (b.take (k + 1))).foldl putC m.st ∧ false = editsOne a (b.take (k + 1)) := by
  have hsm : sameHeads a (nth b k) = false := decide_eq_false hs
  have hl : decide ((nth b k).heads.length = 1) = false := decide_eq_false (by omega)
  refine ⟨?_, ?_⟩
  · rw [h, editsOf, editsOf, filter_take_succ hk, if_neg (by unfold edWants; simp [hl]), List.append_nil]
  · rw [editsOne_succ hk, edBad, hsm, hl]; simp
theorem edits_put {m mm mm2 : MakerS} {a b : List RowS} {k : Nat} {one : Bool} {o : OpC} (h : mm.st = (editsOf a (b.take k)).foldl putC m.st) (ho : one = editsOne a (b.take k)) (hk : k < b.length)
    (hs : ¬ datas ((kvGet (tableOf a) (nth b k).node).getD zeroRow).heads = datas (nth b k).heads) (hn : (((nth b k).heads.length : Nat) : Int) = 1) (hop : o = edOp a (nth b k)) (h2 : mm2.st = putC mm.st o) :
    mm2.st = (editsOf a (b.take (k + 1))).foldl putC m.st ∧ one = editsOne a (b.take (k + 1)) := by
  have hsm : sameHeads a (nth b k) = false := decide_eq_false hs
  have hl : decide ((nth b k).heads.length = 1) = true := decide_eq_true (by omega)
  refine ⟨?_, ?_⟩
  · rw [h2, h, hop, editsOf, editsOf, filter_take_succ hk, if_pos (by unfold edWants; simp [hsm, hl])]
    simp only [List.map_append, List.foldl_append, List.map_cons, List.map_nil, List.foldl_cons, List.foldl_nil]
  · rw [ho, editsOne_succ hk, edBad, hl]; simp
/-- What the table holds is a row, or nothing. -/
theorem kvGet_table {a : List RowS} {s : Stamp} {x : RowS} (h : kvGet (tableOf a) s = some x) : x ∈ a ∧ x.node = s := by
  suffices hh : ∀ (l : List RowS) (kv : List (Stamp × RowS)), (∀ p ∈ kv, p.2 ∈ a ∧ p.2.node = p.1) → (∀ x ∈ l, x ∈ a) → ∀ p ∈ l.foldl (fun kv r => kvPut r.node r kv) kv, p.2 ∈ a ∧ p.2.node = p.1 from
    hh a [] (fun _ h => (nomatch h)) (fun _ h => h) _ (kvGet_mem h)
  intro l
  induction l with
  | nil => intro kv hkv _ p hp; exact hkv p hp
  | cons r l ih =>
    intro kv hkv hl
    refine ih _ (fun p hp => ?_) (fun x hx => hl x (List.mem_cons_of_mem _ hx))
    rcases kvPut_mem hp with rfl | hp
    · exact ⟨hl _ (List.mem_cons_self ..), rfl⟩
    · exact hkv p hp
theorem tab_deep {F : Nat → Prop} {a : List RowS} {w : World} (h : ∀ x ∈ a, Sl F headCh 34 x.hh x.heads w) (s : Stamp) : Sl F headCh 34 ((kvGet (tableOf a) s).getD zeroRow).hh ((kvGet (tableOf a) s).getD zeroRow).heads w := by
  cases hk : kvGet (tableOf a) s with
  | none => exact Sl.nil F headCh 34 w
  | some x => exact h x (kvGet_table hk).1
theorem tab_heads {n : Nat} {a : List RowS} (h : ∀ x ∈ a, x.heads.length ≤ n) (s : Stamp) : ((kvGet (tableOf a) s).getD zeroRow).heads.length ≤ n := by
  cases hk : kvGet (tableOf a) s with
  | none => exact Nat.zero_le _
  | some x => exact h x (kvGet_table hk).1
theorem over_step {hs : List Head} {acc : List Stamp} {j : Nat} (h : acc = (hs.take j).map (·.tm)) (hj : j < hs.length) : acc ++ [(nth hs j).tm] = (hs.take (j + 1)).map (·.tm) := by
  rw [h, List.take_succ_eq_append_getElem hj, List.map_append, nth_eq hj]; rfl
theorem over_end {hs : List Head} {acc : List Stamp} {j : Nat} (h : acc = (hs.take j).map (·.tm)) (hj : ¬ j < hs.length) : acc = hs.map (·.tm) := by
  rw [h, List.take_of_length_le (by omega)]
theorem SS_stepF {SS SS2 Sm Fo : Nat → Prop} {n n2 : Nat} (h : ∀ c, SS c → Sm c ∨ n ≤ c) (h2 : ∀ c, SS2 c → SS c ∨ n2 ≤ c ∨ Fo c) (hn : n ≤ n2) (hF : ∀ c, Fo c → n ≤ c) : ∀ c, SS2 c → Sm c ∨ n ≤ c := fun c hc => by
  rcases h2 c hc with h3 | h3 | h3
  · exact h c h3
  · exact .inr (Nat.le_trans hn h3)
  · exact .inr (hF c h3)
end Go.Proofs.Ytiknfldhommmpaa
namespace Go.Proofs.Ytiknfldhommmpaa
open Go
set_option maxRecDepth 100000
set_option linter.unusedVariables false
set_option linter.unusedSimpArgs false
theorem stamp_edit_c35 : callable Try.prog 35 = true := by kernel_rfl
theorem stamp_edit_c47 : callable Try.prog 47 = true := by kernel_rfl
set_option maxHeartbeats 1000000 in
theorem stamp_edit (o : OpS) (w : World) (So_over : Sl (Old w) stampCh 2 o.oh o.over w) :
    Calls Try.prog 76 #[(aggOf (opCh o))] w (Ret fun v w' => v = (.bool (editOk o)) ∧ Ext w w') := by
 refine calls_W Try.func76 rfl Try.ntmps76 rfl ?_
 have H0 := Ctx.start w nob
 have H1 := H0.addSl _ So_over (fun b hb => ⟨hb, fun _ ho => (nomatch ho)⟩)
 have LSo_over := So_over.len
 refine W_seq (W_reg ?_)
 refine O_v rfl (C_box H1 [[(.int .i64 o.kind)], [(.int .i64 o.tm.T)], [(.int .i64 o.tm.R)], [(.int .i64 o.node.T)], [(.int .i64 o.node.R)], [(.int .i64 o.par.T)], [(.int .i64 o.par.R)], [(.string o.name)], (idCells o.data), [(slV o.oh o.over)]] rfl ?_)
 intro b2 w3 hb4 hx5 H6
 refine O_v rfl (R_assign (v := (.bool false)) rfl ?_)
 refine O_nil (Then_n (W_seq (W_seq ?_)))
 refine W_rg [(0, .q false), (1, .q false), (2, .q false), (3, .q false), (4, .q false), (5, .q false), (6, .q false), (7, .q false), (8, .q false), (9, .q false), (10, .q false), (11, .q false), (12, .q false), (13, .q false), (14, .q false), (15, .q false), (16, .q false), (17, .q false), (18, .q false), (19, .q false), (20, .q false), (21, .q false), (22, .q false), (23, .q false), (24, .q false), (25, .q false), (26, .q false), (27, .q false), (28, .q false)] (by kernel_rfl) ?_
 refine Lx_q (i := 0) rfl rfl _ (fun v7 hv8 => R_fieldAddr (off := 3) (oo := 3) Try.underlying39 rfl rfl Try.sizeOf24 rfl rfl ⟨rfl, Gr.refl _ _⟩) ?_
 refine Lx_q (i := 1) rfl rfl _ (fun v9 hv10 => R_loadA (cs := [[(.int .i64 o.node.T)], [(.int .i64 o.node.R)]]) Try.isAgg24 Try.sizeOf24 rfl rfl ((boxR_at ((H6.ext hv10).getOwn 0 rfl)).chunks 3 2 3 3 _ rfl rfl rfl) ⟨rfl, Gr.refl _ _⟩) ?_
 refine Lx_q (i := 2) rfl rfl _ (fun v11 hv12 => R_fieldAddr (off := 1) (oo := 1) Try.underlying39 rfl rfl Try.sizeOf24 rfl rfl ⟨rfl, Gr.refl _ _⟩) ?_
 refine Lx_q (i := 3) rfl rfl _ (fun v13 hv14 => R_loadA (cs := [[(.int .i64 o.tm.T)], [(.int .i64 o.tm.R)]]) Try.isAgg24 Try.sizeOf24 rfl rfl ((boxR_at ((H6.ext hv14).getOwn 0 rfl)).chunks 1 2 1 1 _ rfl rfl rfl) ⟨rfl, Gr.refl _ _⟩) ?_
 refine Lx_q (i := 4) rfl rfl (.int .i64 (cmpSt o.node o.tm)) (fun v15 hv16 => R_callL (vs := [(aggOf (stampCh o.node)), (aggOf (stampCh o.tm))]) stamp_edit_c47 rfl rfl (stamp_Cmp o.node o.tm v15 )) ?_
 refine Lx_q (i := 5) rfl rfl _ (fun v17 hv18 => R_cmp (a := cmpSt o.node o.tm) (b := 0) (r := (decide (0 ≤ cmpSt o.node o.tm))) rfl rfl rfl ⟨rfl, Gr.refl _ _⟩) ?_
 refine Lx_q (i := 6) rfl rfl _ (fun v19 hv20 => R_move (v := (.bool (decide (0 ≤ cmpSt o.node o.tm)))) rfl ⟨rfl, Gr.refl _ _⟩) ?_
 refine Lx_qg (i := 7) true (decide (0 ≤ cmpSt o.node o.tm)) rfl rfl rfl rfl rfl (!(decide (0 ≤ cmpSt o.node o.tm))) ga_f _ (fun hA v21 hv22 => R_fieldAddr (off := 5) (oo := 5) Try.underlying39 rfl rfl Try.sizeOf24 rfl rfl ⟨rfl, Gr.refl _ _⟩) ?_
 refine Lx_qg (i := 8) true (decide (0 ≤ cmpSt o.node o.tm)) rfl rfl rfl rfl rfl (!(decide (0 ≤ cmpSt o.node o.tm))) ga_f _ (fun hA v23 hv24 => R_loadA (cs := [[(.int .i64 o.par.T)], [(.int .i64 o.par.R)]]) Try.isAgg24 Try.sizeOf24 rfl (gv_t hA) ((boxR_at ((H6.ext hv24).getOwn 0 rfl)).chunks 5 2 5 5 _ rfl rfl rfl) ⟨rfl, Gr.refl _ _⟩) ?_
 refine Lx_qg (i := 9) true (decide (0 ≤ cmpSt o.node o.tm)) rfl rfl rfl rfl rfl (!(decide (0 ≤ cmpSt o.node o.tm))) ga_f _ (fun hA v25 hv26 => R_buildL (vs := []) (v := aggOf [[(.int .i64 0)], [(.int .i64 0)]]) rfl (fun _ => by kernel_rfl) ⟨rfl, Gr.refl _ _⟩) ?_
 refine Lx_qg (i := 10) true (decide (0 ≤ cmpSt o.node o.tm)) rfl rfl rfl rfl rfl (!(decide (0 ≤ cmpSt o.node o.tm))) ga_f _ (fun hA v27 hv28 => R_nev (a := o.par) (b := ({ T := 0, R := 0 } : Stamp)) eqv_Stamp24 rfl Try.eqGuardType24 (gv_t hA) (gv_t hA) ⟨rfl, Gr.refl _ _⟩) ?_
 refine Lx_q (i := 11) rfl rfl _ (fun v29 hv30 => R_pick (t := (decide (0 ≤ cmpSt o.node o.tm))) (v := (.bool ((decide (0 ≤ cmpSt o.node o.tm)) || (!(decide (o.par = ({ T := 0, R := 0 } : Stamp))))))) rfl pk_or ⟨rfl, Gr.refl _ _⟩) ?_
 refine Lx_q (i := 12) rfl rfl _ (fun v31 hv32 => R_move (v := (.bool ((decide (0 ≤ cmpSt o.node o.tm)) || (!(decide (o.par = ({ T := 0, R := 0 } : Stamp))))))) rfl ⟨rfl, Gr.refl _ _⟩) ?_
 refine Lx_qg (i := 13) true ((decide (0 ≤ cmpSt o.node o.tm)) || (!(decide (o.par = ({ T := 0, R := 0 } : Stamp))))) rfl rfl rfl rfl rfl (!((decide (0 ≤ cmpSt o.node o.tm)) || (!(decide (o.par = ({ T := 0, R := 0 } : Stamp)))))) ga_f _ (fun hA v33 hv34 => R_fieldAddr (off := 7) (oo := 7) Try.underlying39 rfl rfl Try.sizeOf9 rfl rfl ⟨rfl, Gr.refl _ _⟩) ?_
 refine Lx_qg (i := 14) true ((decide (0 ≤ cmpSt o.node o.tm)) || (!(decide (o.par = ({ T := 0, R := 0 } : Stamp))))) rfl rfl rfl rfl rfl (!((decide (0 ≤ cmpSt o.node o.tm)) || (!(decide (o.par = ({ T := 0, R := 0 } : Stamp)))))) ga_f _ (fun hA v35 hv36 => R_load1 (v := (.string o.name)) Try.isAgg9 (gv_t hA) ((boxR_at ((H6.ext hv36).getOwn 0 rfl)).chunks 7 1 7 7 _ rfl rfl rfl) ⟨rfl, Gr.refl _ _⟩) ?_
 refine Lx_qg (i := 15) true ((decide (0 ≤ cmpSt o.node o.tm)) || (!(decide (o.par = ({ T := 0, R := 0 } : Stamp))))) rfl rfl rfl rfl rfl (!((decide (0 ≤ cmpSt o.node o.tm)) || (!(decide (o.par = ({ T := 0, R := 0 } : Stamp)))))) ga_f _ (fun hA v37 hv38 => R_cmpS (a := o.name) (b := ByteArray.empty) (r := (!(decide (o.name = ByteArray.empty)))) (gv_t hA) rfl rfl ⟨rfl, Gr.refl _ _⟩) ?_
 refine Lx_q (i := 16) rfl rfl _ (fun v39 hv40 => R_pick (t := ((decide (0 ≤ cmpSt o.node o.tm)) || (!(decide (o.par = ({ T := 0, R := 0 } : Stamp)))))) (v := (.bool (((decide (0 ≤ cmpSt o.node o.tm)) || (!(decide (o.par = ({ T := 0, R := 0 } : Stamp))))) || (!(decide (o.name = ByteArray.empty)))))) rfl pk_or ⟨rfl, Gr.refl _ _⟩) ?_
 refine Lx_q (i := 17) rfl rfl _ (fun v41 hv42 => R_move (v := (.bool (((decide (0 ≤ cmpSt o.node o.tm)) || (!(decide (o.par = ({ T := 0, R := 0 } : Stamp))))) || (!(decide (o.name = ByteArray.empty)))))) rfl ⟨rfl, Gr.refl _ _⟩) ?_
 refine Lx_qg (i := 18) true (((decide (0 ≤ cmpSt o.node o.tm)) || (!(decide (o.par = ({ T := 0, R := 0 } : Stamp))))) || (!(decide (o.name = ByteArray.empty)))) rfl rfl rfl rfl rfl (!(((decide (0 ≤ cmpSt o.node o.tm)) || (!(decide (o.par = ({ T := 0, R := 0 } : Stamp))))) || (!(decide (o.name = ByteArray.empty))))) ga_f _ (fun hA v43 hv44 => R_fieldAddr (off := 8) (oo := 8) Try.underlying39 rfl rfl Try.sizeOf36 rfl rfl ⟨rfl, Gr.refl _ _⟩) ?_
 refine Lx_qg (i := 19) true (((decide (0 ≤ cmpSt o.node o.tm)) || (!(decide (o.par = ({ T := 0, R := 0 } : Stamp))))) || (!(decide (o.name = ByteArray.empty)))) rfl rfl rfl rfl rfl (!(((decide (0 ≤ cmpSt o.node o.tm)) || (!(decide (o.par = ({ T := 0, R := 0 } : Stamp))))) || (!(decide (o.name = ByteArray.empty))))) ga_f _ (fun hA v45 hv46 => R_loadA (cs := [(idCells o.data)]) Try.isAgg36 Try.sizeOf36 rfl (gv_t hA) ((boxR_at ((H6.ext hv46).getOwn 0 rfl)).chunks 8 1 8 8 _ rfl rfl rfl) ⟨rfl, Gr.refl _ _⟩) ?_
 refine Lx_qg (i := 20) true (((decide (0 ≤ cmpSt o.node o.tm)) || (!(decide (o.par = ({ T := 0, R := 0 } : Stamp))))) || (!(decide (o.name = ByteArray.empty)))) rfl rfl rfl rfl rfl (!(((decide (0 ≤ cmpSt o.node o.tm)) || (!(decide (o.par = ({ T := 0, R := 0 } : Stamp))))) || (!(decide (o.name = ByteArray.empty))))) ga_f _ (fun hA v47 hv48 => R_buildL (vs := []) (v := aggOf [(idCells zeroId)]) rfl (fun _ => by kernel_rfl) ⟨rfl, Gr.refl _ _⟩) ?_
 refine Lx_qg (i := 21) true (((decide (0 ≤ cmpSt o.node o.tm)) || (!(decide (o.par = ({ T := 0, R := 0 } : Stamp))))) || (!(decide (o.name = ByteArray.empty)))) rfl rfl rfl rfl rfl (!(((decide (0 ≤ cmpSt o.node o.tm)) || (!(decide (o.par = ({ T := 0, R := 0 } : Stamp))))) || (!(decide (o.name = ByteArray.empty))))) ga_f _ (fun hA v49 hv50 => R_eqv (a := o.data) (b := zeroId) eqv_ID36 rfl Try.eqGuardType36 (gv_t hA) (gv_t hA) ⟨rfl, Gr.refl _ _⟩) ?_
 refine Lx_q (i := 22) rfl rfl _ (fun v51 hv52 => R_pick (t := (((decide (0 ≤ cmpSt o.node o.tm)) || (!(decide (o.par = ({ T := 0, R := 0 } : Stamp))))) || (!(decide (o.name = ByteArray.empty))))) (v := (.bool ((((decide (0 ≤ cmpSt o.node o.tm)) || (!(decide (o.par = ({ T := 0, R := 0 } : Stamp))))) || (!(decide (o.name = ByteArray.empty)))) || (decide (o.data = zeroId))))) rfl pk_or ⟨rfl, Gr.refl _ _⟩) ?_
 refine Lx_q (i := 23) rfl rfl _ (fun v53 hv54 => R_move (v := (.bool ((((decide (0 ≤ cmpSt o.node o.tm)) || (!(decide (o.par = ({ T := 0, R := 0 } : Stamp))))) || (!(decide (o.name = ByteArray.empty)))) || (decide (o.data = zeroId))))) rfl ⟨rfl, Gr.refl _ _⟩) ?_
 refine Lx_qg (i := 24) true ((((decide (0 ≤ cmpSt o.node o.tm)) || (!(decide (o.par = ({ T := 0, R := 0 } : Stamp))))) || (!(decide (o.name = ByteArray.empty)))) || (decide (o.data = zeroId))) rfl rfl rfl rfl rfl (!((((decide (0 ≤ cmpSt o.node o.tm)) || (!(decide (o.par = ({ T := 0, R := 0 } : Stamp))))) || (!(decide (o.name = ByteArray.empty)))) || (decide (o.data = zeroId)))) ga_f _ (fun hA v55 hv56 => R_fieldAddr (off := 40) (oo := 40) Try.underlying39 rfl rfl Try.sizeOf37 rfl rfl ⟨rfl, Gr.refl _ _⟩) ?_
 refine Lx_qg (i := 25) true ((((decide (0 ≤ cmpSt o.node o.tm)) || (!(decide (o.par = ({ T := 0, R := 0 } : Stamp))))) || (!(decide (o.name = ByteArray.empty)))) || (decide (o.data = zeroId))) rfl rfl rfl rfl rfl (!((((decide (0 ≤ cmpSt o.node o.tm)) || (!(decide (o.par = ({ T := 0, R := 0 } : Stamp))))) || (!(decide (o.name = ByteArray.empty)))) || (decide (o.data = zeroId)))) ga_f _ (fun hA v57 hv58 => R_load1 (v := (slV o.oh o.over)) Try.isAgg37 (gv_t hA) ((boxR_at ((H6.ext hv58).getOwn 0 rfl)).chunks 9 1 40 40 _ rfl rfl rfl) ⟨rfl, Gr.refl _ _⟩) ?_
 refine Lx_qg (i := 26) true ((((decide (0 ≤ cmpSt o.node o.tm)) || (!(decide (o.par = ({ T := 0, R := 0 } : Stamp))))) || (!(decide (o.name = ByteArray.empty)))) || (decide (o.data = zeroId))) rfl rfl rfl rfl rfl (!((((decide (0 ≤ cmpSt o.node o.tm)) || (!(decide (o.par = ({ T := 0, R := 0 } : Stamp))))) || (!(decide (o.name = ByteArray.empty)))) || (decide (o.data = zeroId)))) ga_f _ (fun hA v59 hv60 => R_len_slice (a := o.oh.a) (n := o.over.length) (c := o.oh.c) Try.underlying37 (gv_t hA) ⟨rfl, Gr.refl _ _⟩) ?_
 refine Lx_qg (i := 27) true ((((decide (0 ≤ cmpSt o.node o.tm)) || (!(decide (o.par = ({ T := 0, R := 0 } : Stamp))))) || (!(decide (o.name = ByteArray.empty)))) || (decide (o.data = zeroId))) rfl rfl rfl rfl rfl (!((((decide (0 ≤ cmpSt o.node o.tm)) || (!(decide (o.par = ({ T := 0, R := 0 } : Stamp))))) || (!(decide (o.name = ByteArray.empty)))) || (decide (o.data = zeroId)))) ga_f _ (fun hA v61 hv62 => R_cmp (a := ((o.over.length : Nat) : Int)) (b := 64) (r := (decide (64 < ((o.over.length : Nat) : Int)))) (gv_t hA) rfl rfl ⟨rfl, Gr.refl _ _⟩) ?_
 refine Lx_q (i := 28) rfl rfl _ (fun v63 hv64 => R_pick (t := ((((decide (0 ≤ cmpSt o.node o.tm)) || (!(decide (o.par = ({ T := 0, R := 0 } : Stamp))))) || (!(decide (o.name = ByteArray.empty)))) || (decide (o.data = zeroId)))) (v := (.bool (((((decide (0 ≤ cmpSt o.node o.tm)) || (!(decide (o.par = ({ T := 0, R := 0 } : Stamp))))) || (!(decide (o.name = ByteArray.empty)))) || (decide (o.data = zeroId))) || (decide (64 < ((o.over.length : Nat) : Int)))))) rfl pk_or ⟨rfl, Gr.refl _ _⟩) ?_
 refine Lx_nil (fun w65 hw66 => ?_)
 have H67 := H6.ext hw66
 refine Then_n ?_
 refine W_cond (t := (((((decide (0 ≤ cmpSt o.node o.tm)) || (!(decide (o.par = ({ T := 0, R := 0 } : Stamp))))) || (!(decide (o.name = ByteArray.empty)))) || (decide (o.data = zeroId))) || (decide (64 < ((o.over.length : Nat) : Int))))) rfl (fun hc68 => ?_) (fun hc68 => ?_)
 ·have hc68 : (((((0 ≤ cmpSt o.node o.tm) ∨ ¬ (o.par = ({ T := 0, R := 0 } : Stamp))) ∨ ¬ (o.name = ByteArray.empty)) ∨ (o.data = zeroId)) ∨ (64 < ((o.over.length : Nat) : Int))) := (Or.imp (fun h => (Or.imp (fun h => (Or.imp (fun h => (Or.imp (fun h => (of_decide_eq_true h)) (fun h => (of_decide_eq_false (notT h))) (orT h))) (fun h => (of_decide_eq_false (notT h))) (orT h))) (fun h => (of_decide_eq_true h)) (orT h))) (fun h => (of_decide_eq_true h)) (orT hc68))
  refine W_seq (W_reg ?_)
  refine O_v rfl (R_assign (v := (.bool false)) rfl ?_)
  refine O_nil (Then_n (W_ret (Then_r ?_)))
  refine ret_1 (v := (.bool false)) Try.results76 rfl ?_
  exact ⟨(editOk_f1 (by assumption)), H67.gr⟩
 ·have hc68 : ((((¬ (0 ≤ cmpSt o.node o.tm) ∧ (o.par = ({ T := 0, R := 0 } : Stamp))) ∧ (o.name = ByteArray.empty)) ∧ ¬ (o.data = zeroId)) ∧ ¬ (64 < ((o.over.length : Nat) : Int))) := (And.imp (fun h => (And.imp (fun h => (And.imp (fun h => (And.imp (fun h => (of_decide_eq_false h)) (fun h => (of_decide_eq_true (notF h))) (orF h))) (fun h => (of_decide_eq_true (notF h))) (orF h))) (fun h => (of_decide_eq_false h)) (orF h))) (fun h => (of_decide_eq_false h)) (orF hc68))
  refine W_skip (Then_n (W_seq (W_seq (W_reg ?_))))
  refine O_v rfl (R_fieldAddr (off := 40) (oo := 40) Try.underlying39 rfl rfl Try.sizeOf37 rfl rfl ?_)
  refine O_v rfl (R_load1 (v := (slV o.oh o.over)) Try.isAgg37 rfl ((boxR_at (H67.getOwn 0 rfl)).chunks 9 1 40 40 _ rfl rfl rfl) ?_)
  refine O_v rfl (R_len_slice (a := o.oh.a) (n := o.over.length) (c := o.oh.c) Try.underlying37 rfl ?_)
  refine O_v rfl (R_move (v := (.int .i64 0)) rfl ?_)
  refine O_nil (Then_n (W_block ?_))
  refine W_loop (fun m69 e70 w71 => ∃ (k : Nat), m69 = o.over.length - k ∧ (k ≤ o.over.length) ∧ (∀ i, i < k → opOverAt o.tm o.over i) ∧ ∃ eb72, e70 = envL [(1, (.pointer (some ⟨b2, 0, none⟩))), (35, (slV o.oh o.over)), (36, (.int .i64 ((o.over.length : Nat) : Int))), (37, (.int .i64 ((k : Nat) : Int)))] eb72 ∧ Ctx w nob w71 [boxR b2 39 [[(.int .i64 o.kind)], [(.int .i64 o.tm.T)], [(.int .i64 o.tm.R)], [(.int .i64 o.node.T)], [(.int .i64 o.node.R)], [(.int .i64 o.par.T)], [(.int .i64 o.par.R)], [(.string o.name)], (idCells o.data), [(slV o.oh o.over)]]] [slI (Old w) stampCh 2 o.oh o.over]) _ ⟨0, rfl, (by omega), (all_zero _), _, envL_self ⟨rfl, rfl, rfl, rfl, trivial⟩, H67⟩ ?_
  rintro m69 _ w71 ⟨k, rfl, hk, hn, eb72, rfl, H73⟩
  refine W_seq (W_reg ?_)
  refine O_v rfl (R_cmp (a := ((k : Nat) : Int)) (b := ((o.over.length : Nat) : Int)) (r := (decide (((k : Nat) : Int) < ((o.over.length : Nat) : Int)))) rfl rfl rfl ?_)
  refine O_nil (Then_n (W_seq ?_))
  refine W_cond (t := (decide (((k : Nat) : Int) < ((o.over.length : Nat) : Int)))) rfl (fun hc74 => ?_) (fun hc74 => ?_)
  ·have hc74 : (((k : Nat) : Int) < ((o.over.length : Nat) : Int)) := (of_decide_eq_true hc74)
   refine W_skip (Then_n (W_seq (W_block (W_seq (W_reg ?_)))))
   refine O_v rfl (R_move (v := (.int .i64 ((k : Nat) : Int))) rfl ?_)
   refine O_v rfl (R_index_pure (H73.sl 0 rfl) (n := o.over.length) rfl (j := ((k : Nat) : Int)) (oo := (o.oh.o + k * 2)) Try.underlying37 Try.sizeOf24 rfl rfl (by omega) (by omega) rfl ?_)
   refine O_v rfl (R_loadA (cs := [[(.int .i64 ((nth o.over k).T))], [(.int .i64 ((nth o.over k).R))]]) Try.isAgg24 Try.sizeOf24 rfl rfl ((Sl.elem (H73.sl 0 rfl) (i := k) (by omega) rfl).chunks 0 2 0 (o.oh.o + k * 2) _ rfl rfl rfl) ?_)
   refine O_v rfl (C_alloc H73 [[(.int .i64 0)], [(.int .i64 0)]] Try.zeroValue24 ?_)
   intro b75 w76 hb77 hx78 H79
   refine O_v rfl (R_assign (v := (.int .i64 ((k : Nat) : Int))) rfl ?_)
   refine O_u (C_storeA H79 0 rfl 0 (sub := [[(.int .i64 ((nth o.over k).T))], [(.int .i64 ((nth o.over k).R))]]) [[(.int .i64 ((nth o.over k).T))], [(.int .i64 ((nth o.over k).R))]] Try.sizeOf24 rfl rfl rfl rfl ⟨[[(.int .i64 0)], [(.int .i64 0)]], [], rfl, rfl, rfl⟩ rfl ?_)
   intro w80 hg81 H82
   refine O_nil (Then_n (W_seq ?_))
   refine W_rgd TryMixed [(0, .q false), (1, .q false), (2, .q false), (3, .q false), (4, .q false), (5, .q false), (6, .q false), (7, .q false), (8, .q false), (9, .q false), (10, .q false), (11, .q false), (12, .q false), (13, .q false), (14, .q false), (15, .q false), (16, .q false), (17, .q false), (18, .q false), (19, .q false), (20, .q false), (21, .q false), (22, .q false), (23, .q false), (24, .q false)] (by kernel_rfl) ?_
   refine Lx_q (i := 0) rfl rfl _ (fun v83 hv84 => R_loadA (cs := [[(.int .i64 ((nth o.over k).T))], [(.int .i64 ((nth o.over k).R))]]) Try.isAgg24 Try.sizeOf24 rfl rfl ((boxR_at ((H82.ext hv84).getOwn 0 rfl)).chunks 0 2 0 0 _ rfl rfl rfl) ⟨rfl, Gr.refl _ _⟩) ?_
   refine Lx_q (i := 1) rfl rfl (.bool (stRight (nth o.over k))) (fun v85 hv86 => R_callL (vs := [(aggOf (stampCh (nth o.over k)))]) stamp_edit_c35 rfl rfl (stamp_Right (nth o.over k) v85 )) ?_
   refine Lx_q (i := 2) rfl rfl _ (fun v87 hv88 => R_not rfl ⟨rfl, Gr.refl _ _⟩) ?_
   refine Lx_q (i := 3) rfl rfl _ (fun v89 hv90 => R_move (v := (.bool (!(stRight (nth o.over k))))) rfl ⟨rfl, Gr.refl _ _⟩) ?_
   refine Lx_qg (i := 4) true (!(stRight (nth o.over k))) rfl rfl rfl rfl rfl (!(!(stRight (nth o.over k)))) ga_f _ (fun hA v91 hv92 => R_loadA (cs := [[(.int .i64 ((nth o.over k).T))], [(.int .i64 ((nth o.over k).R))]]) Try.isAgg24 Try.sizeOf24 rfl rfl ((boxR_at ((H82.ext hv92).getOwn 0 rfl)).chunks 0 2 0 0 _ rfl rfl rfl) ⟨rfl, Gr.refl _ _⟩) ?_
   refine Lx_qg (i := 5) true (!(stRight (nth o.over k))) rfl rfl rfl rfl rfl (!(!(stRight (nth o.over k)))) ga_f _ (fun hA v93 hv94 => R_fieldAddr (off := 1) (oo := 1) Try.underlying39 rfl rfl Try.sizeOf24 rfl rfl ⟨rfl, Gr.refl _ _⟩) ?_
   refine Lx_qg (i := 6) true (!(stRight (nth o.over k))) rfl rfl rfl rfl rfl (!(!(stRight (nth o.over k)))) ga_f _ (fun hA v95 hv96 => R_loadA (cs := [[(.int .i64 o.tm.T)], [(.int .i64 o.tm.R)]]) Try.isAgg24 Try.sizeOf24 rfl (gv_t hA) ((boxR_at ((H82.ext hv96).getOwn 1 rfl)).chunks 1 2 1 1 _ rfl rfl rfl) ⟨rfl, Gr.refl _ _⟩) ?_
   refine Lx_qg (i := 7) true (!(stRight (nth o.over k))) rfl rfl rfl rfl rfl (!(!(stRight (nth o.over k)))) ga_f (.int .i64 (cmpSt (nth o.over k) o.tm)) (fun hA v97 hv98 => R_callL (vs := [(aggOf (stampCh (nth o.over k))), (aggOf (stampCh o.tm))]) stamp_edit_c47 rfl (lst2 (gv_t hA) (gv_t hA)) (stamp_Cmp (nth o.over k) o.tm v97 )) ?_
   refine Lx_qg (i := 8) true (!(stRight (nth o.over k))) rfl rfl rfl rfl rfl (!(!(stRight (nth o.over k)))) ga_f _ (fun hA v99 hv100 => R_cmp (a := cmpSt (nth o.over k) o.tm) (b := 0) (r := (decide (0 ≤ cmpSt (nth o.over k) o.tm))) (gv_t hA) rfl rfl ⟨rfl, Gr.refl _ _⟩) ?_
   refine Lx_q (i := 9) rfl rfl _ (fun v101 hv102 => R_pick (t := (!(stRight (nth o.over k)))) (v := (.bool ((!(stRight (nth o.over k))) || (decide (0 ≤ cmpSt (nth o.over k) o.tm))))) rfl pk_or ⟨rfl, Gr.refl _ _⟩) ?_
   refine Lx_q (i := 10) rfl rfl _ (fun v103 hv104 => R_move (v := (.bool ((!(stRight (nth o.over k))) || (decide (0 ≤ cmpSt (nth o.over k) o.tm))))) rfl ⟨rfl, Gr.refl _ _⟩) ?_
   refine Lx_qg (i := 11) true ((!(stRight (nth o.over k))) || (decide (0 ≤ cmpSt (nth o.over k) o.tm))) rfl rfl rfl rfl rfl (!((!(stRight (nth o.over k))) || (decide (0 ≤ cmpSt (nth o.over k) o.tm)))) ga_f _ (fun hA v105 hv106 => R_move (v := (.int .i64 ((k : Nat) : Int))) rfl ⟨rfl, Gr.refl _ _⟩) ?_
   refine Lx_qg (i := 12) true ((!(stRight (nth o.over k))) || (decide (0 ≤ cmpSt (nth o.over k) o.tm))) rfl rfl rfl rfl rfl (!((!(stRight (nth o.over k))) || (decide (0 ≤ cmpSt (nth o.over k) o.tm)))) ga_f _ (fun hA v107 hv108 => R_cmp (a := ((k : Nat) : Int)) (b := 0) (r := (decide (0 < ((k : Nat) : Int)))) (gv_t hA) rfl rfl ⟨rfl, Gr.refl _ _⟩) ?_
   refine Lx_qg (i := 13) true ((!(stRight (nth o.over k))) || (decide (0 ≤ cmpSt (nth o.over k) o.tm))) rfl rfl rfl rfl rfl (!((!(stRight (nth o.over k))) || (decide (0 ≤ cmpSt (nth o.over k) o.tm)))) ga_f _ (fun hA v109 hv110 => R_move (v := (.bool (decide (0 < ((k : Nat) : Int))))) (gv_t hA) ⟨rfl, Gr.refl _ _⟩) ?_
   refine Lx_qg (i := 14) (!((!(stRight (nth o.over k))) || (decide (0 ≤ cmpSt (nth o.over k) o.tm)))) (decide (0 < ((k : Nat) : Int))) rfl rfl rfl rfl rfl ((!((!(stRight (nth o.over k))) || (decide (0 ≤ cmpSt (nth o.over k) o.tm)))) && (decide (0 < ((k : Nat) : Int)))) gb_t _ (fun hA v111 hv112 => R_fieldAddr (off := 40) (oo := 40) Try.underlying39 rfl rfl Try.sizeOf37 rfl rfl ⟨rfl, Gr.refl _ _⟩) ?_
   refine Lx_qg (i := 15) (!((!(stRight (nth o.over k))) || (decide (0 ≤ cmpSt (nth o.over k) o.tm)))) (decide (0 < ((k : Nat) : Int))) rfl rfl rfl rfl rfl ((!((!(stRight (nth o.over k))) || (decide (0 ≤ cmpSt (nth o.over k) o.tm)))) && (decide (0 < ((k : Nat) : Int)))) gb_t _ (fun hA v113 hv114 => R_load1 (v := (slV o.oh o.over)) Try.isAgg37 (gv_t hA) ((boxR_at ((H82.ext hv114).getOwn 1 rfl)).chunks 9 1 40 40 _ rfl rfl rfl) ⟨rfl, Gr.refl _ _⟩) ?_
   refine Lx_qg (i := 16) (!((!(stRight (nth o.over k))) || (decide (0 ≤ cmpSt (nth o.over k) o.tm)))) (decide (0 < ((k : Nat) : Int))) rfl rfl rfl rfl rfl ((!((!(stRight (nth o.over k))) || (decide (0 ≤ cmpSt (nth o.over k) o.tm)))) && (decide (0 < ((k : Nat) : Int)))) gb_t _ (fun hA v115 hv116 => R_move (v := (.int .i64 ((k : Nat) : Int))) rfl ⟨rfl, Gr.refl _ _⟩) ?_
   refine Lx_qg (i := 17) (!((!(stRight (nth o.over k))) || (decide (0 ≤ cmpSt (nth o.over k) o.tm)))) (decide (0 < ((k : Nat) : Int))) rfl rfl rfl rfl rfl ((!((!(stRight (nth o.over k))) || (decide (0 ≤ cmpSt (nth o.over k) o.tm)))) && (decide (0 < ((k : Nat) : Int)))) gb_t _ (fun hA v117 hv118 => by
          have hP : (((stRight (nth o.over k)) = true ∧ ¬ (0 ≤ cmpSt (nth o.over k) o.tm)) ∧ (0 < ((k : Nat) : Int))) := (And.imp (fun h => (And.imp (fun h => (notF h)) (fun h => (of_decide_eq_false h)) (orF (notT h)))) (fun h => (of_decide_eq_true h)) (andT hA))
          exact R_arith (a := ((k : Nat) : Int)) (b := 1) (r0 := ((k : Nat) : Int) - 1) (r := ((k - 1 : Nat) : Int)) (gv_t hA) rfl rfl (wrapP _ (by omega) (by omega)) ⟨rfl, Gr.refl _ _⟩) ?_
   refine Lx_qg (i := 18) (!((!(stRight (nth o.over k))) || (decide (0 ≤ cmpSt (nth o.over k) o.tm)))) (decide (0 < ((k : Nat) : Int))) rfl rfl rfl rfl rfl ((!((!(stRight (nth o.over k))) || (decide (0 ≤ cmpSt (nth o.over k) o.tm)))) && (decide (0 < ((k : Nat) : Int)))) gb_t _ (fun hA v119 hv120 => by
          have hP : (((stRight (nth o.over k)) = true ∧ ¬ (0 ≤ cmpSt (nth o.over k) o.tm)) ∧ (0 < ((k : Nat) : Int))) := (And.imp (fun h => (And.imp (fun h => (notF h)) (fun h => (of_decide_eq_false h)) (orF (notT h)))) (fun h => (of_decide_eq_true h)) (andT hA))
          exact R_index_pure (H82.sl 0 rfl) (n := o.over.length) rfl (j := ((k - 1 : Nat) : Int)) (oo := (o.oh.o + (k - 1) * 2)) Try.underlying37 Try.sizeOf24 (gv_t hA) (gv_t hA) (by omega) (by omega) rfl ⟨rfl, Gr.refl _ _⟩) ?_
   refine Lx_qg (i := 19) (!((!(stRight (nth o.over k))) || (decide (0 ≤ cmpSt (nth o.over k) o.tm)))) (decide (0 < ((k : Nat) : Int))) rfl rfl rfl rfl rfl ((!((!(stRight (nth o.over k))) || (decide (0 ≤ cmpSt (nth o.over k) o.tm)))) && (decide (0 < ((k : Nat) : Int)))) gb_t _ (fun hA v121 hv122 => by
          have hP : (((stRight (nth o.over k)) = true ∧ ¬ (0 ≤ cmpSt (nth o.over k) o.tm)) ∧ (0 < ((k : Nat) : Int))) := (And.imp (fun h => (And.imp (fun h => (notF h)) (fun h => (of_decide_eq_false h)) (orF (notT h)))) (fun h => (of_decide_eq_true h)) (andT hA))
          exact R_loadA (cs := [[(.int .i64 ((nth o.over (k - 1)).T))], [(.int .i64 ((nth o.over (k - 1)).R))]]) Try.isAgg24 Try.sizeOf24 rfl (gv_t hA) ((Sl.elem ((H82.ext hv122).sl 0 rfl) (i := (k - 1)) (by omega) rfl).chunks 0 2 0 (o.oh.o + (k - 1) * 2) _ rfl rfl rfl) ⟨rfl, Gr.refl _ _⟩) ?_
   refine Lx_qg (i := 20) (!((!(stRight (nth o.over k))) || (decide (0 ≤ cmpSt (nth o.over k) o.tm)))) (decide (0 < ((k : Nat) : Int))) rfl rfl rfl rfl rfl ((!((!(stRight (nth o.over k))) || (decide (0 ≤ cmpSt (nth o.over k) o.tm)))) && (decide (0 < ((k : Nat) : Int)))) gb_t _ (fun hA v123 hv124 => R_loadA (cs := [[(.int .i64 ((nth o.over k).T))], [(.int .i64 ((nth o.over k).R))]]) Try.isAgg24 Try.sizeOf24 rfl rfl ((boxR_at ((H82.ext hv124).getOwn 0 rfl)).chunks 0 2 0 0 _ rfl rfl rfl) ⟨rfl, Gr.refl _ _⟩) ?_
   refine Lx_qg (i := 21) (!((!(stRight (nth o.over k))) || (decide (0 ≤ cmpSt (nth o.over k) o.tm)))) (decide (0 < ((k : Nat) : Int))) rfl rfl rfl rfl rfl ((!((!(stRight (nth o.over k))) || (decide (0 ≤ cmpSt (nth o.over k) o.tm)))) && (decide (0 < ((k : Nat) : Int)))) gb_t (.int .i64 (cmpSt (nth o.over (k - 1)) (nth o.over k))) (fun hA v125 hv126 => R_callL (vs := [(aggOf (stampCh (nth o.over (k - 1)))), (aggOf (stampCh (nth o.over k)))]) stamp_edit_c47 rfl (lst2 (gv_t hA) (gv_t hA)) (stamp_Cmp (nth o.over (k - 1)) (nth o.over k) v125 )) ?_
   refine Lx_qg (i := 22) (!((!(stRight (nth o.over k))) || (decide (0 ≤ cmpSt (nth o.over k) o.tm)))) (decide (0 < ((k : Nat) : Int))) rfl rfl rfl rfl rfl ((!((!(stRight (nth o.over k))) || (decide (0 ≤ cmpSt (nth o.over k) o.tm)))) && (decide (0 < ((k : Nat) : Int)))) gb_t _ (fun hA v127 hv128 => R_cmp (a := cmpSt (nth o.over (k - 1)) (nth o.over k)) (b := 0) (r := (decide (0 ≤ cmpSt (nth o.over (k - 1)) (nth o.over k)))) (gv_t hA) rfl rfl ⟨rfl, Gr.refl _ _⟩) ?_
   refine Lx_qg (i := 23) true ((!(stRight (nth o.over k))) || (decide (0 ≤ cmpSt (nth o.over k) o.tm))) rfl rfl rfl rfl rfl (!((!(stRight (nth o.over k))) || (decide (0 ≤ cmpSt (nth o.over k) o.tm)))) ga_f _ (fun hA v129 hv130 => R_pick (t := (decide (0 < ((k : Nat) : Int)))) (v := (.bool ((decide (0 < ((k : Nat) : Int))) && (decide (0 ≤ cmpSt (nth o.over (k - 1)) (nth o.over k)))))) (gv_t hA) (pk_andA hA) ⟨rfl, Gr.refl _ _⟩) ?_
   refine Lx_q (i := 24) rfl rfl _ (fun v131 hv132 => R_pick (t := ((!(stRight (nth o.over k))) || (decide (0 ≤ cmpSt (nth o.over k) o.tm)))) (v := (.bool (((!(stRight (nth o.over k))) || (decide (0 ≤ cmpSt (nth o.over k) o.tm))) || ((decide (0 < ((k : Nat) : Int))) && (decide (0 ≤ cmpSt (nth o.over (k - 1)) (nth o.over k))))))) rfl pk_or ⟨rfl, Gr.refl _ _⟩) ?_
   refine Lx_nil (fun w133 hw134 => ?_)
   have H135 := H82.ext hw134
   refine Then_n ?_
   refine W_cond (t := (((!(stRight (nth o.over k))) || (decide (0 ≤ cmpSt (nth o.over k) o.tm))) || ((decide (0 < ((k : Nat) : Int))) && (decide (0 ≤ cmpSt (nth o.over (k - 1)) (nth o.over k)))))) rfl (fun hc136 => ?_) (fun hc136 => ?_)
   ·have hc136 : (((stRight (nth o.over k)) = false ∨ (0 ≤ cmpSt (nth o.over k) o.tm)) ∨ ((0 < ((k : Nat) : Int)) ∧ (0 ≤ cmpSt (nth o.over (k - 1)) (nth o.over k)))) := (Or.imp (fun h => (Or.imp (fun h => (notT h)) (fun h => (of_decide_eq_true h)) (orT h))) (fun h => (And.imp (fun h => (of_decide_eq_true h)) (fun h => (of_decide_eq_true h)) (andT h))) (orT hc136))
    refine W_seq (W_reg ?_)
    refine O_v rfl (R_assign (v := (.bool false)) rfl ?_)
    refine O_nil (Then_n (W_ret (Blk_r (Then_r (Then_r (Blk_r (Then_r ?_)))))))
    refine ret_1 (v := (.bool false)) Try.results76 rfl ?_
    exact ⟨(editOk_f2 (k := k) (by omega) (by assumption)), H135.gr⟩
   ·have hc136 : (((stRight (nth o.over k)) = true ∧ ¬ (0 ≤ cmpSt (nth o.over k) o.tm)) ∧ (¬ (0 < ((k : Nat) : Int)) ∨ ¬ (0 ≤ cmpSt (nth o.over (k - 1)) (nth o.over k)))) := (And.imp (fun h => (And.imp (fun h => (notF h)) (fun h => (of_decide_eq_false h)) (orF h))) (fun h => (Or.imp (fun h => (of_decide_eq_false h)) (fun h => (of_decide_eq_false h)) (andF h))) (orF hc136))
    refine W_skip (Blk_n (Then_n (W_reg ?_)))
    refine O_v rfl (R_arith (a := ((k : Nat) : Int)) (b := 1) (r0 := ((k : Nat) : Int) + 1) (r := ((k + 1 : Nat) : Int)) rfl rfl rfl (wrapN _ (by omega)) ?_)
    refine O_v rfl (R_move (v := (.int .i64 ((k + 1 : Nat) : Int))) rfl ?_)
    refine O_nil (Then_n ?_)
    have H137 := H135.sub (B' := [boxR b2 39 [[(.int .i64 o.kind)], [(.int .i64 o.tm.T)], [(.int .i64 o.tm.R)], [(.int .i64 o.node.T)], [(.int .i64 o.node.R)], [(.int .i64 o.par.T)], [(.int .i64 o.par.R)], [(.string o.name)], (idCells o.data), [(slV o.oh o.over)]]]) (I' := [slI (Old w) stampCh 2 o.oh o.over]) (List.Sublist.cons _ (List.Sublist.cons_cons _ List.Sublist.slnil)) (List.forall_mem_cons.2 ⟨List.mem_of_getElem? (i := 0) rfl, fun _ h => (nomatch h)⟩)
    refine ⟨_, ?_, (k + 1), rfl, (by omega), (all_succ hn (overAt_t (by assumption))), _, envL_self ⟨rfl, rfl, rfl, rfl, trivial⟩, H137⟩
    omega
  ·have hc74 : ¬ (((k : Nat) : Int) < ((o.over.length : Nat) : Int)) := (of_decide_eq_false hc74)
   refine W_exit (Then_x (Then_x (Blk_x (Then_n (W_seq (W_reg ?_))))))
   refine O_v rfl (R_assign (v := (.bool true)) rfl ?_)
   refine O_nil (Then_n (W_ret ?_))
   refine ret_1 (v := (.bool true)) Try.results76 rfl ?_
   exact ⟨(editOk_t (by assumption) (by rwa [show o.over.length = k from by omega])), H73.gr⟩

end Go.Proofs.Ytiknfldhommmpaa
/- strings.IndexAny and IndexRune at texts of any bytes (over the kit's bodies). -/
namespace Go.Proofs.Ytiknfldhommmpaa
set_option linter.unusedVariables false
set_option linter.unusedSimpArgs false
open Go Go.Shelf Go.RowKit Go.Lib Go.Proofs
variable {P : Program} {ρ : Ren}
set_option maxHeartbeats 2000000 in
set_option maxRecDepth 1000000 in
theorem validRune_any (L : Lays.n152 P ρ) (r : Int) (w : World) : Calls P (ρ.f 119) #[.int .i32 r] w fun e w' => e = .returned (.bool (validRune r)) ∧ w' = w := by
  have t4 := L.t4; have a4 := L.a4; have z4 := L.z4; have v4 := L.v4
  have t21 := L.t21; have a21 := L.a21; have z21 := L.z21; have v21 := L.v21
  by_cases h1 : 0 ≤ r <;> by_cases h2 : r < 55296 <;> by_cases h3 : 57343 < r <;> by_cases h4 : r ≤ 1114111
  all_goals (go_enter L.f119, Body.n119_ntmps ρ; go_wp2; go_ret; exact ⟨by simp [validRune, h1, h2, h3, h4] <;> omega, rfl⟩)
set_option maxHeartbeats 4000000 in
set_option maxRecDepth 1000000 in
theorem indexRune_bad (L : Lays.n152 P ρ) (s : ByteArray) (r : Int) (w : World) (h0 : 128 ≤ r) (h65 : ¬ r = 65533) (hv : validRune r = false) :
    Calls P (ρ.f 152) #[.string s, .int .i32 r] w fun e w' => e = .returned (.int .i64 (-1)) ∧ w' = w := by
  have t3 := L.t3; have a3 := L.a3; have z3 := L.z3; have v3 := L.v3
  have t4 := L.t4; have a4 := L.a4; have z4 := L.z4; have v4 := L.v4
  have t5 := L.t5; have a5 := L.a5; have z5 := L.z5; have v5 := L.v5
  have t9 := L.t9; have a9 := L.a9; have z9 := L.z9; have v9 := L.v9
  have t21 := L.t21; have a21 := L.a21; have z21 := L.z21; have v21 := L.v21
  have e119 : ∀ args w, (callFunc (ρ.f 119) args).run P w = .ok (.enter (ρ.f 119) args) w := enters_of L.f119 (by kernel_rfl) rfl
  have h1 : (0 : Int) ≤ r := by omega
  have h2 : ¬ r < 128 := by omega
  have h65 : (r == 65533) = false := beq_eq_false_iff_ne.2 h65
  go_enter L.f152, Body.n152_ntmps ρ
  go_wp2_with (go_at_fn (ρ.f 119); refine (validRune_any L _ _).mono ?_; rintro e w' ⟨rfl, hw⟩; rw [hw, hv])
  go_ret
  exact ⟨rfl, rfl⟩
set_option maxHeartbeats 8000000 in
set_option maxRecDepth 1000000 in
theorem indexRune_err (L : Lays.n152 P ρ) (s : ByteArray) (w : World) (hs : ∀ (j : Nat) b, s.data.toList[j]? = some b → b.toNat < 128) :
    Calls P (ρ.f 152) #[.string s, .int .i32 65533] w fun e w' => e = .returned (.int .i64 (-1)) ∧ ∃ pos, w' = w.iter s pos := by
  have HA : Aside (∀ (j : Nat) b, s.data.toList[j]? = some b → b.toNat < 128) := hs
  clear hs
  have t3 := L.t3; have a3 := L.a3; have z3 := L.z3; have v3 := L.v3
  have t4 := L.t4; have a4 := L.a4; have z4 := L.z4; have v4 := L.v4
  have t5 := L.t5; have a5 := L.a5; have z5 := L.z5; have v5 := L.v5
  have t9 := L.t9; have a9 := L.a9; have z9 := L.z9; have v9 := L.v9
  have t21 := L.t21; have a21 := L.a21; have z21 := L.z21; have v21 := L.v21
  go_enter L.f152, Body.n152_ntmps ρ
  go_wp2
  go_loopg [5, 6] s.size (fun g _ _ wx => ∃ i : Nat, i + g = s.size ∧ wx = w.iter s i)
  case atStart => exact ⟨0, by omega, rfl⟩
  case round =>
    obtain ⟨i, hig, rfl⟩ := hrel
    cases gk with
    | zero =>
      obtain rfl : i = s.size := by omega
      have hnx := run_next_end (P := P) w s s.size
      go_wp2
      go_ret
      exact ⟨rfl, _, rfl⟩
    | succ g =>
      have hi : i < s.size := by omega
      obtain ⟨x, hx⟩ : ∃ x : UInt8, s[i]'hi = x := ⟨_, rfl⟩
      have hxl : s.data.toList[i]? = some x := by rw [← hx]; exact Lib.data_getElem? s i hi
      have hx128 : x.toNat < 128 := HA.out i x hxl
      have hnx := fun ty => run_next_ascii (P := P) w s i ty hi (by rw [hx]; exact hx128)
      rw [hx] at hnx
      have hne : ((x.toNat : Int) == 65533) = false := beq_eq_false_iff_ne.2 (by omega)
      clear hxl hx
      go_wp2
      go_roundg g
      case measure => omega
      case rel => exact ⟨i + 1, by omega, rfl⟩
theorem indexByte_high {l : List UInt8} {c : UInt8} (hs : ∀ b ∈ l, b.toNat < 128) (hc : 128 ≤ c.toNat) : Lib.indexByte l c = -1 := by
  induction l with
  | nil => rfl
  | cons b l ih =>
    have hb := hs b (List.mem_cons_self ..)
    have hne : (b == c) = false := beq_eq_false_iff_ne.2 (fun e => by rw [e] at hb; omega)
    unfold Lib.indexByte
    rw [hne, ih (fun x hx => hs x (List.mem_cons_of_mem _ hx))]
    rfl
set_option maxHeartbeats 8000000 in
set_option maxRecDepth 1000000 in
theorem indexRune_valid (L : Lays.n152 P ρ) (s : ByteArray) (r : Int) (w : World) (hs : ∀ b ∈ s.data.toList, b.toNat < 128) (hsz : s.size < 4294967281) (h0 : 128 ≤ r) (hr : r ≤ 1114111) (h65 : ¬ r = 65533) (hv : validRune r = true) :
    Calls P (ρ.f 152) #[.string s, .int .i32 r] w fun e w' => e = .returned (.int .i64 (-1)) ∧ ∃ n, w' = w.drewN n := by
  have t3 := L.t3; have a3 := L.a3; have z3 := L.z3; have v3 := L.v3
  have t4 := L.t4; have a4 := L.a4; have z4 := L.z4; have v4 := L.v4
  have t5 := L.t5; have a5 := L.a5; have z5 := L.z5; have v5 := L.v5
  have t9 := L.t9; have a9 := L.a9; have z9 := L.z9; have v9 := L.v9
  have t21 := L.t21; have a21 := L.a21; have z21 := L.z21; have v21 := L.v21
  have e119 : ∀ args w, (callFunc (ρ.f 119) args).run P w = .ok (.enter (ρ.f 119) args) w := enters_of L.f119 (by kernel_rfl) rfl
  have h1 : (0 : Int) ≤ r := by omega
  have h2 : ¬ r < 128 := by omega
  have h65 : (r == 65533) = false := beq_eq_false_iff_ne.2 h65
  obtain ⟨f1, f2, f3⟩ := encode_facts r (by rw [validRune_eq]; exact hv) h0
  go_enter L.f152, Body.n152_ntmps ρ
  go_wp2_with (go_at_fn (ρ.f 119); refine (validRune_any L _ _).mono ?_; rintro e w' ⟨rfl, hw⟩; rw [hw, hv])
  have hlen : ((Utf8.encode r).size : Int) - 1 = (((Utf8.encode r).size - 1 : Nat) : Int) := by omega
  refine wp_scope_straight ?_
  go_wp2
  go_loopg [9] 0 (fun g s9 wx => s9 = .int .i64 (((Utf8.encode r).size - 1 : Nat) : Int) ∧ wx = w)
  case atStart => exact ⟨rfl, rfl⟩
  case round =>
    obtain ⟨rfl, rfl⟩ := hrel
    by_cases hlt : (Utf8.encode r).size - 1 < s.size
    · have mixed := L.mixed
      have e137 : ∀ args w, (callFunc (ρ.f 137) args).run P w = .ok (.enter (ρ.f 137) args) w := enters_of L.f137 (by kernel_rfl) rfl
      have hly : (Utf8.encode r).size - 1 < (Utf8.encode r).size := by omega
      obtain ⟨x, hx⟩ : ∃ x : UInt8, s[(Utf8.encode r).size - 1]'hlt = x := ⟨_, rfl⟩
      obtain ⟨y, hy⟩ : ∃ y : UInt8, (Utf8.encode r)[(Utf8.encode r).size - 1]'hly = y := ⟨_, rfl⟩
      have hy128 : 128 ≤ y.toNat := by rw [← hy]; exact f3 hly
      have hx128 : x.toNat < 128 := hs x (by rw [← hx]; exact Array.getElem_mem_toList (xs := s.data) hlt)
      have hne : ((x.toNat : Int) == (y.toNat : Int)) = false := beq_eq_false_iff_ne.2 (by omega)
      have hback : ((y.toNat : Int)).toNat.toUInt8 = y := by simp
      have hib : ∀ a b, Lib.indexByte (s.extract a b).data.toList y = -1 := fun a b => indexByte_high (fun c hc => hs c (mem_extract hc)) hy128
      clear f3
      go_wp2
      refine wp_scope_straight ?_
      have hxo : ∀ h, s[(Utf8.encode r).size - 1]'h = x := fun _ => hx
      have hyo : ∀ h, (Utf8.encode r)[(Utf8.encode r).size - 1]'h = y := fun _ => hy
      go_wp2
      go_quiet_o (fail)
      go_wp2
      clear hxo hyo hx f1 f2
      generalize hk : (Utf8.encode r).size - 1 = k at *
      generalize hR : Utf8.encode r = R at *
      have hb0 : (0 : Int) ≤ (k : Int) + 1 := by omega
      have hb1 : (k : Int) + 1 ≤ (s.size : Int) := by omega
      have hbb : (0 : Int) ≤ (k : Int) + 1 ∧ (k : Int) + 1 ≤ (s.size : Int) := ⟨hb0, hb1⟩
      have hw0 : wrap64 ((k : Int) + 1) = (k : Int) + 1 := IntWalk.wrap64_in _ (by omega)
      have hw1 : IntKind.i64.wrap ((k : Int) + 1) = (k : Int) + 1 := IntWalk.i64_in _ (by omega)
      go_region_with_o (first | (go_at_fn (ρ.f 137); refine (Any.strings_IndexByte { L with } _ _ _).mono ?_; rintro e w' ⟨rfl, hw⟩; rw [hw, hback, hib]))
      go_wp2
      simp only [Exit.noGoto_ret, Exit.noGoto, Exit.inBlock, Exit.then]
      go_ret
      exact ⟨rfl, _, rfl⟩
    · go_wp2
      rw [Exit.noGoto_ret]
      go_ret
      exact ⟨rfl, 0, rfl⟩
theorem below_iter (w : World) (s : ByteArray) (pos : Nat) : Below w.heap.size w (w.iter s pos) := (Below.refl _ _).alloc (Nat.le_refl _) _
theorem below_drewN (w : World) (n : Nat) : Below w.heap.size w (w.drewN n) := ⟨rfl, rfl, rfl, Nat.le_refl _, fun _ _ => rfl⟩
theorem data_lt {s : ByteArray} (hs : ∀ b ∈ s.data.toList, b.toNat < 128) : ∀ (j : Nat) b, s.data.toList[j]? = some b → b.toNat < 128 := fun j b h => hs b (List.mem_of_getElem? h)
theorem indexRune_any (L : Lays.n152 P ρ) (s : ByteArray) (r : Nat) (w : World) (hs : ∀ b ∈ s.data.toList, b.toNat < 128) (hsz : s.size < 4294967281) (hr : r ≤ 2147483647) :
    Calls P (ρ.f 152) #[.string s, .int .i32 (r : Int)] w fun e w' => e = .returned (.int .i64 (if r < 128 then Lib.indexByte s.data.toList r.toUInt8 else -1)) ∧ Below w.heap.size w w' := by
  by_cases h : r < 128
  · rw [if_pos h]
    refine (Any.strings_IndexRune_ascii { L with } s (r : Int) w (by omega) (by omega)).mono ?_
    rintro e w' ⟨rfl, rfl⟩
    exact ⟨by simp, Below.refl _ _⟩
  · rw [if_neg h]
    by_cases h1 : (r : Int) = 65533
    · rw [h1]
      refine (indexRune_err L s w (data_lt hs)).mono ?_
      rintro e w' ⟨rfl, pos, rfl⟩
      exact ⟨rfl, below_iter w s pos⟩
    · cases hv : validRune (r : Int) with
      | false =>
        refine (indexRune_bad L s (r : Int) w (by omega) h1 hv).mono ?_
        rintro e w' ⟨rfl, rfl⟩
        exact ⟨rfl, Below.refl _ _⟩
      | true =>
        have hle : (r : Int) ≤ 1114111 := by
          unfold validRune at hv
          have := of_decide_eq_true hv
          omega
        refine (indexRune_valid L s (r : Int) w hs hsz (by omega) hle h1 hv).mono ?_
        rintro e w' ⟨rfl, n, rfl⟩
        exact ⟨rfl, below_drewN w n⟩
/-- The bytes behind a rune's first one are no ASCII bytes. -/
theorem decode_cont (s : ByteArray) (pos : Nat) (h : pos < s.size) : ∀ j, pos < j → j < pos + (Utf8.decode s pos).2 → j < s.size ∧ 128 ≤ (s.get! j).toNat := by
  intro j h1 h2
  unfold Utf8.decode at h2
  simp only at h2
  have key : ∀ k, (decide (pos + k < s.size) && (s.get! (pos + k)).toNat / 64 == 2) = true → j = pos + k → j < s.size ∧ 128 ≤ (s.get! j).toNat := by
    intro k hk e
    subst e
    simp only [Bool.and_eq_true, decide_eq_true_eq, beq_iff_eq] at hk
    exact ⟨hk.1, by omega⟩
  repeat' split at h2
  all_goals try simp only [Bool.and_eq_true] at *
  all_goals try dsimp only at h2
  all_goals first
    | omega
    | (have e : j = pos + 1 := by omega
       refine key 1 ?_ e
       simp_all; done)
    | (have e : j = pos + 1 ∨ j = pos + 2 := by omega
       refine e.elim (key 1 ?_) (key 2 ?_) <;> (simp_all; done))
    | (have e : j = pos + 1 ∨ j = pos + 2 ∨ j = pos + 3 := by omega
       refine e.elim (key 1 ?_) (fun e => e.elim (key 2 ?_) (key 3 ?_)) <;> (simp_all; done))
theorem get_data (s : ByteArray) {j : Nat} (h : j < s.size) : s.data.toList[j]? = some (s.get! j) := by
  rw [Lib.data_getElem? s j h]
  have := get_at s j h
  rw [Nat.add_zero] at this
  rw [this]
theorem noAny_rune {s chars : ByteArray} {i : Nat} (h : Lib.NoAny s.data.toList chars.data.toList i) (hc : ∀ b ∈ chars.data.toList, b.toNat < 128) (hi : i < s.size) (hx : 128 ≤ (s.get! i).toNat) : Lib.NoAny s.data.toList chars.data.toList (i + (Utf8.decode s i).2) := by
  intro j b hj hb
  by_cases h1 : j < i
  · exact h j b h1 hb
  · have hb128 : 128 ≤ b.toNat := by
      by_cases h2 : j = i
      · subst h2
        rw [get_data s hi] at hb
        rw [← Option.some.inj hb]; exact hx
      · obtain ⟨h3, h4⟩ := decode_cont s i hi j (by omega) hj
        rw [get_data s h3] at hb
        rw [← Option.some.inj hb]; exact h4
    cases hcon : chars.data.toList.contains b with
    | false => rfl
    | true =>
      have := hc b (by simpa using hcon)
      omega
set_option maxHeartbeats 8000000 in
set_option maxRecDepth 1000000 in
/-- s of at most 8 bytes, whatever they are. -/
theorem indexAny_short (L : Lays.n153 P ρ) (s chars : ByteArray) (w : World) (h2 : 2 ≤ chars.size) (hcsz : chars.size < 4294967281) (h8 : s.size ≤ 8) (hc : ∀ b ∈ chars.data.toList, b.toNat < 128) :
    Calls P (ρ.f 153) #[.string s, .string chars] w fun e w' => e = .returned (.int .i64 (Lib.indexAny s.data.toList chars.data.toList)) ∧ Below w.heap.size w w' := by
  have HC : Aside (∀ b ∈ chars.data.toList, b.toNat < 128) := hc
  clear hc
  have hemp : chars.toList.isEmpty = false := by
    rw [Lib.toList_data]
    cases h : chars.data.toList with
    | nil => have := Lib.size_eq chars; rw [h, List.length_nil] at this; omega
    | cons _ _ => rfl
  have hn1 : ((chars.size : Int) == 1) = false := beq_eq_false_iff_ne.2 (by omega)
  have h8z : decide ((8 : Int) < (s.size : Int)) = false := decide_eq_false (by omega)
  have t3 := L.t3; have a3 := L.a3; have z3 := L.z3; have v3 := L.v3
  have t4 := L.t4; have a4 := L.a4; have z4 := L.z4; have v4 := L.v4
  have t5 := L.t5; have a5 := L.a5; have z5 := L.z5; have v5 := L.v5
  have t9 := L.t9; have a9 := L.a9; have z9 := L.z9; have v9 := L.v9
  have t21 := L.t21; have a21 := L.a21; have z21 := L.z21; have v21 := L.v21
  have e152 : ∀ args w, (callFunc (ρ.f 152) args).run P w = .ok (.enter (ρ.f 152) args) w := enters_of L.f152 (by kernel_rfl) rfl
  have e226 : ∀ args w, (callFunc (ρ.f 226) args).run P w = .ok (.enter (ρ.f 226) args) w := enters_of L.f226 (by kernel_rfl) rfl
  go_enter L.f153, Body.n153_ntmps ρ
  go_wp2_with (go_at_fn (ρ.f 226); refine (Any.strings_shouldUseASCIISet { L with } _ _).mono ?_; rintro e w' ⟨rfl, hw⟩; rw [hw, h8z])
  go_loopg [9, 10] s.size (fun g _ _ wx => ∃ i : Nat, i ≤ s.size ∧ i + g = s.size ∧ wx.heap[w.heap.size]? = some (.stringIter s i) ∧ Below w.heap.size w wx ∧ Lib.NoAny s.data.toList chars.data.toList i)
  case atStart => exact ⟨0, by omega, by omega, World.iter_heap w s 0, below_iter w s 0, Lib.NoAny.zero _ _⟩
  case round =>
    obtain ⟨i, hil, hig, hit, hbel, hno⟩ := hrel
    have HN : Aside (Lib.NoAny s.data.toList chars.data.toList i) := hno
    have HB : Aside (Below w.heap.size w wr) := hbel
    clear hno hbel
    by_cases hi : i < s.size
    · by_cases ha : (s[i]'hi).toNat < 128
      · obtain ⟨x, hx⟩ : ∃ x : UInt8, s[i]'hi = x := ⟨_, rfl⟩
        have hxl : s.data.toList[i]? = some x := by rw [← hx]; exact Lib.data_getElem? s i hi
        have hnx := fun ty => run_next_ascii_at (P := P) wr w.heap.size s i ty hit hi ha
        rw [hx] at hnx ha
        have Hx : Aside (s.data.toList[i]? = some x) := hxl
        clear hxl hx
        have HB2 : Aside (Below w.heap.size w (wr.iterAt w.heap.size s (i + 1))) := below_iterAt HB.out (Nat.le_refl _) s (i + 1)
        have HI2 : Aside ((wr.iterAt w.heap.size s (i + 1)).heap[w.heap.size]? = some (.stringIter s (i + 1))) := iterAt_heap wr w.heap.size s i (i + 1) hit
        have hcon := Lib.contains_iff_indexByte chars.data.toList x
        have hback : ((x.toNat : Int)).toNat.toUInt8 = x := by simp
        clear hit
        cases hin : chars.data.toList.contains x
        · rw [hin] at hcon
          have hlt : ¬ ((0 : Int) ≤ Lib.indexByte chars.data.toList x) := of_decide_eq_false hcon.symm
          clear hcon
          go_wp2_with (go_at_fn (ρ.f 152); refine (Any.strings_IndexRune_ascii { L with } _ _ _ (by omega) (by omega)).mono ?_; rintro e w' ⟨rfl, hw⟩; rw [hw, hback])
          go_roundg (s.size - (i + 1))
          case measure => omega
          case rel => exact ⟨i + 1, by omega, by omega, HI2.out, HB2.out, HN.out.succ Hx.out hin⟩
        · rw [hin] at hcon
          have hge : (0 : Int) ≤ Lib.indexByte chars.data.toList x := of_decide_eq_true hcon.symm
          clear hcon
          go_wp2_with (go_at_fn (ρ.f 152); refine (Any.strings_IndexRune_ascii { L with } _ _ _ (by omega) (by omega)).mono ?_; rintro e w' ⟨rfl, hw⟩; rw [hw, hback])
          go_ret
          exact ⟨by rw [Lib.indexAny_hit HN.out Hx.out hin]; rfl, HB2.out⟩
      · have hnx := fun ty => run_next_any_at (P := P) wr w.heap.size s i ty hit hi
        obtain ⟨d1, d2⟩ := decode_high s i hi (by omega)
        have d3 := decode_le s i
        have hxx : 128 ≤ (s.get! i).toNat := by
          have := get_at s i hi
          rw [Nat.add_zero] at this
          rw [this]; omega
        have HN2 : Aside (Lib.NoAny s.data.toList chars.data.toList (i + (Utf8.decode s i).2)) := noAny_rune HN.out HC.out hi hxx
        have d4 : i + (Utf8.decode s i).2 ≤ s.size := by
          by_cases h1 : (Utf8.decode s i).2 = 1
          · omega
          · have := (decode_cont s i hi (i + (Utf8.decode s i).2 - 1) (by omega) (by omega)).1
            omega
        have HB2 : Aside (Below w.heap.size w (wr.iterAt w.heap.size s (i + (Utf8.decode s i).2))) := below_iterAt HB.out (Nat.le_refl _) s _
        have HI2 : Aside ((wr.iterAt w.heap.size s (i + (Utf8.decode s i).2)).heap[w.heap.size]? = some (.stringIter s (i + (Utf8.decode s i).2))) := iterAt_heap wr w.heap.size s i _ hit
        have hlt0 : w.heap.size < (wr.iterAt w.heap.size s (i + (Utf8.decode s i).2)).heap.size := by rw [iterAt_size]; exact (Array.getElem?_eq_some_iff.1 hit).1
        clear hit
        generalize (Utf8.decode s i).1 = r at *
        generalize (Utf8.decode s i).2 = wd at *
        generalize hWi : wr.iterAt w.heap.size s (i + wd) = W1 at *
        have hr128 : ¬ r < 128 := by omega
        have hm1 : ¬ ((0 : Int) ≤ -1) := by omega
        go_wp2_with (go_at_fn (ρ.f 152); refine (indexRune_any { L with } chars r _ HC.out hcsz d3).mono ?_; rintro e w' ⟨rfl, hw⟩; rw [if_neg hr128]; have HW : Aside (Below W1.heap.size W1 w') := hw; clear hw)
        go_roundg (s.size - (i + wd))
        case measure => omega
        case rel => exact ⟨i + wd, by omega, by omega, by rw [HW.out.block _ hlt0]; exact HI2.out, HB2.out.trans (HW.out.mono (by omega)), HN2.out⟩
    · obtain rfl : i = s.size := by omega
      have hnx := fun ty => run_next_end_at (P := P) wr w.heap.size s s.size ty hit hi
      go_wp2
      go_ret
      exact ⟨by rw [Lib.indexAny_none (by rw [← Lib.size_eq]; exact HN.out)]; rfl, HB.out⟩
end Go.Proofs.Ytiknfldhommmpaa
namespace Go.Proofs.Ytiknfldhommmpaa
open Go
set_option maxRecDepth 100000
set_option linter.unusedVariables false
set_option linter.unusedSimpArgs false
def laysC : Go.Shelf.Ren := ⟨fun | 153 => 91 | 152 => 92 | 226 => 93 | 227 => 94 | 228 => 95 | 137 => 96 | 119 => 97 | 224 => 98 | 225 => 99 | 217 => 100 | 266 => 101 | n => n, fun | 0 => 0 | 3 => 3 | 4 => 4 | 5 => 5 | 9 => 9 | 21 => 21 | 46 => 121 | 116 => 129 | 117 => 130 | 124 => 136 | n => n, fun | n => n⟩
theorem laysC153 : Go.Proofs.Lays.n153 Try.prog laysC := {
  mixed := by kernel_rfl
  f119 := Try.func97.trans (congrArg some (by kernel_rfl))
  f137 := Try.func96.trans (congrArg some (by kernel_rfl))
  f152 := Try.func92.trans (congrArg some (by kernel_rfl))
  f153 := Try.func91.trans (congrArg some (by kernel_rfl))
  f217 := Try.func100.trans (congrArg some (by kernel_rfl))
  f224 := Try.func98.trans (congrArg some (by kernel_rfl))
  f225 := Try.func99.trans (congrArg some (by kernel_rfl))
  f226 := Try.func93.trans (congrArg some (by kernel_rfl))
  f227 := Try.func94.trans (congrArg some (by kernel_rfl))
  f228 := Try.func95.trans (congrArg some (by kernel_rfl))
  f266 := Try.func101.trans (congrArg some (by kernel_rfl))
  t0 := Try.underlying0
  a0 := Try.isAgg0
  z0 := Try.sizeOf0
  v0 := Try.zeroValue0
  t3 := Try.underlying3
  a3 := Try.isAgg3
  z3 := Try.sizeOf3
  v3 := Try.zeroValue3
  t4 := Try.underlying4
  a4 := Try.isAgg4
  z4 := Try.sizeOf4
  v4 := Try.zeroValue4
  t5 := Try.underlying5
  a5 := Try.isAgg5
  z5 := Try.sizeOf5
  v5 := Try.zeroValue5
  t9 := Try.underlying9
  a9 := Try.isAgg9
  z9 := Try.sizeOf9
  v9 := Try.zeroValue9
  t21 := Try.underlying21
  a21 := Try.isAgg21
  z21 := Try.sizeOf21
  v21 := Try.zeroValue21
  t46 := Try.underlying121
  a46 := Try.isAgg121
  z46 := Try.sizeOf121
  v46 := Try.zeroValue121
  t116 := Try.underlying129
  a116 := Try.isAgg129
  z116 := Try.sizeOf129
  t117 := Try.underlying130
  a117 := Try.isAgg130
  z117 := Try.sizeOf130
  v117 := Try.zeroValue130
  t124 := Try.underlying136
  a124 := Try.isAgg136
  z124 := Try.sizeOf136
  v124 := Try.zeroValue136 }
theorem laysC116 : (Try.prog.info? (laysC.t 116)).map (fun i => (i.zero, i.size)) = some (some (.agg (Array.replicate 256 (.bool false))), 256) := by kernel_rfl

/-- strings.IndexAny at a few ASCII bytes, of a text that is long, or ASCII too. -/
theorem strings_IndexAny (s chars : ByteArray) (w : World) (h2 : 2 ≤ chars.size) (hcs : chars.size < 4294967281) (hs : s.size < 4294967281) (hac : ∀ (j : Nat) b, chars.data.toList[j]? = some b → b.toNat < 128) :
    Calls Try.prog 91 #[.string s, .string chars] w (Ret fun v w' => v = .int .i64 (Lib.indexAny s.data.toList chars.data.toList) ∧ Ext w w') := by
  by_cases h8 : 8 < s.size
  · refine (Any.strings_IndexAny_long laysC153 (zero_of_info laysC116).1 (zero_of_info laysC116).2 s chars w h2 h8 hs hcs hac).mono ?_
    rintro e w' ⟨rfl, hw⟩
    refine ⟨_, rfl, rfl, Ext.below ?_⟩
    rw [hw]
    exact ((RowKit.Below.refl _ _).alloc (Nat.le_refl _) _).alloc (by simp) _
  · refine (indexAny_short laysC153 s chars w h2 hcs (by omega) (fun b hb => ?_)).mono ?_
    · obtain ⟨j, hj, rfl⟩ := List.getElem_of_mem hb
      exact hac j _ (List.getElem?_eq_getElem hj)
    · rintro e w' ⟨rfl, hw⟩
      exact ⟨_, rfl, rfl, Ext.below hw⟩

end Go.Proofs.Ytiknfldhommmpaa
namespace Go.Proofs.Ytiknfldhommmpaa
open Go
set_option maxRecDepth 100000
set_option linter.unusedVariables false
set_option linter.unusedSimpArgs false
theorem strings_ContainsAny_c91 : callable Try.prog 91 = true := by kernel_rfl
set_option maxHeartbeats 1000000 in
theorem strings_ContainsAny (s : ByteArray) (chars : ByteArray) (w : World) (h2 : 2 ≤ chars.size) (hcs : chars.size < 4294967281) (hs : s.size < 4294967281) (hac : ∀ (j : Nat) b, chars.data.toList[j]? = some b → b.toNat < 128) :
    Calls Try.prog 90 #[(.string s), (.string chars)] w (Ret fun v w' => v = (.bool (Lib.containsAny s.data.toList chars.data.toList)) ∧ Ext w w') := by
 refine calls_W Try.func90 rfl Try.ntmps90 rfl ?_
 have H0 := Ctx.start w nob
 refine W_seq (W_reg ?_)
 refine O_v rfl (R_assign (v := (.bool false)) rfl ?_)
 refine O_nil (Then_n (W_seq (W_reg ?_)))
 refine O_v rfl (R_move (v := (.string s)) rfl ?_)
 refine O_v rfl (R_move (v := (.string chars)) rfl ?_)
 refine O_v rfl (R_callL (vs := [(.string s), (.string chars)]) strings_ContainsAny_c91 rfl rfl ((strings_IndexAny s chars w h2 hcs hs hac).ret ?_))
 rintro _ w1 ⟨rfl, hx2⟩
 have H3 := H0.ext hx2
 refine O_v rfl (R_cmp (a := Lib.indexAny s.data.toList chars.data.toList) (b := 0) (r := (decide (0 ≤ Lib.indexAny s.data.toList chars.data.toList))) rfl rfl rfl ?_)
 refine O_v rfl (R_assign (v := (.bool (decide (0 ≤ Lib.indexAny s.data.toList chars.data.toList)))) rfl ?_)
 refine O_nil (Then_n (W_ret ?_))
 refine ret_1 (v := (.bool (decide (0 ≤ Lib.indexAny s.data.toList chars.data.toList)))) Try.results90 rfl ?_
 exact ⟨rfl, H3.gr⟩

end Go.Proofs.Ytiknfldhommmpaa
