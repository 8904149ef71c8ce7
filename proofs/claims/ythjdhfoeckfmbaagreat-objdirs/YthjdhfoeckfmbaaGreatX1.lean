/- Proved: for every input, pollardlaw04.ObjDirs returns true and leaves its argument as it was. No condition. -/
import Derived.Test.YthjdhfoeckfmbaaGreatProg
import Derived.Test.YthjdhfoeckfmbaaGreatX0
/- Things behind a pointer: a variable and the row that hangs on it. -/
namespace Go.Proofs.YthjdhfoeckfmbaaGreat
open Go
set_option linter.unusedVariables false
set_option linter.unusedSimpArgs false
set_option linter.unusedSectionVars false
variable [DD]

section
variable {w0 w w' : World} {M M' : Nat → Prop} {B : List Own} {I : List Imm}

/-- The same things, from here on. -/
theorem Ctx.restart (H : Ctx w0 M w B I) (hM : ∀ o ∈ B, ∀ b, o.blk = some b → M' b) : Ctx w M' w B I :=
  ⟨Gr.refl _ _, fun o ho => ⟨(H.own o ho).1, fun b hb => ⟨((H.own o ho).2 b hb).1, fun _ => hM o ho b hb⟩⟩, H.imm, H.apart, H.off⟩

theorem Ctx.apart2 (H : Ctx w0 M w B I) {i j : Nat} (hij : i ≠ j) {o o' : Own} (hi : B[i]? = some o) (hj : B[j]? = some o') : ∀ b, o.blk = some b → o'.blk ≠ some b := by
  intro b hb hb'
  obtain ⟨li, ei⟩ := List.getElem?_eq_some_iff.1 hi
  obtain ⟨lj, ej⟩ := List.getElem?_eq_some_iff.1 hj
  have hp := List.pairwise_iff_getElem.1 H.apart
  rcases Nat.lt_or_gt_of_ne hij with h | h
  · exact hp i j li lj h b (by rw [ei]; exact hb) (by rw [ej]; exact hb')
  · exact hp j i lj li h b (by rw [ej]; exact hb') (by rw [ei]; exact hb)

/-- Behind a call that writes a variable and its row. -/
theorem Ctx.obj2 (H : Ctx w0 M w B I) (i j : Nat) (hij : i ≠ j) {b : Nat} {o1 o2 o1' o2' : Own} {dI : Imm} {M1 M2 : Nat → Prop} (hi : B[i]? = some o1) (hj : B[j]? = some o2) (hb1 : o1.blk = some b)
    (hM : ∀ k, M1 k → k = b ∨ o2.blk = some k) (hg : Gr M1 w w') (hQ : Ctx w' M2 w' [o1', o2'] [dI]) (hb1' : o1'.blk = some b) (hb2' : ∀ k, o2'.blk = some k → o2.blk = some k ∨ w.heap.size ≤ k)
    (hS : ∀ k, dI.F k → (∃ m ∈ I, m.F k) ∨ w.heap.size ≤ k) : Ctx w0 M w' ((B.set i o1').set j o2') (dI :: I) := by
  have li : i < B.length := (List.getElem?_eq_some_iff.1 hi).1
  have lj : j < B.length := (List.getElem?_eq_some_iff.1 hj).1
  have hmi := List.mem_of_getElem? hi
  have hmj := List.mem_of_getElem? hj
  have hbM : b < w0.heap.size → M b := ((H.own o1 hmi).2 b hb1).2
  have hbw : b < w.heap.size := ((H.own o1 hmi).2 b hb1).1
  have get : ∀ k (hk : k < ((B.set i o1').set j o2').length), k ≠ i → k ≠ j → ((B.set i o1').set j o2')[k] = B[k]'(by simpa using hk) := by
    intro k hk h1 h2
    rw [List.getElem_set_ne (Ne.symm h2), List.getElem_set_ne (Ne.symm h1)]
  have geti : ∀ (hk : i < ((B.set i o1').set j o2').length), ((B.set i o1').set j o2')[i] = o1' := by
    intro hk
    rw [List.getElem_set_ne (Ne.symm hij), List.getElem_set_self]
  have getj : ∀ (hk : j < ((B.set i o1').set j o2').length), ((B.set i o1').set j o2')[j] = o2' := by
    intro hk; rw [List.getElem_set_self]
  -- other things are not written
  have hoth : ∀ k (hk : k < B.length), k ≠ i → k ≠ j → ∀ c, (B[k]).blk = some c → ¬ M1 c := by
    intro k hk h1 h2 c hc hm
    rcases hM c hm with rfl | hm
    · exact H.apart2 h1 (List.getElem?_eq_getElem hk) hi c hc hb1
    · exact H.apart2 h2 (List.getElem?_eq_getElem hk) hj c hc hm
  have himm : ∀ m ∈ I, ∀ c, m.F c → ¬ M1 c := by
    intro m hm c hc hmc
    rcases hM c hmc with rfl | hmc
    · exact H.off o1 hmi m hm c hb1 hc
    · exact H.off o2 hmj m hm c hmc hc
  have hq1 := hQ.own o1' (by simp)
  have hq2 := hQ.own o2' (by simp)
  have hd := hQ.imm dI (by simp)
  have hap := (List.pairwise_cons.1 hQ.apart).1 o2' (by simp)
  have hof1 := hQ.off o1' (by simp) dI (by simp)
  have hof2 := hQ.off o2' (by simp) dI (by simp)
  have hnew : ∀ k (hk : k < B.length), k ≠ i → k ≠ j → ∀ c, (B[k]).blk = some c → o1'.blk ≠ some c ∧ o2'.blk ≠ some c := by
    intro k hk h1 h2 c hc
    refine ⟨fun e => ?_, fun e => ?_⟩
    · rw [hb1'] at e
      injection e with e
      subst e
      exact H.apart2 h1 (List.getElem?_eq_getElem hk) hi _ hc hb1
    · rcases hb2' c e with e2 | e2
      · exact H.apart2 h2 (List.getElem?_eq_getElem hk) hj c hc e2
      · have := ((H.own _ (List.getElem_mem hk)).2 c hc).1
        omega
  refine ⟨?_, ?_, ?_, ?_, ?_⟩
  · refine ⟨hg.os.trans H.gr.os, hg.tape.trans H.gr.tape, hg.output.trans H.gr.output, Nat.le_trans H.gr.size hg.size, fun k hk hm => ?_, fun d => Nat.le_trans (H.gr.drawn d) (hg.drawn d)⟩
    rw [hg.block k (Nat.lt_of_lt_of_le hk H.gr.size) fun h1 => ?_]
    · exact H.gr.block k hk hm
    · rcases hM k h1 with rfl | h1
      · exact hm (hbM hk)
      · exact hm (((H.own o2 hmj).2 k h1).2 hk)
  · intro x hx
    obtain ⟨k, hk, rfl⟩ := List.getElem_of_mem hx
    have hk' : k < B.length := by simpa using hk
    by_cases h1 : k = i
    · subst h1
      rw [geti hk]
      refine ⟨hq1.1, fun c hc => ⟨(hq1.2 c hc).1, fun hlt => ?_⟩⟩
      rw [hb1'] at hc; injection hc with hc; subst hc
      exact hbM hlt
    · by_cases h2 : k = j
      · subst h2
        rw [getj hk]
        refine ⟨hq2.1, fun c hc => ⟨(hq2.2 c hc).1, fun hlt => ?_⟩⟩
        rcases hb2' c hc with h3 | h3
        · exact ((H.own o2 hmj).2 c h3).2 hlt
        · have := H.gr.size; omega
      · rw [get k hk h1 h2]
        have hm := List.getElem_mem hk'
        refine ⟨(B[k]).loc w w' (fun c hc => hg.block c ((H.own _ hm).2 c hc).1 (hoth k hk' h1 h2 c hc)) (H.own _ hm).1, fun c hc => ⟨Nat.lt_of_lt_of_le ((H.own _ hm).2 c hc).1 hg.size, ((H.own _ hm).2 c hc).2⟩⟩
  · intro m hm
    rcases List.mem_cons.1 hm with rfl | hm
    · exact hd
    · exact ⟨m.loc w w' (fun c hc => hg.block c ((H.imm m hm).2 c hc) (himm m hm c hc)) (H.imm m hm).1, fun c hc => Nat.lt_of_lt_of_le ((H.imm m hm).2 c hc) hg.size⟩
  · have hp := List.pairwise_iff_getElem.1 H.apart
    rw [List.pairwise_iff_getElem]
    intro p q hp1 hq1' hpq c hc1 hc2
    have lp : p < B.length := by simpa using hp1
    have lq : q < B.length := by simpa using hq1'
    -- every pair of unlike places is apart
    have key : ∀ (x y : Nat) (hx : x < ((B.set i o1').set j o2').length) (hy : y < ((B.set i o1').set j o2').length), x ≠ y → (x = i ∨ x = j) → ((B.set i o1').set j o2')[x].blk = some c → ((B.set i o1').set j o2')[y].blk = some c → False := by
      intro x y hx hy hxy hx1 e1 e2
      have ly : y < B.length := by simpa using hy
      rcases hx1 with rfl | rfl
      · rw [geti hx] at e1
        by_cases hyj : y = j
        · subst hyj
          rw [getj hy] at e2
          exact hap c e1 e2
        · rw [get y hy (Ne.symm hxy) hyj] at e2
          exact (hnew y ly (Ne.symm hxy) hyj c e2).1 e1
      · rw [getj hx] at e1
        by_cases hyi : y = i
        · subst hyi
          rw [geti hy] at e2
          exact hap c e2 e1
        · rw [get y hy hyi (Ne.symm hxy)] at e2
          exact (hnew y ly hyi (Ne.symm hxy) c e2).2 e1
    by_cases h1 : p = i ∨ p = j
    · exact key p q hp1 hq1' (by omega) h1 hc1 hc2
    · by_cases h2 : q = i ∨ q = j
      · exact key q p hq1' hp1 (by omega) h2 hc2 hc1
      · have h1a : p ≠ i := fun e => h1 (.inl e)
        have h1b : p ≠ j := fun e => h1 (.inr e)
        have h2a : q ≠ i := fun e => h2 (.inl e)
        have h2b : q ≠ j := fun e => h2 (.inr e)
        rw [get p hp1 h1a h1b] at hc1
        rw [get q hq1' h2a h2b] at hc2
        exact hp p q lp lq hpq c hc1 hc2
  · intro x hx m hm c hc hF
    obtain ⟨k, hk, rfl⟩ := List.getElem_of_mem hx
    have hk' : k < B.length := by simpa using hk
    by_cases h1 : k = i
    · subst h1
      rw [geti hk] at hc
      rcases List.mem_cons.1 hm with rfl | hm
      · exact hof1 c hc hF
      · rw [hb1'] at hc; injection hc with hc; subst hc
        exact H.off o1 hmi m hm _ hb1 hF
    · by_cases h2 : k = j
      · subst h2
        rw [getj hk] at hc
        rcases List.mem_cons.1 hm with rfl | hm
        · exact hof2 c hc hF
        · rcases hb2' c hc with h3 | h3
          · exact H.off o2 hmj m hm c h3 hF
          · have := (H.imm m hm).2 c hF; omega
      · rw [get k hk h1 h2] at hc
        rcases List.mem_cons.1 hm with rfl | hm
        · rcases hS c hF with ⟨m', hm', h3⟩ | h3
          · exact H.off _ (List.getElem_mem hk') m' hm' c hc h3
          · have := ((H.own _ (List.getElem_mem hk')).2 c hc).1
            omega
        · exact H.off _ (List.getElem_mem hk') m hm c hc hF
end
/-- The blocks of a variable and of the row that hangs on it. -/
def objM {α : Type} (b : Nat) (h : SlH) (l : List α) : Nat → Prop := fun k => k = b ∨ (slV h l).ownBlock = some k
section
variable {α : Type} {w0 w w' : World} {M : Nat → Prop} {B : List Own} {I : List Imm} {b : Nat} {tb te : TypeId} {cs : Chs} {k : Nat} {enc : α → Chs} {h h0 : SlH} {l l0 : List α}
theorem Ctx.objStart (H : Ctx w0 M w [boxR b tb cs, rowR te k enc h l] I) : Ctx w (objM b h l) w [boxR b tb cs, rowR te k enc h l] I :=
  H.restart fun o ho c hc => by
    simp only [List.mem_cons, List.not_mem_nil, or_false] at ho
    rcases ho with rfl | rfl
    · simp only [boxR, Option.some.injEq] at hc
      exact .inl hc.symm
    · exact .inr hc
theorem Ctx.objBlk (H : Ctx w0 (objM b h0 l0) w B I) (i j : Nat) (hij : i ≠ j) (hi : B[i]? = some (boxR b tb cs)) (hj : B[j]? = some (rowR te k enc h l)) : ∀ c, (slV h l).ownBlock = some c → (slV h0 l0).ownBlock = some c ∨ w0.heap.size ≤ c := by
  intro c hc
  rcases Nat.lt_or_ge c w0.heap.size with hlt | hge
  · rcases ((H.own _ (List.mem_of_getElem? hj)).2 c hc).2 hlt with rfl | h1
    · exact absurd hc (H.apart2 hij hi hj c rfl)
    · exact .inl h1
  · exact .inr hge
/-- What is only read is no part of them. -/
theorem Ctx.objFree (H : Ctx w0 M w B I) (i j : Nat) (hi : B[i]? = some (boxR b tb cs)) (hj : B[j]? = some (rowR te k enc h l)) (m : Nat) {im : Imm} (hm : I[m]? = some im) : ∀ c, im.F c → c < w.heap.size ∧ ¬ objM b h l c := by
  intro c hc
  have hmem := List.mem_of_getElem? hm
  refine ⟨(H.imm im hmem).2 c hc, ?_⟩
  rintro (rfl | h1)
  · exact H.off _ (List.mem_of_getElem? hi) im hmem _ rfl hc
  · exact H.off _ (List.mem_of_getElem? hj) im hmem c h1 hc
theorem Ctx.objFreeOwn (H : Ctx w0 M w B I) (i j : Nat) (hi : B[i]? = some (boxR b tb cs)) (hj : B[j]? = some (rowR te k enc h l)) (m : Nat) (hmi : i ≠ m) (hmj : j ≠ m) {o : Own} (hm : B[m]? = some o) : ∀ c, o.blk = some c → c < w.heap.size ∧ ¬ objM b h l c := by
  intro c hc
  refine ⟨((H.own o (List.mem_of_getElem? hm)).2 c hc).1, ?_⟩
  rintro (rfl | h1)
  · exact H.apart2 hmi hi hm _ rfl hc
  · exact H.apart2 hmj hj hm c h1 hc
theorem nob_free {w : World} {M : Nat → Prop} : ∀ c, nob c → c < w.heap.size ∧ ¬ M c := fun _ h => h.elim
end
theorem objSide {α : Type} {b : Nat} {tb te : TypeId} {cs : Chs} {k : Nat} {enc : α → Chs} {h : SlH} {l : List α} {c : Nat} (hn : ¬ objM b h l c) : ∀ o ∈ [boxR b tb cs, rowR te k enc h l], o.blk ≠ some c := by
  intro o ho hc
  simp only [List.mem_cons, List.not_mem_nil, or_false] at ho
  rcases ho with rfl | rfl
  · simp only [boxR, Option.some.injEq] at hc
    exact hn (.inl hc.symm)
  · exact hn (.inr hc)
theorem lst4 {ρ : Operand → Value} {a b c d : Operand} {v1 v2 v3 v4 : Value} (h1 : ρ a = v1) (h2 : ρ b = v2) (h3 : ρ c = v3) (h4 : ρ d = v4) : [a, b, c, d].map ρ = [v1, v2, v3, v4] := by simp [h1, h2, h3, h4]
theorem lst5 {ρ : Operand → Value} {a b c d e : Operand} {v1 v2 v3 v4 v5 : Value} (h1 : ρ a = v1) (h2 : ρ b = v2) (h3 : ρ c = v3) (h4 : ρ d = v4) (h5 : ρ e = v5) : [a, b, c, d, e].map ρ = [v1, v2, v3, v4, v5] := by simp [h1, h2, h3, h4, h5]
/-- A variable that is only read. -/
def boxI (F : Nat → Prop) (b : Nat) (hF : F b) (t : TypeId) (cs : Chs) : Imm where
  F := F
  p := (boxR b t cs).q
  loc w w' h hq := (boxR b t cs).loc w w' (fun c hc => by
    simp only [boxR, Option.some.injEq] at hc
    subst hc; exact h _ hF) hq
theorem boxR_lt {b : Nat} {t : TypeId} {cs : Chs} {w : World} (h : (boxR b t cs).q w) : b < w.heap.size := (Array.getElem?_eq_some_iff.1 (show w.heap[b]? = some _ from h)).1
/-- Another thing of the call's own stands while a row is written. -/
theorem Ctx.ownGr {w0 w w1 : World} {M : Nat → Prop} {B : List Own} {I : List Imm} (H : Ctx w0 M w B I) (i j : Nat) (hij : i ≠ j) {o o' : Own} (hi : B[i]? = some o) (hj : B[j]? = some o') {M1 : Nat → Prop} (hg : Gr M1 w w1) (hM : ∀ b, M1 b → o'.blk = some b) : o.q w1 :=
  o.loc w w1 (fun b hb => hg.block b ((H.own o (List.mem_of_getElem? hi)).2 b hb).1 fun h => H.apart2 hij hi hj b hb (hM b h)) (H.getOwn i hi)
theorem callsCap1 {P : Program} {k : FuncId} {a b c : Value} {w : World} {K : Ending → World → Prop} (h : Calls P k #[a, b, c] w K) : Calls P k (#[a, b] ++ #[c]) w K := by simpa using h
section
variable {P : Program} {n : Nat} {ops : Array Oper} {M : Nat → Prop} {Q : Env → World → Prop} {e : Env} {w wc : World} {rest : List (Nat × Kd)}
/-- Carried out, since the guard's bool is known. -/
theorem Lx_qT {i : Nat} {wk : Nat} {d : Nat} {op : Op} {ty : TypeId} {pos : String} {af : Array Edge} {j dj : Nat} {b : Bool} {oj : Oper}
    (ho : ops[i]? = some ⟨some d, op, ty, pos, af, some (j, b)⟩) (hj : ops[j]? = some oj) (hdj : oj.dst = some dj) (hx : e dj = .bool b) (hd : Nat.blt d n = true) (v : Value)
    (h : ∀ w, GrF M wk wc w → Runs P (evalE e) ⟨some d, op, ty, pos, af, some (j, b)⟩ w (fun v' w' => v' = v ∧ Ext w w')) (k : Lx P n ops M Q rest (upd e d v) wc) : Lx P n ops M Q ((i, .q wk) :: rest) e wc := by
  have hw : wantE ops e ⟨some d, op, ty, pos, af, some (j, b)⟩ = true := by
    simp only [wantE, hj, Option.bind_some, hdj, hx]
    cases b <;> rfl
  exact ⟨_, ho, hd, v, by rw [if_pos hw]; exact h, k⟩
theorem Lx_cT {i : Nat} {mu : Nat} {d : Nat} {op : Op} {ty : TypeId} {pos : String} {af : Array Edge} {j dj : Nat} {b : Bool} {oj : Oper}
    (ho : ops[i]? = some ⟨some d, op, ty, pos, af, some (j, b)⟩) (hj : ops[j]? = some oj) (hdj : oj.dst = some dj) (hx : e dj = .bool b) (hd : Nat.blt d n = true)
    (h : ∀ w, Ext wc w → Runs P (evalE e) ⟨some d, op, ty, pos, af, some (j, b)⟩ w (fun v w' => GrF M mu w w' ∧ Lx P n ops M Q rest (upd e d v) w')) : Lx P n ops M Q ((i, .c mu) :: rest) e wc := by
  have hw : wantE ops e ⟨some d, op, ty, pos, af, some (j, b)⟩ = true := by
    simp only [wantE, hj, Option.bind_some, hdj, hx]
    cases b <;> rfl
  exact ⟨_, ho, hd, fun w hw' => by rw [if_pos hw]; exact h w hw'⟩
theorem Lx_cuT {i : Nat} {mu : Nat} {op : Op} {ty : TypeId} {pos : String} {af : Array Edge} {j dj : Nat} {b : Bool} {oj : Oper}
    (ho : ops[i]? = some ⟨none, op, ty, pos, af, some (j, b)⟩) (hj : ops[j]? = some oj) (hdj : oj.dst = some dj) (hx : e dj = .bool b)
    (h : ∀ w, Ext wc w → Runs P (evalE e) ⟨none, op, ty, pos, af, some (j, b)⟩ w (fun _ w' => GrF M mu w w' ∧ Lx P n ops M Q rest e w')) : Lx P n ops M Q ((i, .c mu) :: rest) e wc := by
  have hw : wantE ops e ⟨none, op, ty, pos, af, some (j, b)⟩ = true := by
    simp only [wantE, hj, Option.bind_some, hdj, hx]
    cases b <;> rfl
  exact ⟨_, ho, rfl, fun w hw' => by rw [if_pos hw]; exact h w hw'⟩
end
theorem R_eqlB {P : Program} {ρ : Operand → Value} {w : World} {K : Value → World → Prop} {d : Option Tmp} {ty : TypeId} {pos : String} {af : Array Edge} {g : Option (Nat × Bool)} {t yt : TypeId} {x y : Operand} {a b : Bool} (hu : P.underlying t = some .bool) (hx : ρ x = .bool a) (hy : ρ y = .bool b) (h : K (.bool (decide (a = b))) w) :
    Runs P ρ ⟨d, .binOp .eql t x y yt, ty, pos, af, g⟩ w K := by
  refine .value (v := .bool (decide (a = b))) (w' := w) ?_ h
  simp only [execOp, hx, hy, Sem.run_bind, run_eqGuard_bool, Result.andThen_ok, binOp, run_equal_bool w t a b hu, Sem.run_pure]
  rfl
theorem R_neqB {P : Program} {ρ : Operand → Value} {w : World} {K : Value → World → Prop} {d : Option Tmp} {ty : TypeId} {pos : String} {af : Array Edge} {g : Option (Nat × Bool)} {t yt : TypeId} {x y : Operand} {a b : Bool} (hu : P.underlying t = some .bool) (hx : ρ x = .bool a) (hy : ρ y = .bool b) (h : K (.bool (!decide (a = b))) w) :
    Runs P ρ ⟨d, .binOp .neq t x y yt, ty, pos, af, g⟩ w K := by
  refine .value (v := .bool (!decide (a = b))) (w' := w) ?_ h
  simp only [execOp, hx, hy, Sem.run_bind, run_eqGuard_bool, Result.andThen_ok, binOp, run_equal_bool w t a b hu, Sem.run_pure]
  rfl
theorem boolK {b : Bool} (h : b = true) : Value.bool b = Value.bool true := congrArg Value.bool h
end Go.Proofs.YthjdhfoeckfmbaaGreat
/- From a statement's reading of its arguments to lists in memory, and back. -/
namespace Go.Proofs.YthjdhfoeckfmbaaGreat
open Go Go.ChangeShapes Go.WideShapes Go.RowKit
set_option linter.unusedVariables false
set_option linter.unusedSimpArgs false
set_option linter.unusedSectionVars false
variable [DD]

/-- What reads as data of a type is one of these; no weight of it is over R. -/
structure Rd (P : Program) (W : World) (R : Nat) (t : TypeId) {α : Type} (en : α → List Value) (ok : α → Prop) : Prop where
  out : ∀ {H : Type} {enc : TypeId × Value → H} {fuel : Nat} {cs : List Value} {x : DataW H × List MemPlace}, DataW.trod enc P W 0 (fun _ => true) true fuel t cs = some x → (∀ k ∈ x.1.weights P t, k ≤ R) → ∃ a, cs = en a ∧ ok a

section
variable {P : Program} {W : World} {R : Nat} {t : TypeId}
theorem Rd_int {k : IntKind} (h : P.underlying t = some (.int k)) : Rd P W R t (fun n : Int => [.int k n]) (fun n => (Lit.int k n).wf = true) :=
  ⟨fun h1 _ => by
    obtain ⟨n, h2, _, h3⟩ := DataW.trod_int h h1
    exact ⟨n, h2, h3⟩⟩
theorem Rd_bool (h : P.underlying t = some .bool) : Rd P W R t (fun b : Bool => [.bool b]) (fun _ => True) :=
  ⟨fun h1 _ => by
    obtain ⟨n, h2, _⟩ := DataW.trod_bool h h1
    exact ⟨n, h2, trivial⟩⟩
theorem Rd_str (h : P.underlying t = some .string) : Rd P W R t (fun s : ByteArray => [.string s]) (fun s => s.size ≤ R) :=
  ⟨fun h1 hw => by
    obtain ⟨s, h2, hx, h3⟩ := DataW.trod_string h h1
    refine ⟨s, h2, ?_⟩
    subst hx
    have := hw s.data.toList.length (by simp [DataW.weights])
    simpa using this⟩
theorem list_of_lt {α : Type} {p : Nat → α → Prop} : ∀ {n : Nat}, (∀ i, i < n → ∃ x, p i x) → ∃ l : List α, l.length = n ∧ ∀ i x, l[i]? = some x → p i x
  | 0, _ => ⟨[], rfl, fun i x h => by simp at h⟩
  | n + 1, h => by
    obtain ⟨l, h1, h2⟩ := list_of_lt (n := n) fun i hi => h i (by omega)
    obtain ⟨x, hx⟩ := h n (by omega)
    refine ⟨l ++ [x], by simp [h1], fun i y hy => ?_⟩
    by_cases hi : i < l.length
    · rw [List.getElem?_append_left hi] at hy; exact h2 i y hy
    · have : i = l.length := by
        have := (List.getElem?_eq_some_iff.1 hy).1
        simp at this; omega
      subst this
      rw [List.getElem?_append_right (Nat.le_refl _)] at hy
      simp at hy
      subst hy; rw [h1]; exact hx
theorem spot_none {W : World} {a : Addr} {v : Value} (h : W.cell? a = some v) : a = ⟨a.block, a.off, none⟩ := by
  unfold World.cell? at h
  split at h
  · split at h
    · cases h
    · rename_i hs
      cases a with
      | mk b o s => cases s with
        | none => rfl
        | some _ => simp at hs
  · cases h
theorem weightsAll_mem {H : Type} {e : TypeId} {d : DataW H} : ∀ {l : List (DataW H)}, d ∈ l → ∀ k ∈ d.weights P e, k ∈ DataW.weightsAll P e l
  | x :: r, h, k, hk => by
    unfold DataW.weightsAll
    rw [List.mem_append]
    rcases List.mem_cons.1 h with rfl | h
    · exact .inl hk
    · exact .inr (weightsAll_mem h k hk)
/-- A slice: its elements lie there. -/
theorem Rd_slice {e : TypeId} {n bytes : Nat} {α : Type} {en : α → Chs} {ok : α → Prop} (hu : P.underlying t = some (.slice e)) (hn : P.cellsOf e = n) (hb : P.bytesOf e = bytes) (h0 : 0 < n) (hl : ∀ a, (en a).flatten.length = n) (E : Rd P W R e (fun a => (en a).flatten) ok) :
    Rd P W R t (fun x : SlH × List α => [slV x.1 x.2]) (fun x => Sl (Old W) en n x.1 x.2 W ∧ x.2.length * bytes ≤ R ∧ ∀ a ∈ x.2, ok a) := by
  refine ⟨fun {H enc fuel cs x} h1 hw => ?_⟩
  rcases Deep.open_slice hu h1 with ⟨rfl, rfl⟩ | ⟨a, len, cap, m, k, D, Pl, rfl, _, h2, h3, h4, rfl, h5⟩
  · exact ⟨(nilH, []), rfl, Sl.nil _ _ _ _, by simp, fun _ h => (nomatch h)⟩
  · have h4 : m = cap := h4
    subst h4
    rw [hn] at h5
    have hwe : ∀ i, i < m → ∀ q ∈ (D i).weights P e, q ≤ R := by
      intro i hi q hq
      refine hw q ?_
      unfold DataW.weights
      rw [hu]
      refine List.mem_cons_of_mem _ (List.mem_append.2 ?_)
      by_cases hil : i < len
      · exact .inl (weightsAll_mem (List.mem_map.2 ⟨i, List.mem_range.2 hil, rfl⟩) q hq)
      · exact .inr (weightsAll_mem (List.mem_map.2 ⟨i - len, List.mem_range.2 (by omega), by rw [show len + (i - len) = i from by omega]⟩) q hq)
    obtain ⟨l, hl1, hl2⟩ := list_of_lt (n := len) (p := fun i (x : α) => W.cells? 0 (a.add (i * n)) n = some (en x).flatten ∧ ok x) fun i hi => by
      obtain ⟨cs', h6, h7⟩ := h5 i (by omega)
      obtain ⟨y, h8, h9⟩ := E.out h7 (hwe i (by omega))
      exact ⟨y, by rw [h6, h8], h9⟩
    have cellAt : ∀ i x, l[i]? = some x → ∀ j v, (en x).flatten[j]? = some v → W.cell? ((a.add (i * n)).add j) = some v := by
      intro i x hx j v hv
      obtain ⟨h6, _⟩ := hl2 i x hx
      obtain ⟨_, _, h7⟩ := World.cells?_some h6
      have hj := (List.getElem?_eq_some_iff.1 hv).1
      rw [h7 j (by rw [hl] at hj; exact hj)]; exact hv
    have haddr : 0 < len → a = ⟨a.block, a.off, none⟩ := by
      intro hp
      have h0l : 0 < l.length := by omega
      have hx : l[0]? = some l[0] := List.getElem?_eq_getElem h0l
      have hf : 0 < (en l[0]).flatten.length := by rw [hl]; exact h0
      have := cellAt 0 _ hx 0 _ (List.getElem?_eq_getElem hf)
      rw [Nat.zero_mul] at this
      exact spot_none this
    refine ⟨(⟨some a, a.block, a.off, m⟩, l), by simp [slV, hl1], ⟨by rw [hl1]; exact h2, h3, fun hp => ?_, fun i x hx => ?_⟩, ?_, fun y hy => ?_⟩
    · have e1 := haddr (by rw [← hl1]; exact hp)
      refine ⟨congrArg some e1, ?_⟩
      have hx : l[0]? = some l[0] := List.getElem?_eq_getElem hp
      have hf : 0 < (en l[0]).flatten.length := by rw [hl]; exact h0
      have := cellAt 0 _ hx 0 _ (List.getElem?_eq_getElem hf)
      rw [Nat.zero_mul] at this
      exact World.block_lt_of_cell? W _ this
    · intro j v hv
      have hil : i < l.length := (List.getElem?_eq_some_iff.1 hx).1
      have := cellAt i x hx j v hv
      rw [haddr (by omega), add_lit, add_lit] at this
      exact this
    · have := hw ((((List.range len).map D).length + ((List.range (m - len)).map fun j => D (len + j)).length) * P.bytesOf e) (by unfold DataW.weights; rw [hu]; exact List.mem_cons_self ..)
      rw [hb] at this
      simp only [List.length_map, List.length_range] at this
      rw [hl1]
      have h6 : len * bytes ≤ (len + (m - len)) * bytes := Nat.mul_le_mul_right _ (by omega)
      omega
    · obtain ⟨i, hi, rfl⟩ := List.getElem_of_mem hy
      exact (hl2 i _ (List.getElem?_eq_getElem hi)).2

theorem cut1 {cs : List Value} {a : Nat} : cs = cs.take a ++ cs.drop a := (List.take_append_drop a cs).symm
theorem weightsEach_get {H : Type} : ∀ {ts : List TypeId} {ds : List (DataW H)} {i : Nat} {u : TypeId} {d : DataW H}, ts[i]? = some u → ds[i]? = some d → ∀ k ∈ d.weights P u, k ∈ DataW.weightsEach P ts ds
  | [], _, _, _, _, h, _, _, _ => by simp at h
  | _ :: _, [], _, _, _, _, h, _, _ => by simp at h
  | t :: ts, d :: ds, 0, u, d', h, h', k, hk => by
    simp at h h'
    subst h h'
    unfold DataW.weightsEach
    exact List.mem_append.2 (.inl hk)
  | t :: ts, d :: ds, i + 1, u, d', h, h', k, hk => by
    unfold DataW.weightsEach
    exact List.mem_append.2 (.inr (weightsEach_get (by simpa using h) (by simpa using h') k hk))
/-- A struct's field, read. -/
theorem struct_part {H : Type} {enc : TypeId × Value → H} {fuel : Nat} {cs : List Value} {x : DataW H × List MemPlace} {fs : Array Field} (hu : P.underlying t = some (.struct fs)) (h : DataW.trod enc P W 0 (fun _ => true) true fuel t cs = some x) (hw : ∀ k ∈ x.1.weights P t, k ≤ R)
    {i : Nat} {f : Field} (hf : fs[i]? = some f) {α : Type} {en : α → List Value} {ok : α → Prop} (E : Rd P W R f.type en ok) : ∃ a, (cs.drop f.offset).take (P.cellsOf f.type) = en a ∧ ok a := by
  obtain ⟨xs, n, _, rfl, hl, hlen, hp⟩ := DataW.trod_struct hu h
  have h1 := hp i f hf
  have hi : i < xs.length := by rw [hlen]; exact (Array.getElem?_eq_some_iff.1 hf).1
  rw [List.getElem?_eq_getElem hi] at h1
  refine E.out h1 fun k hk => hw k ?_
  unfold DataW.weights
  rw [hu]
  exact weightsEach_get (i := i) (u := f.type) (d := xs[i].1) (by simp [hf]) (by simp [List.getElem?_eq_getElem hi]) k hk
theorem struct_len {H : Type} {enc : TypeId × Value → H} {fuel : Nat} {cs : List Value} {x : DataW H × List MemPlace} {fs : Array Field} (hu : P.underlying t = some (.struct fs)) (h : DataW.trod enc P W 0 (fun _ => true) true fuel t cs = some x) : cs.length = P.cellsOf t := by
  obtain ⟨xs, n, _, rfl, hl, _⟩ := DataW.trod_struct hu h
  exact hl
theorem cutL {cs : List Value} {a b : Nat} (h : cs.length = a + b) : (cs.drop a).take b = cs.drop a := List.take_of_length_le (by simp; omega)
end

/-! ### The program's data -/
def i64ok (n : Int) : Prop := (Lit.int .i64 n).wf = true
theorem i64ok_iff {n : Int} : i64ok n ↔ -9223372036854775808 ≤ n ∧ n ≤ 9223372036854775807 := by
  unfold i64ok Lit.wf
  simp [IntKind.min, IntKind.max, IntKind.signed, IntKind.bits]
def Stamp.wf (s : Stamp) : Prop := i64ok s.T ∧ i64ok s.R
section
variable {P : Program} {W : World} {R : Nat} {t : TypeId}
theorem Rd_stamp {f0 f1 : Field} (hu : P.underlying t = some (.struct #[f0, f1])) (hc : P.cellsOf t = 2) (o0 : f0.offset = 0) (o1 : f1.offset = 1) (c0 : P.cellsOf f0.type = 1) (c1 : P.cellsOf f1.type = 1)
    (h0 : P.underlying f0.type = some (.int .i64)) (h1 : P.underlying f1.type = some (.int .i64)) : Rd P W R t (fun s : Stamp => (stampCh s).flatten) Stamp.wf := by
  refine ⟨fun h hw => ?_⟩
  have hl := struct_len hu h
  obtain ⟨a, ha, oka⟩ := struct_part hu h hw (i := 0) (f := f0) rfl (Rd_int h0)
  obtain ⟨b, hb, okb⟩ := struct_part hu h hw (i := 1) (f := f1) rfl (Rd_int h1)
  rw [o0, c0, List.drop_zero] at ha
  rw [o1, c1, cutL (by omega)] at hb
  refine ⟨⟨a, b⟩, ?_, oka, okb⟩
  rename_i cs _
  rw [cut1 (cs := cs) (a := 1), ha, hb]; rfl
/-- An ID: 32 bytes. -/
theorem Rd_byte (h : P.underlying t = some (.int .u8)) : Rd P W R t (fun b : UInt8 => (encB b).flatten) (fun _ => True) :=
  ⟨fun h1 _ => by
    obtain ⟨n, h2, _, h3⟩ := DataW.trod_int h h1
    have h5 : 0 ≤ n ∧ n ≤ 255 := by simpa [Lit.wf, IntKind.min, IntKind.max, IntKind.signed, IntKind.bits] using h3
    refine ⟨UInt8.ofNat n.toNat, ?_, trivial⟩
    rw [h2]
    show [Value.int .u8 n] = [byteV _]
    unfold byteV
    congr 2
    rw [UInt8.toNat_ofNat', Nat.mod_eq_of_lt (by omega)]
    omega⟩
theorem Rd_id {e : TypeId} (hu : P.underlying t = some (.array 32 e)) (hc : P.cellsOf t = 32) (ce : P.cellsOf e = 1) (he : P.underlying e = some (.int .u8)) : Rd P W R t (fun d : ID => (idCh d).flatten) (fun _ => True) := by
  refine ⟨fun {H enc fuel cs x} h hw => ?_⟩
  obtain ⟨xs, m, _, rfl, hl, hlen, hp⟩ := DataW.trod_array hu h
  rw [hc] at hl
  have one : ∀ i (hi : i < 32), ∃ b : UInt8, cs[i]? = some (byteV b) := by
    intro i hi
    have h1 := hp i hi
    rw [ce, Nat.mul_one, List.getElem?_eq_getElem (by omega)] at h1
    obtain ⟨n, h2, _, h3⟩ := DataW.trod_int he h1
    have h4 : cs[i]? = some (.int .u8 n) := by
      have := congrArg (fun l => l[0]?) h2
      simpa [List.getElem?_take, List.getElem?_drop] using this
    have h5 : 0 ≤ n ∧ n ≤ 255 := by simpa [Lit.wf, IntKind.min, IntKind.max, IntKind.signed, IntKind.bits] using h3
    refine ⟨UInt8.ofNat n.toNat, ?_⟩
    rw [h4]
    unfold byteV
    congr 2
    rw [UInt8.toNat_ofNat', Nat.mod_eq_of_lt (by omega)]
    omega
  obtain ⟨l, hl1, hl2⟩ := list_of_lt (n := 32) (p := fun i (b : UInt8) => cs[i]? = some (byteV b)) one
  refine ⟨⟨l.toArray, by simp [hl1]⟩, ?_, trivial⟩
  rw [List.flatten_cons, List.flatten_nil, List.append_nil, idCells_eq]
  apply List.ext_getElem?
  intro i
  by_cases hi : i < 32
  · rw [hl2 i l[i] (List.getElem?_eq_getElem (by omega))]
    simp [hl1, hi]
  · rw [List.getElem?_eq_none (by omega), List.getElem?_eq_none (by simp [hl1]; omega)]
def Head.wf (x : Head) : Prop := x.tm.wf
theorem Rd_head {f0 f1 : Field} (hu : P.underlying t = some (.struct #[f0, f1])) (hc : P.cellsOf t = 34) (o0 : f0.offset = 0) (o1 : f1.offset = 2) (c0 : P.cellsOf f0.type = 2) (c1 : P.cellsOf f1.type = 32)
    (h0 : Rd P W R f0.type (fun s : Stamp => (stampCh s).flatten) Stamp.wf) (h1 : Rd P W R f1.type (fun d : ID => (idCh d).flatten) (fun _ => True)) : Rd P W R t (fun x : Head => (headCh x).flatten) Head.wf := by
  refine ⟨fun h hw => ?_⟩
  have hl := struct_len hu h
  obtain ⟨a, ha, oka⟩ := struct_part hu h hw (i := 0) (f := f0) rfl h0
  obtain ⟨b, hb, okb⟩ := struct_part hu h hw (i := 1) (f := f1) rfl h1
  rw [o0, c0, List.drop_zero] at ha
  rw [o1, c1, cutL (by omega)] at hb
  refine ⟨⟨a, b⟩, ?_, oka⟩
  rename_i cs _
  rw [cut1 (cs := cs) (a := 2), ha, hb]; rfl
/-- A row, as it is read. -/
def RowS.wf (W : World) (R : Nat) (r : RowS) : Prop := r.node.wf ∧ r.par.wf ∧ r.tm.wf ∧ r.name.size ≤ R ∧ Sl (Old W) headCh 34 r.hh r.heads W ∧ r.heads.length * 48 ≤ R ∧ ∀ x ∈ r.heads, x.wf
theorem Rd_row {f0 f1 f2 f3 f4 : Field} (hu : P.underlying t = some (.struct #[f0, f1, f2, f3, f4])) (hc : P.cellsOf t = 8) (o : f0.offset = 0 ∧ f1.offset = 2 ∧ f2.offset = 4 ∧ f3.offset = 6 ∧ f4.offset = 7)
    (c : P.cellsOf f0.type = 2 ∧ P.cellsOf f1.type = 2 ∧ P.cellsOf f2.type = 2 ∧ P.cellsOf f3.type = 1 ∧ P.cellsOf f4.type = 1)
    (h0 : Rd P W R f0.type (fun s : Stamp => (stampCh s).flatten) Stamp.wf) (h1 : Rd P W R f1.type (fun s : Stamp => (stampCh s).flatten) Stamp.wf) (h2 : Rd P W R f2.type (fun s : Stamp => (stampCh s).flatten) Stamp.wf)
    (h3 : P.underlying f3.type = some .string) (h4 : Rd P W R f4.type (fun x : SlH × List Head => [slV x.1 x.2]) (fun x => Sl (Old W) headCh 34 x.1 x.2 W ∧ x.2.length * 48 ≤ R ∧ ∀ a ∈ x.2, a.wf)) :
    Rd P W R t (fun r : RowS => (rowCh r).flatten) (RowS.wf W R) := by
  refine ⟨fun h hw => ?_⟩
  have hl := struct_len hu h
  obtain ⟨a0, e0, k0⟩ := struct_part hu h hw (i := 0) (f := f0) rfl h0
  obtain ⟨a1, e1, k1⟩ := struct_part hu h hw (i := 1) (f := f1) rfl h1
  obtain ⟨a2, e2, k2⟩ := struct_part hu h hw (i := 2) (f := f2) rfl h2
  obtain ⟨a3, e3, k3⟩ := struct_part hu h hw (i := 3) (f := f3) rfl (Rd_str h3)
  obtain ⟨a4, e4, k4⟩ := struct_part hu h hw (i := 4) (f := f4) rfl h4
  obtain ⟨o0, o1, o2, o3, o4⟩ := o
  obtain ⟨c0, c1, c2, c3, c4⟩ := c
  rw [o0, c0, List.drop_zero] at e0
  rw [o1, c1] at e1
  rw [o2, c2] at e2
  rw [o3, c3] at e3
  rw [o4, c4, cutL (by omega)] at e4
  refine ⟨⟨a0, a1, a2, a3, a4.2, a4.1⟩, ?_, k0, k1, k2, k3, k4⟩
  rename_i cs _ 
  have s1 : cs = cs.take 2 ++ ((cs.drop 2).take 2 ++ ((cs.drop 4).take 2 ++ ((cs.drop 6).take 1 ++ cs.drop 7))) := by
    rw [show cs.drop 7 = (cs.drop 6).drop 1 from by rw [List.drop_drop], List.take_append_drop, show cs.drop 6 = (cs.drop 4).drop 2 from by rw [List.drop_drop], List.take_append_drop, show cs.drop 4 = (cs.drop 2).drop 2 from by rw [List.drop_drop], List.take_append_drop, List.take_append_drop]
  rw [s1, e0, e1, e2, e3, e4]; rfl
end

/-! ### An argument -/
section
variable {P : Program} {W : World} {R : Nat} {t : TypeId} {H : Type} {enc : TypeId × Value → H}
theorem Rd.arg1 {α : Type} {en : α → Value} {ok : α → Prop} (E : Rd P W R t (fun a => [en a]) ok) {v : Value} {d : DataW H} {ps : List MemPlace} (h : DataW.Trod enc P W 0 (fun _ => true) true t v d ps) (hv : v.cells.toList = [v]) (hw : ∀ k ∈ d.weights P t, k ≤ R) : ∃ a, v = en a ∧ ok a := by
  obtain ⟨fuel, h⟩ := h
  obtain ⟨a, h1, h2⟩ := E.out h hw
  rw [hv] at h1
  exact ⟨a, by simpa using h1, h2⟩
theorem Rd.argA {α : Type} {en : α → Chs} {ok : α → Prop} (E : Rd P W R t (fun a => (en a).flatten) ok) {v : Value} {d : DataW H} {ps : List MemPlace} (h : DataW.Trod enc P W 0 (fun _ => true) true t v d ps) (hv : ∃ cs, v = .agg cs) (hw : ∀ k ∈ d.weights P t, k ≤ R) : ∃ a, v = aggOf (en a) ∧ ok a := by
  obtain ⟨fuel, h⟩ := h
  obtain ⟨a, h1, h2⟩ := E.out h hw
  obtain ⟨cs, rfl⟩ := hv
  refine ⟨a, ?_, h2⟩
  have h1 : cs.toList = (en a).flatten := h1
  rw [aggOf, ← h1]
end

/-! ### Behind the call -/
theorem Ext.keptBut {W W' : World} (h : Ext W W') (may : MemPlace → Prop) : W.keptBut W' may := by
  refine ⟨h.os, h.output, fun i hi => ?_⟩
  rw [h.block i hi (fun hn => hn)]
  cases hb : W.heap[i]? with
  | none => trivial
  | some o => cases o <;> simp
theorem frozen_block {W W' : World} {a : Addr} (h : W'.heap[a.block]? = W.heap[a.block]?) : W'.frozen? a = W.frozen? a := by
  unfold World.frozen?; rw [h]
section
variable {P : Program} {H : Type} {enc : TypeId × Value → H} {W W' : World}
theorem Ext.same (h : Ext W W') {p : MemPlace} (hp : p.block < W.heap.size) : W.sameAt W' p := by
  cases p with
  | cell b off => exact World.cell?_of_block (a := ⟨b, off, none⟩) (h.block b hp (fun hn => hn))
  | map b => exact h.block b hp (fun hn => hn)
theorem trodAll_ext (h : Ext W W') {sp : Nat → Bool} : ∀ {ts : List TypeId} {vs : List Value} {ds : List (DataW H)} {ps : List MemPlace}, DataW.TrodAll enc P W 0 sp true ts vs ds ps → (∀ p ∈ ps, p.block < W.heap.size) → DataW.TrodAll enc P W' 0 sp true ts vs ds ps
  | [], [], [], _, h1, _ => h1
  | _ :: _, _ :: _, _ :: _, _, ⟨p, q, ⟨fuel, h1⟩, h2, e⟩, hs =>
    ⟨p, q, ⟨fuel, DataW.trod_carry _ _ _ _ h1 fun x hx => h.same (hs x (by rw [e]; exact List.mem_append_left _ hx))⟩, trodAll_ext h h2 (fun x hx => hs x (by rw [e]; exact List.mem_append_right _ hx)), e⟩
/-- A statement's call that wrote nothing and answers true. -/
theorem post_law {f : Func} {s : ChangeSpec} {apart fresh handsOn again : Bool} {args : Array Value} {ds gs : List (DataW H)} {before : List MemPlace} {bt : TypeId} (hv : s.vars = []) (hl : laidOutB P = true) (hm : mapsRowed P = true)
    (hz : ((List.range P.types.size).all fun t => match P.underlying t with | some (.slice e) => decide (0 < P.cellsOf e) | _ => true) = true) (hts : f.params.toList.all (fun t => decide (t < P.types.size)) = true)
    (hr : f.resultTypes = #[bt]) (hb : P.underlying bt = some .bool) (hW : DataW.Whole enc P f.params.toList s.vars apart W args.toList ds gs before)
    (hres : (s.fn H (ds ++ gs)).results = [.lit (.bool true)]) (harg : (s.fn H (ds ++ gs)).args = ds) (hvar : (s.fn H (ds ++ gs)).vars = []) (hx : Ext W W') : s.post enc P f apart fresh handsOn again W args (.bool true) W' := by
  have hlt := hW.lt
  have hW0 := hW
  obtain ⟨p, q, hA, hV, rfl, hfz, hnd⟩ := hW
  have hV0 := hV
  rw [hv] at hV
  obtain ⟨rfl, rfl⟩ := trodVars_none hV
  have hold : ∀ p' ∈ p ++ [], (fun b => decide (b < W.heap.size)) p'.block = true := fun p' hp => by simpa using hlt p' hp
  have hargs : ∀ sp : Nat → Bool, (∀ p' ∈ p ++ [], sp p'.block = true) → DataW.TrodAll enc P W' 0 sp true f.params.toList args.toList (s.fn H (ds ++ [])).args p := fun sp hsp => by
    rw [harg]
    refine trodAll_ext hx ?_ fun x h => hlt x (by simpa using h)
    exact hA.respare (kids_rows hl hm) (fun t e h => slices_full_of P hz t e h) (fun t ht => of_decide_eq_true (List.all_eq_true.1 hts t ht)) fun x h => hsp x (by simpa using h)
  have hvars : ∀ sp : Nat → Bool, DataW.TrodVars enc P W' sp s.vars (s.fn H (ds ++ [])).vars [] := fun sp => by rw [hv, hvar]; rfl
  have hresT : ∀ (b : Nat) (sp : Nat → Bool) (hd : Bool), DataW.TrodAll enc P W' b sp hd f.resultTypes.toList ((Value.bool true).resultList f.resultTypes.size) (s.fn H (ds ++ [])).results [] := fun b sp hd => by
    rw [hr, hres]
    exact trodAll_cons_mk (p := []) (p' := []) (shut_bool hb _) trodAll_mk0
  refine ⟨ds, [], p ++ [], [], p, [], hW0, hresT _ _ _, hargs _ hold, hvars _, World.keptBut_mono (fun x hx' => ⟨hx', .inr (by simpa using hx')⟩) (hx.keptBut (· ∈ p ++ [])), fun _ => ⟨?_, _, _, ([] ++ p) ++ [], ⟨[] ++ p, [], trodAll_append (hargs _ (fun _ _ => rfl)) (hresT _ _ _), hvars _, rfl, ?_, ?_⟩, ?_⟩⟩
  · intro j t r h1 h2
    rw [hr] at h1 h2
    cases j with
    | zero =>
      simp at h1 h2
      subst h1
      have : r = .bool true := by simpa [Value.resultList] using h2.symm
      subst this
      exact okWide_bool_mk hb _
    | succ j => simp at h1
  · intro b off hp
    have hlt' := hlt _ (show MemPlace.cell b off ∈ p ++ [] by simpa using hp)
    rw [frozen_block (hx.block b hlt' (fun hn => hn))]
    exact hfz b off (by simpa using hp)
  · intro ha
    simpa using hnd ha
  · intro x hx' _
    simpa using hx'
end
end Go.Proofs.YthjdhfoeckfmbaaGreat
/- From a statement's reading: operations, commits, tags. -/
namespace Go.Proofs.YthjdhfoeckfmbaaGreat
open Go Go.ChangeShapes Go.WideShapes Go.RowKit
set_option linter.unusedVariables false
set_option linter.unusedSimpArgs false
set_option linter.unusedSectionVars false
variable [DD]
theorem split_cs {cs : List Value} (a b c : Nat) (h : a + b = c) : (cs.drop a).take b ++ cs.drop c = cs.drop a := by
  subst h
  rw [← List.drop_drop, List.take_append_drop]
section
variable {P : Program} {W : World} {R : Nat} {t : TypeId}
def OpS.wf (W : World) (R : Nat) (o : OpS) : Prop := i64ok o.kind ∧ o.tm.wf ∧ o.node.wf ∧ o.par.wf ∧ o.name.size ≤ R ∧ True ∧ Sl (Old W) stampCh 2 o.oh o.over W ∧ o.over.length * 16 ≤ R ∧ ∀ x ∈ o.over, x.wf
theorem Rd_op {f0 f1 f2 f3 f4 f5 f6 : Field} (hu : P.underlying t = some (.struct #[f0, f1, f2, f3, f4, f5, f6])) (hc : P.cellsOf t = 41) (o : f0.offset = 0 ∧ f1.offset = 1 ∧ f2.offset = 3 ∧ f3.offset = 5 ∧ f4.offset = 7 ∧ f5.offset = 8 ∧ f6.offset = 40)
    (c : P.cellsOf f0.type = 1 ∧ P.cellsOf f1.type = 2 ∧ P.cellsOf f2.type = 2 ∧ P.cellsOf f3.type = 2 ∧ P.cellsOf f4.type = 1 ∧ P.cellsOf f5.type = 32 ∧ P.cellsOf f6.type = 1)
    (h0 : P.underlying f0.type = some (.int .i64)) (h1 : Rd P W R f1.type (fun s : Stamp => (stampCh s).flatten) Stamp.wf) (h2 : Rd P W R f2.type (fun s : Stamp => (stampCh s).flatten) Stamp.wf) (h3 : Rd P W R f3.type (fun s : Stamp => (stampCh s).flatten) Stamp.wf)
    (h4 : P.underlying f4.type = some .string) (h5 : Rd P W R f5.type (fun d : ID => (idCh d).flatten) (fun _ => True)) (h6 : Rd P W R f6.type (fun x : SlH × List Stamp => [slV x.1 x.2]) (fun x => Sl (Old W) stampCh 2 x.1 x.2 W ∧ x.2.length * 16 ≤ R ∧ ∀ a ∈ x.2, a.wf)) :
    Rd P W R t (fun r : OpS => (opCh r).flatten) (OpS.wf W R) := by
  refine ⟨fun h hw => ?_⟩
  have hl := struct_len hu h
  obtain ⟨a0, e0, k0⟩ := struct_part hu h hw (i := 0) (f := f0) rfl (Rd_int h0)
  obtain ⟨a1, e1, k1⟩ := struct_part hu h hw (i := 1) (f := f1) rfl h1
  obtain ⟨a2, e2, k2⟩ := struct_part hu h hw (i := 2) (f := f2) rfl h2
  obtain ⟨a3, e3, k3⟩ := struct_part hu h hw (i := 3) (f := f3) rfl h3
  obtain ⟨a4, e4, k4⟩ := struct_part hu h hw (i := 4) (f := f4) rfl (Rd_str h4)
  obtain ⟨a5, e5, k5⟩ := struct_part hu h hw (i := 5) (f := f5) rfl h5
  obtain ⟨a6, e6, k6⟩ := struct_part hu h hw (i := 6) (f := f6) rfl h6
  obtain ⟨o0, o1, o2, o3, o4, o5, o6⟩ := o
  obtain ⟨c0, c1, c2, c3, c4, c5, c6⟩ := c
  rw [o0, c0] at e0
  rw [o1, c1] at e1
  rw [o2, c2] at e2
  rw [o3, c3] at e3
  rw [o4, c4] at e4
  rw [o5, c5] at e5
  rw [o6, c6, cutL (by omega)] at e6
  refine ⟨⟨a0, a1, a2, a3, a4, a5, a6.2, a6.1⟩, ?_, k0, k1, k2, k3, k4, k5, k6⟩
  rename_i cs _
  have s : cs = (cs.drop 0).take 1 ++ ((cs.drop 1).take 2 ++ ((cs.drop 3).take 2 ++ ((cs.drop 5).take 2 ++ ((cs.drop 7).take 1 ++ ((cs.drop 8).take 32 ++ cs.drop 40))))) := by
    rw [split_cs 8 32 40 rfl, split_cs 7 1 8 rfl, split_cs 5 2 7 rfl, split_cs 3 2 5 rfl, split_cs 1 2 3 rfl, split_cs 0 1 1 rfl, List.drop_zero]
  rw [s, e0, e1, e2, e3, e4, e5, e6]; rfl
def Label.wf (R : Nat) (l : Label) : Prop := True ∧ l.name.size ≤ R ∧ l.msg.size ≤ R
theorem Rd_label {f0 f1 f2 : Field} (hu : P.underlying t = some (.struct #[f0, f1, f2])) (hc : P.cellsOf t = 34) (o : f0.offset = 0 ∧ f1.offset = 32 ∧ f2.offset = 33) (c : P.cellsOf f0.type = 32 ∧ P.cellsOf f1.type = 1 ∧ P.cellsOf f2.type = 1)
    (h0 : Rd P W R f0.type (fun d : ID => (idCh d).flatten) (fun _ => True)) (h1 : P.underlying f1.type = some .string) (h2 : P.underlying f2.type = some .string) : Rd P W R t (fun r : Label => (labelCh r).flatten) (Label.wf R) := by
  refine ⟨fun h hw => ?_⟩
  have hl := struct_len hu h
  obtain ⟨a0, e0, k0⟩ := struct_part hu h hw (i := 0) (f := f0) rfl h0
  obtain ⟨a1, e1, k1⟩ := struct_part hu h hw (i := 1) (f := f1) rfl (Rd_str h1)
  obtain ⟨a2, e2, k2⟩ := struct_part hu h hw (i := 2) (f := f2) rfl (Rd_str h2)
  obtain ⟨o0, o1, o2⟩ := o
  obtain ⟨c0, c1, c2⟩ := c
  rw [o0, c0] at e0
  rw [o1, c1] at e1
  rw [o2, c2, cutL (by omega)] at e2
  refine ⟨⟨a0, a1, a2⟩, ?_, k0, k1, k2⟩
  rename_i cs _
  have s : cs = (cs.drop 0).take 32 ++ ((cs.drop 32).take 1 ++ cs.drop 33) := by
    rw [split_cs 32 1 33 rfl, split_cs 0 32 32 rfl, List.drop_zero]
  rw [s, e0, e1, e2]; rfl
def ChangeS.wf (W : World) (R : Nat) (c : ChangeS) : Prop :=
  (Sl (Old W) idCh 32 c.ph c.parents W ∧ c.parents.length * 32 ≤ R ∧ ∀ x ∈ c.parents, True) ∧ i64ok c.time ∧ i64ok c.r ∧ (Sl (Old W) opCh 41 c.oh c.ops W ∧ c.ops.length * 128 ≤ R ∧ ∀ x ∈ c.ops, x.wf W R) ∧ True ∧ c.msg.size ≤ R
theorem Rd_change {f0 f1 f2 f3 f4 f5 : Field} (hu : P.underlying t = some (.struct #[f0, f1, f2, f3, f4, f5])) (hc : P.cellsOf t = 37) (o : f0.offset = 0 ∧ f1.offset = 1 ∧ f2.offset = 2 ∧ f3.offset = 3 ∧ f4.offset = 4 ∧ f5.offset = 36)
    (c : P.cellsOf f0.type = 1 ∧ P.cellsOf f1.type = 1 ∧ P.cellsOf f2.type = 1 ∧ P.cellsOf f3.type = 1 ∧ P.cellsOf f4.type = 32 ∧ P.cellsOf f5.type = 1)
    (h0 : Rd P W R f0.type (fun x : SlH × List ID => [slV x.1 x.2]) (fun x => Sl (Old W) idCh 32 x.1 x.2 W ∧ x.2.length * 32 ≤ R ∧ ∀ a ∈ x.2, True)) (h1 : P.underlying f1.type = some (.int .i64)) (h2 : P.underlying f2.type = some (.int .i64))
    (h3 : Rd P W R f3.type (fun x : SlH × List OpS => [slV x.1 x.2]) (fun x => Sl (Old W) opCh 41 x.1 x.2 W ∧ x.2.length * 128 ≤ R ∧ ∀ a ∈ x.2, a.wf W R)) (h4 : Rd P W R f4.type (fun d : ID => (idCh d).flatten) (fun _ => True)) (h5 : P.underlying f5.type = some .string) :
    Rd P W R t (fun r : ChangeS => (changeCh r).flatten) (ChangeS.wf W R) := by
  refine ⟨fun h hw => ?_⟩
  have hl := struct_len hu h
  obtain ⟨a0, e0, k0⟩ := struct_part hu h hw (i := 0) (f := f0) rfl h0
  obtain ⟨a1, e1, k1⟩ := struct_part hu h hw (i := 1) (f := f1) rfl (Rd_int h1)
  obtain ⟨a2, e2, k2⟩ := struct_part hu h hw (i := 2) (f := f2) rfl (Rd_int h2)
  obtain ⟨a3, e3, k3⟩ := struct_part hu h hw (i := 3) (f := f3) rfl h3
  obtain ⟨a4, e4, k4⟩ := struct_part hu h hw (i := 4) (f := f4) rfl h4
  obtain ⟨a5, e5, k5⟩ := struct_part hu h hw (i := 5) (f := f5) rfl (Rd_str h5)
  obtain ⟨o0, o1, o2, o3, o4, o5⟩ := o
  obtain ⟨c0, c1, c2, c3, c4, c5⟩ := c
  rw [o0, c0] at e0
  rw [o1, c1] at e1
  rw [o2, c2] at e2
  rw [o3, c3] at e3
  rw [o4, c4] at e4
  rw [o5, c5, cutL (by omega)] at e5
  refine ⟨⟨a0.2, a0.1, a1, a2, a3.2, a3.1, a4, a5⟩, ?_, k0, k1, k2, k3, k4, k5⟩
  rename_i cs _
  have s : cs = (cs.drop 0).take 1 ++ ((cs.drop 1).take 1 ++ ((cs.drop 2).take 1 ++ ((cs.drop 3).take 1 ++ ((cs.drop 4).take 32 ++ cs.drop 36)))) := by
    rw [split_cs 4 32 36 rfl, split_cs 3 1 4 rfl, split_cs 2 1 3 rfl, split_cs 1 1 2 rfl, split_cs 0 1 1 rfl, List.drop_zero]
  rw [s, e0, e1, e2, e3, e4, e5]; rfl
end
end Go.Proofs.YthjdhfoeckfmbaaGreat
/- From a statement's reading: items. -/
namespace Go.Proofs.YthjdhfoeckfmbaaGreat
open Go Go.ChangeShapes Go.WideShapes Go.RowKit
set_option linter.unusedVariables false
set_option linter.unusedSimpArgs false
set_option linter.unusedSectionVars false
variable [DD]
section
variable {P : Program} {W : World} {R : Nat} {t : TypeId}
def ItemS.wf (W : World) (R : Nat) (x : ItemS) : Prop := x.node.wf ∧ x.tm.wf ∧ x.name.size ≤ R ∧ True ∧ Sl (Old W) headCh 34 x.hh x.heads W ∧ x.heads.length * 48 ≤ R ∧ ∀ a ∈ x.heads, a.wf
theorem Rd_item {f0 f1 f2 f3 f4 : Field} (hu : P.underlying t = some (.struct #[f0, f1, f2, f3, f4])) (hc : P.cellsOf t = 38) (o : f0.offset = 0 ∧ f1.offset = 2 ∧ f2.offset = 4 ∧ f3.offset = 5 ∧ f4.offset = 37)
    (c : P.cellsOf f0.type = 2 ∧ P.cellsOf f1.type = 2 ∧ P.cellsOf f2.type = 1 ∧ P.cellsOf f3.type = 32 ∧ P.cellsOf f4.type = 1)
    (h0 : Rd P W R f0.type (fun s : Stamp => (stampCh s).flatten) Stamp.wf) (h1 : Rd P W R f1.type (fun s : Stamp => (stampCh s).flatten) Stamp.wf)
    (h2 : P.underlying f2.type = some .string) (h3 : Rd P W R f3.type (fun d : ID => (idCh d).flatten) (fun _ => True)) (h4 : Rd P W R f4.type (fun x : SlH × List Head => [slV x.1 x.2]) (fun x => Sl (Old W) headCh 34 x.1 x.2 W ∧ x.2.length * 48 ≤ R ∧ ∀ a ∈ x.2, a.wf)) :
    Rd P W R t (fun r : ItemS => (itemCh r).flatten) (ItemS.wf W R) := by
  refine ⟨fun h hw => ?_⟩
  have hl := struct_len hu h
  obtain ⟨a0, e0, k0⟩ := struct_part hu h hw (i := 0) (f := f0) rfl h0
  obtain ⟨a1, e1, k1⟩ := struct_part hu h hw (i := 1) (f := f1) rfl h1
  obtain ⟨a2, e2, k2⟩ := struct_part hu h hw (i := 2) (f := f2) rfl (Rd_str h2)
  obtain ⟨a3, e3, k3⟩ := struct_part hu h hw (i := 3) (f := f3) rfl h3
  obtain ⟨a4, e4, k4⟩ := struct_part hu h hw (i := 4) (f := f4) rfl h4
  obtain ⟨o0, o1, o2, o3, o4⟩ := o
  obtain ⟨c0, c1, c2, c3, c4⟩ := c
  rw [o0, c0] at e0
  rw [o1, c1] at e1
  rw [o2, c2] at e2
  rw [o3, c3] at e3
  rw [o4, c4, cutL (by omega)] at e4
  refine ⟨⟨a0, a1, a2, a3, a4.2, a4.1⟩, ?_, k0, k1, k2, k3, k4⟩
  rename_i cs _
  have s : cs = (cs.drop 0).take 2 ++ ((cs.drop 2).take 2 ++ ((cs.drop 4).take 1 ++ ((cs.drop 5).take 32 ++ cs.drop 37))) := by
    rw [split_cs 5 32 37 rfl, split_cs 4 1 5 rfl, split_cs 2 2 4 rfl, split_cs 0 2 2 rfl, List.drop_zero]
  rw [s, e0, e1, e2, e3, e4]; rfl
end
end Go.Proofs.YthjdhfoeckfmbaaGreat
/- Readers: a pointer to a variable of the caller's own in which a slice of bytes stands that is only read. -/
namespace Go.Proofs.YthjdhfoeckfmbaaGreat
open Go
set_option linter.unusedVariables false
set_option linter.unusedSimpArgs false
set_option linter.unusedSectionVars false
variable [DD]
/-- A reader: the bytes that are left, where they lie, has it failed? -/
structure RdS where
  b : List UInt8
  bh : SlH
  bad : Bool
def RdS.st (r : RdS) : List UInt8 × Bool := (r.b, r.bad)
abbrev rdCh (r : RdS) : Chs := [[slV r.bh r.b], [.bool r.bad]]
abbrev rdV (r : RdS) : Value := aggOf (rdCh r)
/-- The reader in block b, its bytes in the blocks S. -/
abbrev RdQ (T : TypeId) (b : Nat) (S : Nat → Prop) (r : RdS) (w : World) : Prop := Ctx w (fun c => c = b) w [boxR b T (rdCh r)] [slI S encB 1 r.bh r.b]
section
variable {w0 w w' : World} {M : Nat → Prop} {B : List Own} {I : List Imm} {T : TypeId} {b : Nat} {S : Nat → Prop} {r r' : RdS}
theorem Ctx.rdStart (H : Ctx w0 M w [boxR b T (rdCh r)] I) : Ctx w (fun c => c = b) w [boxR b T (rdCh r)] I :=
  H.restart fun o ho c hc => by
    simp only [List.mem_cons, List.not_mem_nil, or_false] at ho
    subst ho
    simp only [boxR, Option.some.injEq] at hc
    exact hc.symm
theorem Ctx.immSet (H : Ctx w0 M w B I) (j : Nat) {i0 : Imm} (hj : I[j]? = some i0) (i : Imm) (hF : ∀ c, i.F c → i0.F c) (hp : i.p w) : Ctx w0 M w B (I.set j i) := by
  have key : ∀ x ∈ I.set j i, x = i ∨ x ∈ I := fun x hx => (List.mem_or_eq_of_mem_set hx).elim .inr .inl
  have h0 := List.mem_of_getElem? hj
  refine ⟨H.gr, H.own, fun x hx => ?_, H.apart, fun o ho x hx c hc hF' => ?_⟩
  · rcases key x hx with rfl | hx
    · exact ⟨hp, fun c hc => (H.imm _ h0).2 c (hF c hc)⟩
    · exact H.imm x hx
  · rcases key x hx with rfl | hx
    · exact H.off o ho _ h0 c hc (hF c hF')
    · exact H.off o ho x hx c hc hF'
/-- Behind a call that reads on. -/
theorem Ctx.rdUpd (H : Ctx w0 M w B I) (i j : Nat) (hi : B[i]? = some (boxR b T (rdCh r))) (hj : I[j]? = some (slI S encB 1 r.bh r.b)) (hg : Gr (fun c => c = b) w w') (hQ : RdQ T b S r' w') :
    Ctx w0 M w' (B.set i (boxR b T (rdCh r'))) (I.set j (slI S encB 1 r'.bh r'.b)) := by
  have h1 := H.upd i hi (boxR b T (rdCh r')) (hg.mono fun c hc => congrArg some hc.symm) (hQ.getOwn 0 rfl) (fun c hc => .inl hc)
  exact h1.immSet j hj _ (fun _ h => h) (hQ.getImm 0 rfl)
/-- Behind a call that reads on and makes a row. -/
theorem Ctx.rdRow {α : Type} {t : TypeId} {k : Nat} {enc : α → Chs} {h : SlH} {l : List α} (H : Ctx w0 M w B I) (i j : Nat) (hi : B[i]? = some (boxR b T (rdCh r))) (hj : I[j]? = some (slI S encB 1 r.bh r.b)) (hg : Gr (fun c => c = b) w w') (hQ : RdQ T b S r' w')
    (hq : OwnS w.heap.size t k enc h l w') : Ctx w0 M w' (rowR t k enc h l :: B.set i (boxR b T (rdCh r'))) (I.set j (slI S encB 1 r'.bh r'.b)) := by
  have h1 := H.rdUpd i j hi hj hg hQ
  have hmi := List.mem_of_getElem? hi
  have hmj := List.mem_of_getElem? hj
  have hB : ∀ o ∈ B.set i (boxR b T (rdCh r')), ∀ c, o.blk = some c → c < w.heap.size := fun o ho c hc =>
    (List.mem_or_eq_of_mem_set ho).elim (fun h => ((H.own o h).2 c hc).1) (fun h => by subst h; exact ((H.own _ hmi).2 c hc).1)
  have hI : ∀ x ∈ I.set j (slI S encB 1 r'.bh r'.b), ∀ c, x.F c → c < w.heap.size := fun x hx c hc =>
    (List.mem_or_eq_of_mem_set hx).elim (fun h => (H.imm x h).2 c hc) (fun h => by subst h; exact (H.imm _ hmj).2 c hc)
  refine ⟨h1.gr, fun o ho => ?_, h1.imm, .cons (fun o ho c hc hc' => ?_) h1.apart, fun o ho x hx c hc hF => ?_⟩
  · rcases List.mem_cons.1 ho with rfl | ho
    · exact ⟨hq.base, fun c hc => ⟨(hq.1.lt c hc).2, fun hlt => by have := (hq.1.lt c hc).1; have := H.gr.size; omega⟩⟩
    · exact h1.own o ho
  · have := (hq.1.lt c hc).1
    have := hB o ho c hc'
    omega
  · rcases List.mem_cons.1 ho with rfl | ho
    · have := (hq.1.lt c hc).1
      have := hI x hx c hF
      omega
    · exact h1.off o ho x hx c hc hF
/-- A reader that a call has made. -/
theorem Ctx.addRd (H : Ctx w0 M w B I) (hx : Ext w w') (hb : w.heap.size ≤ b) (hS : ∀ c, S c → w.heap.size ≤ c) (hQ : RdQ T b S r w') : Ctx w0 M w' (boxR b T (rdCh r) :: B) (slI S encB 1 r.bh r.b :: I) := by
  have h1 := H.addOwn hx (boxR b T (rdCh r)) (hQ.getOwn 0 rfl) (fun c hc => by
    have : b = c := by simpa [boxR] using hc
    subst this
    exact ⟨hb, boxR_lt (hQ.getOwn 0 rfl)⟩)
  refine h1.addImm' _ (hQ.getImm 0 rfl) fun c hc => ⟨(hQ.imm _ (by simp)).2 c hc, fun o ho ho' => ?_⟩
  rcases List.mem_cons.1 ho with rfl | ho
  · exact hQ.off _ (by simp) _ (by simp) c ho' hc
  · have := ((H.own o ho).2 c ho').1
    have := hS c hc
    omega
/-- A row that is the call's own lies in new memory, for it isn't the reader. -/
theorem Ctx.retRowM {α : Type} {t : TypeId} {k : Nat} {enc : α → Chs} {h : SlH} {l : List α} {cs : Chs} (H : Ctx w0 (fun c => c = b) w B I) (i j : Nat) (hij : i ≠ j) (hi : B[i]? = some (boxR b T cs)) (hj : B[j]? = some (rowR t k enc h l)) : OwnS w0.heap.size t k enc h l w := by
  have hq : OwnS 0 t k enc h l w := H.getOwn j hj
  refine ⟨⟨hq.1.1, ?_⟩, hq.2⟩
  rcases hq.1.2 with hn | ⟨g, cap, cur, hv, hb0, r⟩
  · exact .inl hn
  · refine .inr ⟨g, cap, cur, hv, ?_, r⟩
    have hgb : (rowR t k enc h l).blk = some g := by simp only [rowR]; rw [hv]; rfl
    have := ((H.own _ (List.mem_of_getElem? hj)).2 g hgb).2
    rcases Nat.lt_or_ge g w0.heap.size with hlt | hge
    · have := this hlt
      subst this
      exact absurd hgb (H.apart2 hij hi hj _ rfl)
    · exact hge
theorem Ctx.boxNew' (H : Ctx w0 nob w B I) (i : Nat) {cs : Chs} (hi : B[i]? = some (boxR b T cs)) : w0.heap.size ≤ b := by
  rcases Nat.lt_or_ge b w0.heap.size with hlt | hge
  · exact (((H.own _ (List.mem_of_getElem? hi)).2 b rfl).2 hlt).elim
  · exact hge
end
end Go.Proofs.YthjdhfoeckfmbaaGreat
/- Texts and bytes: a text out of bytes, bytes out of a text, bytes copied into an ID. -/
namespace Go.Proofs.YthjdhfoeckfmbaaGreat
open Go
set_option linter.unusedVariables false
set_option linter.unusedSimpArgs false
set_option linter.unusedSectionVars false
variable [DD]
section
variable {α : Type} {P : Program} {ρ : Operand → Value} {w0 w w' : World} {M : Nat → Prop} {B : List Own} {I : List Imm} {K : Value → World → Prop} {d : Option Tmp} {ty : TypeId} {pos : String} {af : Array Edge} {g : Option (Nat × Bool)} {F : Nat → Prop} {h : SlH} {l : List UInt8}
theorem R_conv_bs {s t e : TypeId} {x : Operand} (hs : P.underlying s = some (.slice e)) (he : P.underlying e = some (.int .u8)) (ht : P.underlying t = some .string) (S : Sl F encB 1 h l w) (hx : ρ x = slV h l) (hK : K (.string ⟨l.toArray⟩) w) :
    Runs P ρ ⟨d, .convert s t x, ty, pos, af, g⟩ w K := by
  refine .value (v := .string ⟨l.toArray⟩) (w' := w) ?_ hK
  rcases l.eq_nil_or_concat with rfl | ⟨l', b, rfl⟩
  · simp only [execOp, hx, Sem.run_bind]
    by_cases ha : h.a = none
    · rw [show (slV h ([] : List UInt8)) = .slice none 0 h.c from by simp [slV, ha], run_convert_bytes_string w s t e none 0 _ hs he ht]
      rfl
    · obtain ⟨a, ha⟩ := Option.ne_none_iff_exists'.1 ha
      have := run_convert_bytes_back (P := P) w s t e a h.c [] hs he ht (fun j hj => by simp at hj)
      rw [show (slV h ([] : List UInt8)) = .slice (some a) ([] : List UInt8).length h.c from by simp [slV, ha], this]
      rfl
  · obtain ⟨ha, hF⟩ := S.there (by simp)
    have := run_convert_bytes_back (P := P) w s t e ⟨h.b, h.o, none⟩ h.c (l'.concat b) hs he ht (fun j hj => by
      have := (S.cells j _ (List.getElem?_eq_getElem hj)) 0 (byteV _) rfl
      rw [add_lit]
      simpa [byteV] using this)
    simp only [execOp, hx, Sem.run_bind]
    rw [show (slV h (l'.concat b)) = .slice (some ⟨h.b, h.o, none⟩) (l'.concat b).length h.c from by simp [slV, ha], this]
    rfl
theorem bytesRow_get (s : ByteArray) (cap j : Nat) (x : UInt8) (hx : s.data.toList[j]? = some x) : (bytesRow s cap)[j]? = some (byteV x) := by
  have hj : j < s.data.size := by simpa using (List.getElem?_eq_some_iff.1 hx).1
  rw [bytesRow_at s cap j hj]
  have : s.data[j] = x := by
    rw [← Array.getElem_toList (h := by simpa using hj)]
    exact (List.getElem?_eq_some_iff.1 hx).2
  rw [this]; rfl
/-- '[]byte' of a text: bytes in new memory. -/
theorem C_convSB (H : Ctx w0 M w B I) {s t e : TypeId} {x : Operand} {str : ByteArray} (hs : P.underlying s = some .string) (ht : P.underlying t = some (.slice e)) (he : P.underlying e = some (.int .u8)) (hx : ρ x = .string str) (hl : str.size ≤ 140737488355328)
    (hK : ∀ h' w', Ext w w' → Ctx w0 M w' B (slI (fun b => b = w.heap.size) encB 1 h' str.data.toList :: I) → K (slV h' str.data.toList) w') : Runs P ρ ⟨d, .convert s t x, ty, pos, af, g⟩ w K := by
  have hr := run_bytes_of_string (P := P) w s t e str hs ht he
  obtain ⟨cap, hcap⟩ : ∃ c, c = grownCap w str.size 0 e := ⟨_, rfl⟩
  rw [← hcap] at hr
  have hle : str.size ≤ cap ∧ cap ≤ maxLen := by
    rw [hcap]
    exact ⟨grownCap_ge _ _ _ _, grownCap_le_maxLen _ _ _ _ (by simp only [maxLen]; omega)⟩
  have hext : Ext w (w.drew.alloc (.cells (bytesRow str cap) e ((bytesRow str cap).size, (bytesRow str cap).size + 1))) := by
    refine ⟨rfl, rfl, rfl, ?_, fun k hk _ => ?_, fun _ => sem_drawn _ _ hr⟩
    · show w.heap.size ≤ (w.heap.push _).size
      simp
    · show (w.heap.push _)[k]? = _
      rw [Array.getElem?_push_lt hk]
      exact (Array.getElem?_eq_getElem hk).symm
  refine .value (v := slV ⟨some ⟨w.heap.size, 0, none⟩, w.heap.size, 0, cap⟩ str.data.toList) ?_ (hK _ _ hext (H.addImm hext _ ⟨?_, ?_, ?_, ?_⟩ ?_))
  · simp only [execOp, hx, Sem.run_bind, hr, Result.andThen_ok, Sem.run_pure]
    simp [slV, Array.length_toList]
  · simpa using hle.1
  · exact hle.2
  · intro _; exact ⟨rfl, rfl⟩
  · intro i y hy j v hv
    have hj : j = 0 := by
      have := (List.getElem?_eq_some_iff.1 hv).1
      simp at this; omega
    subst hj
    simp at hv
    subst hv
    have := World.cell?_alloc_mark w.drew (bytesRow str cap) e ((bytesRow str cap).size, (bytesRow str cap).size + 1) i
    rw [bytesRow_get str cap i y hy] at this
    simpa using this
  · rintro b rfl
    refine ⟨Nat.le_refl _, ?_⟩
    show _ < (w.heap.push _).size
    simp
/-- Bytes put over an ID's. -/
def idPut (d : ID) (l : List UInt8) : ID := Vector.ofFn fun i => l.getD i.1 d[i.1]
theorem idPut_nil (d : ID) : idPut d [] = d := by
  apply Vector.ext
  intro i hi
  simp [idPut]
theorem idPut_cells (d : ID) {l : List UInt8} (hl : l.length = 32) : idCells (idPut d l) = l.map byteV := by
  rw [idCells_eq]
  refine congrArg (List.map byteV) ?_
  apply List.ext_getElem
  · simp [hl]
  · intro i h1 h2
    simp [idPut, List.getElem?_eq_getElem h2]
/-- 'copy' of as many bytes as a variable has cells. -/
theorem C_copyCells (H : Ctx w0 M w B I) (i : Nat) {b : Nat} {tb : TypeId} {cs : List Value} (hcs : cs.length = 32) (hi : B[i]? = some (boxR b tb [cs])) (S : Sl F encB 1 h l w) (hl : l.length = 32) {ops : List Operand} {t t2 e : TypeId} (hu : P.underlying t = some (.slice e)) (hz : ∀ w, (sizeOf e).run P w = .ok 1 w)
    (hx : ops.map ρ = [.slice (some ⟨b, 0, none⟩) 32 32, slV h l])
    (hK : ∀ w', Gr (fun k => some b = some k) w w' → Ctx w0 M w' (B.set i (boxR b tb [l.map byteV])) I → K (.int .i64 l.length) w') :
    Runs P ρ ⟨d, .call { callee := .builtin .copy, args := ops.toArray, argTypes := #[t, t2] }, ty, pos, af, g⟩ w K := by
  have hb : w.heap[b]? = some (.cells [cs].flatten.toArray tb (0, 0)) := H.getOwn i hi
  have hst := run_storeCells_at P b 0 tb (l.map byteV) 0 [cs].flatten.toArray w hb (by simp [hl, hcs]) (fun u hu => by
    obtain ⟨y, _, rfl⟩ := List.mem_map.1 hu; rfl)
  obtain ⟨ha, _⟩ := S.there (by omega)
  have hld := run_loadCells_list (P := P) w ⟨h.b, h.o, none⟩ (l.map byteV) (fun j u hj => by
    rw [List.getElem?_map] at hj
    obtain ⟨y, hy, rfl⟩ := Option.map_eq_some_iff.1 hj
    rw [add_lit]
    simpa using S.cells j y hy 0 (byteV y) rfl)
  rw [List.length_map, hl] at hld
  have e1 : ([cs].flatten.toArray.toList.take (0 + 0) ++ l.map byteV ++ [cs].flatten.toArray.toList.drop (0 + 0 + (l.map byteV).length)) = [l.map byteV].flatten := by
    simp [hl, hcs]
  rw [e1] at hst
  refine .value (v := .int .i64 l.length) (w' := w.setRow b [l.map byteV].flatten.toArray) ?_ (hK _ (Gr_setRow _ _ _) (H.upd i hi _ (Gr_setRow _ _ _) ?_ fun b' hb' => .inl hb'))
  · have hargs : ops.toArray.map ρ = #[.slice (some ⟨b, 0, none⟩) 32 32, .slice (some ⟨h.b, h.o, none⟩) l.length h.c] := by rw [List.map_toArray, hx, ← ha]
    simp only [execOp, resolve, invoke, builtin, hargs, Sem.run_bind, Sem.run_pure, Result.andThen_ok]
    simp [Builtin.copy_, run_underlying hu, Builtin.lenOf, Builtin.firstCells, hz, ha, hl, hld, hst, goInt]
  · exact setRow_heap w b _ _ tb _ hb
/-- 'copy' of no bytes. -/
theorem R_copyNone {a : Option Addr} {n c : Nat} {ops : List Operand} {t t2 e : TypeId} (hu : P.underlying t = some (.slice e)) (hz : ∀ w, (sizeOf e).run P w = .ok 1 w)
    (hx : ops.map ρ = [.slice a n c, slV h ([] : List UInt8)]) (hK : K (.int .i64 ((0 : Nat) : Int)) w) :
    Runs P ρ ⟨d, .call { callee := .builtin .copy, args := ops.toArray, argTypes := #[t, t2] }, ty, pos, af, g⟩ w K := by
  refine .value (v := .int .i64 ((0 : Nat) : Int)) (w' := w) ?_ hK
  have hl0 : ∀ (x : Addr), (loadCells x 0).run P w = .ok #[] w := fun x => by simpa using run_loadCells_list (P := P) w x [] (by simp)
  have hargs : ∃ a2 c2, ops.toArray.map ρ = #[.slice a n c, .slice a2 0 c2] := ⟨h.a, h.c, by rw [List.map_toArray, hx]; rfl⟩
  obtain ⟨a2, c2, hargs⟩ := hargs
  simp only [execOp, resolve, invoke, builtin, hargs, Sem.run_bind, Sem.run_pure, Result.andThen_ok]
  cases a2 <;> cases a <;> simp [Builtin.copy_, run_underlying hu, Builtin.lenOf, Builtin.firstCells, hz, hl0, goInt, storeCells]
/-- 'copy' of as many bytes as an ID has, or of none, into a variable that holds an ID. -/
theorem C_copyId (H : Ctx w0 M w B I) (i : Nat) {b : Nat} {tb : TypeId} {v : ID} (hi : B[i]? = some (boxR b tb [idCells v])) (S : Sl F encB 1 h l w) (hl : l.length = 32 ∨ l = []) {ops : List Operand} {t t2 e : TypeId} (hu : P.underlying t = some (.slice e)) (hz : ∀ w, (sizeOf e).run P w = .ok 1 w)
    (hx : ops.map ρ = [.slice (some ⟨b, 0, none⟩) 32 32, slV h l])
    (hK : ∀ w', Gr (fun k => some b = some k) w w' → Ctx w0 M w' (B.set i (boxR b tb [idCells (idPut v l)])) I → K (.int .i64 ((l.length : Nat) : Int)) w') :
    Runs P ρ ⟨d, .call { callee := .builtin .copy, args := ops.toArray, argTypes := #[t, t2] }, ty, pos, af, g⟩ w K := by
  rcases hl with hl | rfl
  · refine C_copyCells H i (cs := idCells v) rfl hi S hl hu hz hx fun w' hg H' => ?_
    have := hK w' hg
    rw [idPut_cells v hl] at this
    exact this H'
  · refine R_copyNone hu hz hx ?_
    have := hK w (Gr.refl _ _)
    rw [idPut_nil] at this
    have hset : B.set i (boxR b tb [idCells v]) = B := by
      apply List.ext_getElem?
      intro j
      rw [List.getElem?_set]
      split
      · subst_vars
        split
        · exact hi.symm
        · rename_i hn; rw [List.getElem?_eq_none (by omega)]
      · rfl
    rw [hset] at this
    exact this H
end
theorem Ctx.boxOld {w0 w : World} {M : Nat → Prop} {B : List Own} {I : List Imm} {b : Nat} {t : TypeId} {d : ID} (H : Ctx w0 M w B I) (i : Nat) (hi : B[i]? = some (boxR b t [idCells d])) : Sl (Old w) encB 1 ⟨some ⟨b, 0, none⟩, b, 0, 32⟩ (idList d) w :=
  (Sl_box (H.getOwn i hi)).mono fun k hk => ((H.own _ (List.mem_of_getElem? hi)).2 k hk).1
theorem callsCat {P : Program} {k : FuncId} {a c : Value} {w : World} {K : Ending → World → Prop} (h : Calls P k #[a, c] w K) : Calls P k (#[a] ++ #[c]) w K := by simpa using h
theorem bit_or64 {a b : Nat} (ha : a < 18446744073709551616) (hb : b < 18446744073709551616) : bitI .u64 .or ((a : Nat) : Int) ((b : Nat) : Int) = some (((a ||| b : Nat)) : Int) := by
  simp only [bitI, Option.some.injEq]
  have h1 : (BitVec.ofInt IntKind.u64.bits ((a : Nat) : Int) ||| BitVec.ofInt IntKind.u64.bits ((b : Nat) : Int)).toNat = a ||| b := by
    show (BitVec.ofInt 64 ((a : Nat) : Int) ||| BitVec.ofInt 64 ((b : Nat) : Int)).toNat = _
    rw [BitVec.toNat_or, BitVec.ofInt_natCast, BitVec.ofInt_natCast, BitVec.toNat_ofNat, BitVec.toNat_ofNat, Nat.mod_eq_of_lt (by simpa using ha), Nat.mod_eq_of_lt (by simpa using hb)]
  rw [h1]
  have : a ||| b < 2 ^ 64 := Nat.or_lt_two_pow (by simpa using ha) (by simpa using hb)
  exact u64_in _ (by omega)
theorem shl_nat {a b : Nat} (hb : b ≤ 64) (h : a * 2 ^ b < 18446744073709551616) : IntKind.u64.wrap (((a : Nat) : Int) * 2 ^ min ((b : Nat) : Int).toNat IntKind.u64.bits) = ((a * 2 ^ b : Nat) : Int) := by
  rw [show min ((b : Nat) : Int).toNat IntKind.u64.bits = b from by simp [IntKind.bits]; omega]
  have e : ((a : Nat) : Int) * 2 ^ b = ((a * 2 ^ b : Nat) : Int) := by simp
  rw [e]
  exact u64_in _ (by omega)
theorem conv_864 (b : UInt8) : IntKind.u64.wrap (b.toNat : Int) = (b.toNat : Int) := by
  have := b.toNat_lt
  exact u64_in _ (by omega)
end Go.Proofs.YthjdhfoeckfmbaaGreat
/- bytes.Compare's entry: the order of two slices of bytes. -/
namespace Go.Proofs.YthjdhfoeckfmbaaGreat
open Go
set_option linter.unusedVariables false
set_option linter.unusedSimpArgs false
set_option linter.unusedSectionVars false
variable [DD]
section
variable {P : Program} {ρ : Operand → Value} {w : World} {K : Value → World → Prop} {d : Option Tmp} {ty : TypeId} {pos : String} {af : Array Edge} {g : Option (Nat × Bool)} {F F2 : Nat → Prop} {h h2 : SlH} {l l2 : List UInt8}
theorem loadB : ∀ (l : List UInt8) (b o : Nat) (acc : List UInt8), (∀ j x, l[j]? = some x → w.cell? ⟨b, o + j, none⟩ = some (byteV x)) → (Extern.Bytes.loadBytes ⟨b, o, none⟩ l.length ⟨acc.toArray⟩).run P w = .ok ⟨(acc ++ l).toArray⟩ w
  | [], b, o, acc, _ => by simp [Extern.Bytes.loadBytes, Sem.run_pure]
  | x :: l, b, o, acc, h => by
    have ih := loadB l b (o + 1) (acc ++ [x]) fun j y hy => by
      have := h (j + 1) y (by simpa using hy)
      rwa [show o + (j + 1) = o + 1 + j from by omega] at this
    have h0 : w.cell? ⟨b, o, none⟩ = some (.int .u8 (x.toNat : Int)) := by simpa [byteV] using h 0 x rfl
    have e : (ByteArray.mk acc.toArray).push ((x.toNat : Int).toNat).toUInt8 = ⟨(acc ++ [x]).toArray⟩ := by
      apply ByteArray.ext
      simp [ByteArray.push]
    rw [List.length_cons, Extern.Bytes.loadBytes]
    simp only [Sem.run_bind, run_load, h0, Result.andThen, add_lit, e]
    rw [ih]
    simp
theorem run_bytesOf_sl (S : Sl F encB 1 h l w) : (Extern.Bytes.bytesOf (slV h l)).run P w = .ok ⟨l.toArray⟩ w := by
  cases ha : h.a with
  | none =>
    have : l = [] := S.isNil (by rw [ha]; rfl)
    subst this
    show (Extern.Bytes.bytesOf (.slice h.a 0 h.c)).run P w = _
    rw [ha]
    rfl
  | some a =>
    show (Extern.Bytes.bytesOf (.slice h.a l.length h.c)).run P w = _
    rw [ha]
    rcases l.eq_nil_or_concat with rfl | ⟨l', y, rfl⟩
    · rfl
    · have e := (S.there (by simp)).1
      rw [ha] at e
      injection e with e
      subst e
      exact loadB _ h.b h.o [] fun j x hx => by simpa using S.cells j x hx 0 (byteV x) rfl
theorem run_compare_sl (S : Sl F encB 1 h l w) (S2 : Sl F2 encB 1 h2 l2 w) : (Extern.BytealgCompare.compare #[slV h l, slV h2 l2]).run P w = .ok (.int .i64 (Lib.compareBytes l l2)) w := by
  change Sem.run P (do pure (goInt (Extern.BytealgCompare.cmp (← Extern.Bytes.bytesOf (slV h l)) (← Extern.Bytes.bytesOf (slV h2 l2))))) w = _
  simp only [Sem.run_bind, Sem.run_pure, run_bytesOf_sl S, run_bytesOf_sl S2, Result.andThen]
  rw [Lib.cmp_eq]
  rfl
/-- A call of an entry. -/
theorem R_callX {k : FuncId} {fn : Func} {e : Array Value → Sem Value} {v : Value} {ls : List Operand} {vs : List Value} {at_ : Array TypeId} (hf : P.funcs[k]? = some fn) (hname : (fn.name == "runtime.NumGoroutine") = false)
    (hb : fn.body.isNone = true) (hn : Extern.findNext fn = none) (he : Extern.find fn = some e) (hfn : ρ (.func k) = .func (.func k) #[] #[]) (hv : ls.map ρ = vs) (hr : (e vs.toArray).run P w = .ok v w) (hK : K v w) :
    Runs P ρ ⟨d, .call { callee := .value (.func k), args := ls.toArray, argTypes := at_ }, ty, pos, af, g⟩ w K := by
  refine .value (v := v) (w' := w) ?_ hK
  have hargs : ls.toArray.map ρ = vs.toArray := by rw [List.map_toArray, hv]
  simp only [execOp, resolve, hfn, Deferred.ofValue, hargs]
  simp only [Sem.run_bind, Sem.run_pure, Result.andThen_ok, invoke, Array.append_empty, Array.empty_append]
  rw [run_callFunc_extern hf hname hb hn he, hr]
  rfl
theorem R_compare {k : FuncId} {fn : Func} {ls : List Operand} {at_ : Array TypeId} (hf : P.funcs[k]? = some fn) (hname : (fn.name == "runtime.NumGoroutine") = false)
    (hb : fn.body.isNone = true) (hn : Extern.findNext fn = none) (he : Extern.find fn = some Extern.BytealgCompare.compare) (hfn : ρ (.func k) = .func (.func k) #[] #[]) (hv : ls.map ρ = [slV h l, slV h2 l2]) (S : Sl F encB 1 h l w) (S2 : Sl F2 encB 1 h2 l2 w) (hK : K (.int .i64 (Lib.compareBytes l l2)) w) :
    Runs P ρ ⟨d, .call { callee := .value (.func k), args := ls.toArray, argTypes := at_ }, ty, pos, af, g⟩ w K :=
  R_callX hf hname hb hn he hfn hv (run_compare_sl S S2) hK
end
end Go.Proofs.YthjdhfoeckfmbaaGreat
/- A region in which two operations of the chain may come in either order. -/
namespace Go.Proofs.YthjdhfoeckfmbaaGreat
open Go
set_option linter.unusedVariables false
set_option linter.unusedSimpArgs false
set_option linter.unusedSectionVars false
variable [DD]
/-- As 'chk'; at the end of the list two of the chain are ready, and each goes on by an order of its own. -/
def chkF (ops : Array Oper) (mf : Nat → Nat) (πa πb : List (Nat × Kd)) : Array Bool → List (Nat × Kd) → Bool
  | listed, [] => match πa, πb with
    | (a, .c ma) :: ra, (b, .c mb) :: rb => Region.ready .any ops listed == [a, b] && Nat.beq (mf a) ma && Nat.beq (mf b) mb && Nat.beq ra.length rb.length && chk ops mf (listed.setIfInBounds a true) ra && chk ops mf (listed.setIfInBounds b true) rb
    | _, _ => false
  | listed, (k, .c m) :: rest => Region.ready .any ops listed == [k] && Nat.beq (mf k) m && chkF ops mf πa πb (listed.setIfInBounds k true) rest
  | listed, (k, .q wk) :: rest =>
    (Region.ready .any ops listed).contains k && Nat.beq (mf k) 0 && freeOk ops mf listed k wk (waits ops listed k) && chkF ops mf πa πb (listed.setIfInBounds k true) rest
section
variable {P : Program} {n : Nat} {ops : Array Oper} {M : Nat → Prop} {mf : Nat → Nat} {Q : Env → World → Prop}
theorem Lx_step (hsel : Region.noSelect ops = true) {k mu : Nat} {rest : List (Nat × Kd)} {listed : Array Bool} {e : Env} {wc w : World} {a : Act} (hm : mf k = mu) (hc : chk ops mf (listed.setIfInBounds k true) rest = true)
    (h : Lx P n ops M Q ((k, .c mu) :: rest) e wc) (ha : Agr n a e) (hw : Ext wc w) :
    rOp P ops k (fun a' w' => GrF M (mf k) w w' ∧ AnyR P ops (fun a w => ∃ e', Agr n a e' ∧ Q e' w) mf M rest.length (listed.setIfInBounds k true) a' w') a w := by
  obtain ⟨o, ho, hd, h⟩ := h
  have h1 := h w hw
  unfold rOp
  simp only [ho]
  rw [wantE_eq ha]
  split
  · rename_i hwant
    rw [if_pos hwant] at h1
    rw [← ha.eval] at h1
    exact h1.mono fun v w' hk => ⟨by rw [hm]; exact hk.1, Lx_sound hsel rest _ _ _ _ hc hk.2 (ha.putE hd v)⟩
  · rename_i hwant
    rw [if_neg hwant] at h1
    exact ⟨Gr.refl _ _, Lx_sound hsel rest _ _ _ _ hc h1 (ha.putE hd _)⟩
theorem Lx_soundF (hsel : Region.noSelect ops = true) (πa πb : List (Nat × Kd)) : ∀ (π : List (Nat × Kd)) (listed : Array Bool) (e : Env) (wc : World) (a : Act), chkF ops mf πa πb listed π = true →
    Lx P n ops M (fun e w => Lx P n ops M Q πa e w ∧ Lx P n ops M Q πb e w) π e wc → Agr n a e → AnyR P ops (fun a w => ∃ e', Agr n a e' ∧ Q e' w) mf M (π.length + πa.length) listed a wc
  | [], listed, e, wc, a, hc, h, ha => by
    unfold chkF at hc
    split at hc
    · rename_i ka ma ra kb mb rb
      simp only [Bool.and_eq_true, beq_iff_eq] at hc
      obtain ⟨⟨⟨⟨⟨hr, hma⟩, hmb⟩, hl⟩, hca⟩, hcb⟩ := hc
      have hma := Nat.eq_of_beq_eq_true hma
      have hmb := Nat.eq_of_beq_eq_true hmb
      have hl := Nat.eq_of_beq_eq_true hl
      rw [show ([] : List (Nat × Kd)).length + ((ka, Kd.c ma) :: ra).length = ra.length + 1 from by simp]
      refine ⟨fun h0 => (by rw [h0] at hr; cases hr), fun i hi w hw => ?_⟩
      rw [hr] at hi
      have hb := h w hw
      rcases List.mem_cons.1 hi with rfl | hi
      · exact Lx_step hsel hma hca hb.1 ha (Gr.refl _ _)
      · obtain rfl := List.mem_singleton.1 hi
        have := Lx_step hsel hmb hcb hb.2 ha (Gr.refl _ _)
        rw [← hl] at this
        exact this
    · cases hc
  | (k, .c mu) :: rest, listed, e, wc, a, hc, h, ha => by
    simp only [chkF, Bool.and_eq_true, beq_iff_eq] at hc
    obtain ⟨⟨hr, hm⟩, hc'⟩ := hc
    have hm := Nat.eq_of_beq_eq_true hm
    obtain ⟨o, ho, hd, h⟩ := h
    rw [List.length_cons, Nat.add_right_comm]
    refine ⟨fun h0 => (by rw [h0] at hr; cases hr), fun i hi w hw => ?_⟩
    rw [hr] at hi
    obtain rfl : i = k := by simpa using hi
    have h1 := h w hw
    unfold rOp
    simp only [ho]
    rw [wantE_eq ha]
    split
    · rename_i hwant
      rw [if_pos hwant] at h1
      rw [← ha.eval] at h1
      exact h1.mono fun v w' hk => ⟨by rw [hm]; exact hk.1, Lx_soundF hsel πa πb rest _ _ _ _ hc' hk.2 (ha.putE hd v)⟩
    · rename_i hwant
      rw [if_neg hwant] at h1
      exact ⟨Gr.refl _ _, Lx_soundF hsel πa πb rest _ _ _ _ hc' h1 (ha.putE hd _)⟩
  | (k, .q wk) :: rest, listed, e, wc, a, hc, h, ha => by
    simp only [chkF, Bool.and_eq_true, beq_iff_eq] at hc
    obtain ⟨⟨⟨hr, hm⟩, hfree⟩, hc'⟩ := hc
    have hm := Nat.eq_of_beq_eq_true hm
    obtain ⟨o, ho, hd, v, hq, h⟩ := h
    have IH := Lx_soundF hsel πa πb rest _ _ _ _ hc' h (ha.putE hd v)
    rw [List.length_cons, Nat.add_right_comm]
    simp only [freeOk, waitsOk, Bool.and_eq_true] at hfree
    refine AnyR_first (wk := wk) (waits ops listed k) ho hsel (rest.length + πa.length) listed a wc ?_ ?_ hm (by simpa using hr) ?_ IH
    · intro i hi
      have hh := List.all_eq_true.1 hfree.1 i hi
      simp only [Bool.and_eq_true, Bool.not_eq_true', Array.any_eq_true', Bool.or_eq_true, beq_iff_eq, List.contains_iff_mem, Nat.blt_eq] at hh
      obtain ⟨h1, h2, e, he, hb, hon⟩ := hh
      refine ⟨h1, ops[i], by simp [h2], e, ?_, hb, hon⟩
      simpa [h2] using he
    · intro i oi hoi hik hun hno
      have hi : i < ops.size := (Array.getElem?_eq_some_iff.1 hoi).1
      have hh := List.all_eq_true.1 hfree.2 i (List.mem_range.2 hi)
      have hoi' : ops.getD i default = oi := by simp [hoi]
      have hok' : ops.getD k default = o := by simp [ho]
      rw [hoi', hok'] at hh
      simp only [Bool.or_eq_true, beq_iff_eq, hik, false_or, hun, Bool.false_eq_true, Bool.and_eq_true, List.contains_iff_mem] at hh
      rcases hh with hh | ⟨hap, hw⟩
      · exact absurd hh hno
      · exact ⟨hap, Nat.le_of_ble_eq_true hw⟩
    · unfold Quiet
      rw [wantE_eq ha, ha.eval]
      split
      · rename_i hwant; rw [if_pos hwant] at hq; exact hq
      · rename_i hwant; rw [if_neg hwant] at hq; exact hq
/-- The walk of such a region, its order drawn. -/
theorem W_forkd {Q : Exit → Env → World → Prop} {id : Nat} {l : List Oper} {e : Env} {w : World} (hm : P.follows .mixedOrders = true) (M : Nat → Prop) (mf : Nat → Nat) (π πa πb : List (Nat × Kd))
    (hc : (Region.noSelect l.toArray && Nat.beq (π.length + πa.length) l.length && chkF l.toArray mf πa πb (Array.replicate l.length false) π) = true)
    (h : Lx P n l.toArray M (fun e w => Lx P n l.toArray M (fun e w => Q .normal e w) πa e w ∧ Lx P n l.toArray M (fun e w => Q .normal e w) πb e w) π e w) : W P n (.region id l.toArray true) Q e w := by
  simp only [Bool.and_eq_true] at hc
  obtain ⟨⟨hsel, hlen⟩, hc⟩ := hc
  constructor
  intro a ha
  have hs := Lx_soundF (mf := mf) hsel πa πb π _ e w a hc h ha
  have hl : π.length + πa.length = l.length := Nat.eq_of_beq_eq_true hlen
  refine wp_region_any hm ?_
  have := wpAny_of_AnyR (Q' := fun x a' w' => ∃ e', Agr n a' e' ∧ Q x e' w') (fun a w ⟨e', h1, h2⟩ => ⟨e', h1, h2⟩) _ _ _ _ _ (Ext.drew w) hs
  rw [hl] at this
  simpa using this
end
end Go.Proofs.YthjdhfoeckfmbaaGreat
/- A slice of bytes turned to its own type: its end is marked; from there on it is only read. -/
namespace Go.Proofs.YthjdhfoeckfmbaaGreat
open Go
set_option linter.unusedVariables false
set_option linter.unusedSimpArgs false
set_option linter.unusedSectionVars false
variable [DD]
theorem freeze_heap (w : World) (p : Addr) (n b : Nat) (hb : b ≠ p.block) : (w.freeze p n).heap[b]? = w.heap[b]? := by
  unfold World.freeze
  split
  · rfl
  · simp [Array.getElem?_modify, Ne.symm hb]
theorem freeze_cell (w : World) (p : Addr) (n : Nat) (a : Addr) : (w.freeze p n).cell? a = w.cell? a := by
  unfold World.freeze
  split
  · rfl
  · unfold World.cell?
    simp only [Array.getElem?_modify]
    by_cases h : p.block = a.block
    · rw [if_pos h]
      cases hx : w.heap[a.block]? with
      | none => rfl
      | some o => cases o <;> rfl
    · rw [if_neg h]
theorem Gr_freeze (w : World) (p : Addr) (n : Nat) : Gr (fun k => k = p.block) w (w.freeze p n) := by
  refine ⟨?_, ?_, ?_, ?_, fun k hk hn => freeze_heap w p n k hn, fun _ => ?_⟩ <;> (unfold World.freeze; split <;> simp)
section
variable {P : Program} {ρ : Operand → Value} {w0 w w' : World} {M : Nat → Prop} {B : List Own} {I : List Imm} {K : Value → World → Prop} {d : Option Tmp} {ty : TypeId} {pos : String} {af : Array Edge} {g : Option (Nat × Bool)}
/-- A thing of the call's own is from here on only read. -/
theorem Ctx.ownImm (H : Ctx w0 M w B I) (j : Nat) {o : Own} (hj : B[j]? = some o) (i : Imm) (hF : ∀ b, i.F b → o.blk = some b) (hp : i.p w) : Ctx w0 M w (B.eraseIdx j) (i :: I) := by
  have hjl : j < B.length := (List.getElem?_eq_some_iff.1 hj).1
  have hje : B[j] = o := (List.getElem?_eq_some_iff.1 hj).2
  refine (H.sub (List.eraseIdx_sublist ..) (fun i hi => hi)).addImm' _ hp fun b hb => ⟨((H.own _ (List.mem_of_getElem? hj)).2 b (hF b hb)).1, fun o' ho hob => ?_⟩
  obtain ⟨i', hi, hij, rfl⟩ := List.mem_eraseIdx_iff_getElem.1 ho
  have hpw := List.pairwise_iff_getElem.1 H.apart
  have hbk : (B[j]).blk = some b := by rw [hje]; exact hF b hb
  rcases Nat.lt_or_gt_of_ne hij with hlt | hgt
  · exact hpw i' j _ hjl hlt b hob hbk
  · exact hpw j i' hjl _ hgt b hbk hob
def slO (h : SlH) (l : List UInt8) : Own where
  blk := (slV h l).ownBlock
  q := Sl (fun z => (slV h l).ownBlock = some z) encB 1 h l
  loc w w' hb s := s.local hb
theorem C_convBB (H : Ctx w0 M w B I) (i : Nat) {e : TypeId} {h : SlH} {l : List UInt8} (hi : B[i]? = some (rowR e 1 encB h l)) {t : TypeId} {x : Operand} (ht : P.underlying t = some (.slice e)) (he : P.underlying e = some (.int .u8))
    (hx : ρ x = slV h l) (hl : 0 < l.length)
    (hK : ∀ w', Gr (fun k => (slV h l).ownBlock = some k) w w' → Ctx w0 M w' (B.eraseIdx i) (slI (fun z => (slV h l).ownBlock = some z) encB 1 h l :: I) → K (slV h l) w') : Runs P ρ ⟨d, .convert t t x, ty, pos, af, g⟩ w K := by
  have S : Sl (fun z => (slV h l).ownBlock = some z) encB 1 h l w := OwnS.sl (H.getOwn i hi) (fun _ => rfl)
  obtain ⟨ha, hb⟩ := S.there hl
  obtain ⟨w1, hw1, hg, hcell⟩ : ∃ w1, (convert t t (slV h l)).run P w = .ok (slV h l) w1 ∧ Gr (fun k => k = h.b) w w1 ∧ ∀ a, w1.cell? a = w.cell? a := by
    rw [show slV h l = .slice (some ⟨h.b, h.o, none⟩) l.length h.c from by simp [slV, ha]]
    cases hs : w.shape? h.b with
    | none => exact ⟨w, by simp [convert, run_underlying ht, run_underlying he, markStringish, hs], Gr.refl _ _, fun _ => rfl⟩
    | some p => exact ⟨w.freeze ⟨h.b, p.2, none⟩ 1, by simp [convert, run_underlying ht, run_underlying he, markStringish, hs], Gr_freeze w ⟨h.b, p.2, none⟩ 1, fun a => freeze_cell w ⟨h.b, p.2, none⟩ 1 a⟩
  have hg' : Gr (fun k => (slV h l).ownBlock = some k) w w1 := hg.mono fun k hk => by subst hk; exact hb
  have S1 : Sl (fun z => (slV h l).ownBlock = some z) encB 1 h l w1 := ⟨S.cap, S.max, S.there, fun i x hx j v hv => by rw [hcell]; exact S.cells i x hx j v hv⟩
  have H1 := H.upd i hi (slO h l) hg' S1 (fun b hb => .inl hb)
  have hil : i < B.length := (List.getElem?_eq_some_iff.1 hi).1
  have H2 := H1.ownImm i (o := slO h l) (by simp [hil]) (slI (fun z => (slV h l).ownBlock = some z) encB 1 h l) (fun _ h => h) S1
  rw [List.eraseIdx_set_eq] at H2
  refine .value (v := slV h l) (w' := w1) ?_ (hK w1 hg' H2)
  simp only [execOp, hx, Sem.run_bind, hw1, Result.andThen_ok, Sem.run_pure]
end
end Go.Proofs.YthjdhfoeckfmbaaGreat
/- A region in the order of its text, with guards. -/
namespace Go.Proofs.YthjdhfoeckfmbaaGreat
open Go
set_option linter.unusedVariables false
set_option linter.unusedSimpArgs false
set_option linter.unusedSectionVars false
variable [DD]
section
variable {P : Program} {n : Nat} {Q : Exit → Env → World → Prop} {e : Env} {w : World} {ops : Array Oper} {rest : List Oper} {d : Nat} {op : Op} {ty : TypeId} {pos : String} {af : Array Edge} {j dj : Nat} {b : Bool} {oj : Oper}
theorem wantT {dd : Option Tmp} (hj : ops[j]? = some oj) (hdj : oj.dst = some dj) (hx : e dj = .bool b) : wantE ops e ⟨dd, op, ty, pos, af, some (j, b)⟩ = true := by
  simp only [wantE, hj, Option.bind_some, hdj, hx]
  cases b <;> rfl
theorem O_vT (hj : ops[j]? = some oj) (hdj : oj.dst = some dj) (hx : e dj = .bool b) (hd : Nat.blt d n = true)
    (h : Runs P (evalE e) ⟨some d, op, ty, pos, af, some (j, b)⟩ w (fun v w' => O P n ops Q rest (upd e d v) w')) : O P n ops Q (⟨some d, op, ty, pos, af, some (j, b)⟩ :: rest) e w :=
  ⟨hd, by rw [if_pos (wantT hj hdj hx)]; exact h⟩
theorem O_uT (hj : ops[j]? = some oj) (hdj : oj.dst = some dj) (hx : e dj = .bool b)
    (h : Runs P (evalE e) ⟨none, op, ty, pos, af, some (j, b)⟩ w (fun _ w' => O P n ops Q rest e w')) : O P n ops Q (⟨none, op, ty, pos, af, some (j, b)⟩ :: rest) e w :=
  ⟨rfl, by rw [if_pos (wantT hj hdj hx)]; exact h⟩
theorem O_k (hd : Nat.blt d n = true) (v : Value) (h : Runs P (evalE e) ⟨some d, op, ty, pos, af, none⟩ w (fun v' w' => v' = v ∧ Ext w w')) (k : ∀ w', Ext w w' → O P n ops Q rest (upd e d v) w') :
    O P n ops Q (⟨some d, op, ty, pos, af, none⟩ :: rest) e w :=
  O_v hd (h.mono fun _ w' hk => hk.1 ▸ k w' hk.2)
theorem O_kT (hj : ops[j]? = some oj) (hdj : oj.dst = some dj) (hx : e dj = .bool b) (hd : Nat.blt d n = true) (v : Value) (h : Runs P (evalE e) ⟨some d, op, ty, pos, af, some (j, b)⟩ w (fun v' w' => v' = v ∧ Ext w w'))
    (k : ∀ w', Ext w w' → O P n ops Q rest (upd e d v) w') : O P n ops Q (⟨some d, op, ty, pos, af, some (j, b)⟩ :: rest) e w :=
  O_vT hj hdj hx hd (h.mono fun _ w' hk => hk.1 ▸ k w' hk.2)
theorem O_g (c x : Bool) (hj : ops[j]? = some oj) (hdj : oj.dst = some dj) (hx : e dj = gv c (.bool x)) (hd : Nat.blt d n = true) (a : Bool) (ha : a = (c && (x == b))) (v : Value)
    (h : a = true → Runs P (evalE e) ⟨some d, op, ty, pos, af, some (j, b)⟩ w (fun v' w' => v' = v ∧ Ext w w')) (k : ∀ w', Ext w w' → O P n ops Q rest (upd e d (gv a v)) w') :
    O P n ops Q (⟨some d, op, ty, pos, af, some (j, b)⟩ :: rest) e w := by
  have hw : wantE ops e ⟨some d, op, ty, pos, af, some (j, b)⟩ = a := by
    simp only [wantE, hj, Option.bind_some, hdj, hx]
    subst ha
    cases c
    · rfl
    · rfl
  refine ⟨hd, ?_⟩
  rw [hw]
  cases a with
  | true => rw [if_pos rfl]; exact (h rfl).mono fun _ w' hk => hk.1 ▸ k w' hk.2
  | false => exact k w (Gr.refl _ _)
end
/-- The lowest twenty bits. -/
def landM (n : Int) : Nat := (BitVec.ofInt 64 n &&& BitVec.ofInt 64 1048575).toNat
theorem landM_le (n : Int) : landM n ≤ 1048575 := by
  unfold landM
  rw [BitVec.toNat_and]
  exact Nat.and_le_right
theorem bit_and20 (n : Int) : bitI .i64 .and n 1048575 = some ((landM n : Nat) : Int) := by
  simp only [bitI, Option.some.injEq]
  have := landM_le n
  exact w64 _ (by show -9223372036854775808 ≤ ((landM n : Nat) : Int) ∧ ((landM n : Nat) : Int) ≤ 9223372036854775807; omega)
theorem tmod_nat (m k : Nat) : Int.tmod ((m : Nat) : Int) ((k : Nat) : Int) = ((m % k : Nat) : Int) := rfl
section
variable {P : Program} {ρ : Operand → Value} {w0 w w' : World} {M : Nat → Prop} {B : List Own} {I : List Imm} {K : Value → World → Prop} {d : Option Tmp} {ty : TypeId} {pos : String} {af : Array Edge} {g : Option (Nat × Bool)}
/-- A store of one cell into a variable of one chunk. -/
theorem C_storeAt (H : Ctx w0 M w B I) (i : Nat) {b : Nat} {tb : TypeId} {cs : List Value} (hi : B[i]? = some (boxR b tb [cs])) {t : TypeId} {x y : Operand} {o : Nat} {v : Value}
    (hs : ∀ w, (sizeOf t).run P w = .ok 1 w) (hx : ρ x = .pointer (some ⟨b, o, none⟩)) (hy : ρ y = v) (ho : o < cs.length) (hc : v.cells = #[v]) (h1 : v.oneCell' = true)
    (h : ∀ w', Gr (fun k => some b = some k) w w' → Ctx w0 M w' (B.set i (boxR b tb [cs.set o v])) I → K undef w') : Runs P ρ ⟨d, .store t x y, ty, pos, af, g⟩ w K := by
  have hb : w.heap[b]? = some (.cells [cs].flatten.toArray tb (0, 0)) := H.getOwn i hi
  have hst := run_storeCells_at P b o tb [v] 0 [cs].flatten.toArray w hb (by simp; omega) (fun u hu => by simp only [List.mem_singleton] at hu; subst hu; exact h1)
  have e : ([cs].flatten.toArray.toList.take (o + 0) ++ [v] ++ [cs].flatten.toArray.toList.drop (o + 0 + [v].length)) = [cs.set o v].flatten := by
    simp only [List.flatten_cons, List.flatten_nil, List.append_nil, List.toList_toArray, Nat.add_zero, List.length_cons, List.length_nil]
    rw [List.set_eq_take_append_cons_drop, if_pos ho, List.append_assoc]; rfl
  rw [e] at hst
  refine .skip (w' := w.setRow b [cs.set o v].flatten.toArray) ?_ (h _ (Gr_setRow _ _ _) (H.upd i hi _ (Gr_setRow _ _ _) ?_ fun b' hb' => .inl hb'))
  · simp [execOp, hx, hy, Instr.storeAt, Instr.sureAddr, storeVar, hc, hs, hst]
  · exact setRow_heap w b _ _ tb _ hb
/-- One byte of an ID. -/
def idSet (d : ID) (k : Nat) (x : UInt8) : ID := Vector.ofFn fun i => if i.1 = k then x else d[i.1]
theorem idSet_cells (d : ID) (k : Nat) (x : UInt8) : (idCells d).set k (byteV x) = idCells (idSet d k x) := by
  rw [idCells_eq, idCells_eq]
  apply List.ext_getElem
  · simp
  · intro i h1 h2
    rw [List.getElem_set]
    simp only [idSet, List.getElem_map, Vector.getElem_toList, Vector.getElem_ofFn]
    by_cases hk : k = i
    · subst hk; simp
    · rw [if_neg hk, if_neg (Ne.symm hk)]
theorem C_storeId (H : Ctx w0 M w B I) (i : Nat) {b : Nat} {tb : TypeId} {v : ID} (hi : B[i]? = some (boxR b tb [idCells v])) {t : TypeId} {x y : Operand} {o : Nat} {c : UInt8}
    (hs : ∀ w, (sizeOf t).run P w = .ok 1 w) (hx : ρ x = .pointer (some ⟨b, (0 + o * 1), none⟩)) (hy : ρ y = .int .u8 (c.toNat : Int)) (ho : o < 32)
    (h : ∀ w', Gr (fun k => some b = some k) w w' → Ctx w0 M w' (B.set i (boxR b tb [idCells (idSet v o c)])) I → K undef w') : Runs P ρ ⟨d, .store t x y, ty, pos, af, g⟩ w K := by
  rw [show 0 + o * 1 = o from by omega] at hx
  refine C_storeAt H i hi hs hx (v := byteV c) hy ho rfl rfl fun w' hg H' => h w' hg ?_
  rw [idSet_cells] at H'
  exact H'
theorem idSet_put (l : List UInt8) (k : Nat) (hk : k < l.length) (h32 : k < 32) : idSet (idPut zeroId (l.take k)) k (nth l k) = idPut zeroId (l.take (k + 1)) := by
  apply Vector.ext
  intro i hi
  simp only [idSet, idPut, Vector.getElem_ofFn]
  by_cases h1 : i = k
  · subst h1
    rw [if_pos rfl, nth_eq hk]
    simp [List.getElem?_take, List.getElem?_eq_getElem hk]
  · rw [if_neg h1]
    rcases Nat.lt_or_gt_of_ne h1 with h | h
    · simp [List.getElem?_take, h, show i < k + 1 from by omega]
    · simp [List.getElem?_take, show ¬ i < k from by omega, show ¬ i < k + 1 from by omega]
end
theorem eqv_up {P : Program} {α : Type} [DecidableEq α] {t : TypeId} {dep : Nat} {V : α → Value} (h : EqV P t dep V) : EqV P t (dep + 1) V := by
  intro d w a b
  have := h (d + 1) w a b
  rwa [show d + 1 + dep = d + (dep + 1) from by omega] at this
theorem eqv_struct3 {P : Program} {α β δ γ : Type} [DecidableEq α] [DecidableEq β] [DecidableEq δ] [DecidableEq γ] {t : TypeId} {dep : Nat} {V : γ → Chs} {p : γ → α} {q : γ → β} {r : γ → δ} {Vp : α → Value} {Vq : β → Value} {Vr : δ → Value} {f1 f2 f3 : Field}
    (hu : P.underlying t = some (.struct #[f1, f2, f3])) (hst : P.stoodInHeld t = false) (h1 : f1.name ≠ "_") (h2 : f2.name ≠ "_") (h3 : f3.name ≠ "_")
    (hp1 : ∀ w x, (part f1.type (V x).flatten.toArray f1.offset).run P w = .ok (Vp (p x)) w) (hp2 : ∀ w x, (part f2.type (V x).flatten.toArray f2.offset).run P w = .ok (Vq (q x)) w) (hp3 : ∀ w x, (part f3.type (V x).flatten.toArray f3.offset).run P w = .ok (Vr (r x)) w)
    (e1 : EqV P f1.type dep Vp) (e2 : EqV P f2.type dep Vq) (e3 : EqV P f3.type dep Vr) (hext : ∀ x y, p x = p y → q x = q y → r x = r y → x = y) : EqV P t (dep + 1) (fun x => aggOf (V x)) := by
  intro d w a b
  have hf : P.underlying t = some (.struct (P.fieldsOf t)) := by simp [Program.fieldsOf, hu]
  have hfs : (P.fieldsOf t).toList = [f1, f2, f3] := by simp [Program.fieldsOf, hu]
  rw [show d + (dep + 1) = (d + dep) + 1 from rfl, run_equalIn_struct w (d + dep) t _ _ hf hst, hfs]
  simp only [Op.eqFields, if_pos h1, if_pos h2, if_pos h3, Sem.run_bind, hp1, hp2, hp3, Result.andThen_ok]
  rw [e1 d w]
  simp only [Result.andThen_ok, Sem.run_ite]
  by_cases ha : p a = p b
  · simp only [ha, decide_true, Bool.not_true, Bool.false_eq_true, if_false, Sem.run_bind, hp1, hp2, Result.andThen_ok]
    rw [e2 d w]
    simp only [Result.andThen_ok, Sem.run_ite]
    by_cases hb : q a = q b
    · simp only [hb, decide_true, Bool.not_true, Bool.false_eq_true, if_false, Sem.run_bind, hp2, hp3, Result.andThen_ok]
      rw [e3 d w]
      by_cases hc : r a = r b
      · have := hext a b ha hb hc
        subst this
        simp
      · have hn : a ≠ b := fun h => hc (by rw [h])
        simp [hc, hn]
    · have hn : a ≠ b := fun h => hb (by rw [h])
      simp [hb, hn]
  · have hn : a ≠ b := fun h => ha (by rw [h])
    simp [ha, hn]
end Go.Proofs.YthjdhfoeckfmbaaGreat
/- The plain side: what the functions compute, on lists and numbers. -/
namespace Go.Proofs.YthjdhfoeckfmbaaGreat
open Go
set_option linter.unusedVariables false
set_option linter.unusedSimpArgs false
set_option linter.unusedSectionVars false

/-- The order of stamps. -/
def cmpInt (a b : Int) : Int := if a < b then -1 else if b < a then 1 else 0
theorem cmpInt_lt {a b : Int} (h : a < b) : cmpInt a b = -1 := if_pos h
theorem cmpInt_gt {a b : Int} (h : ¬ a < b) (h2 : b < a) : cmpInt a b = 1 := by unfold cmpInt; rw [if_neg h, if_pos h2]
theorem cmpInt_eq {a b : Int} (h : ¬ a < b) (h2 : ¬ b < a) : cmpInt a b = 0 := by unfold cmpInt; rw [if_neg h, if_neg h2]
def cmpSt (a b : Stamp) : Int := if a.T < b.T ∨ a.T = b.T ∧ a.R < b.R then -1 else if a.T = b.T ∧ a.R = b.R then 0 else 1

def findRow (xs : List RowS) (s : Stamp) : Int := match xs.findIdx? (fun x => decide (x.node = s)) with | some i => (i : Int) | none => -1
def noneBelow {α : Type} [Inhabited α] (xs : List α) (p : α → Prop) (k : Nat) : Prop := ∀ i, i < k → ¬ p (nth xs i)
theorem noneBelow_zero {α : Type} [Inhabited α] (xs : List α) (p : α → Prop) : noneBelow xs p 0 := fun _ h => absurd h (Nat.not_lt_zero _)
theorem noneBelow_succ {α : Type} [Inhabited α] {xs : List α} {p : α → Prop} {k : Nat} (h : noneBelow xs p k) (hk : ¬ p (nth xs k)) : noneBelow xs p (k + 1) := fun i hi => by
  rcases Nat.lt_or_eq_of_le (Nat.le_of_lt_succ hi) with h1 | h1
  · exact h i h1
  · subst h1; exact hk
theorem findRow_at {xs : List RowS} {s : Stamp} {k : Nat} (h : noneBelow xs (fun x => x.node = s) k) (hk : k < xs.length) (he : (nth xs k).node = s) : findRow xs s = (k : Int) := by
  have : xs.findIdx? (fun x => decide (x.node = s)) = some k := by
    rw [List.findIdx?_eq_some_iff_getElem]
    refine ⟨hk, by rw [← nth_eq hk]; simpa using he, fun j hj => ?_⟩
    have := h j hj
    rw [nth_eq (by omega)] at this
    simpa using this
  simp [findRow, this]
theorem findRow_none {xs : List RowS} {s : Stamp} (h : noneBelow xs (fun x => x.node = s) xs.length) : findRow xs s = -1 := by
  have : xs.findIdx? (fun x => decide (x.node = s)) = none := by
    rw [List.findIdx?_eq_none_iff]
    intro x hx
    obtain ⟨i, hi, rfl⟩ := List.getElem_of_mem hx
    have := h i hi
    rw [nth_eq hi] at this
    simpa using this
  simp [findRow, this]
theorem findRow_lt {xs : List RowS} {s : Stamp} : findRow xs s < xs.length ∧ -1 ≤ findRow xs s := by
  unfold findRow
  split
  · rename_i i h
    have := (List.findIdx?_eq_some_iff_getElem.1 h).1
    omega
  · omega
/-- Rows by their nodes. -/
def tableOf (rows : List RowS) : List (Stamp × RowS) := rows.foldl (fun kv r => kvPut r.node r kv) []
theorem tableOf_succ {rows : List RowS} {k : Nat} (h : k < rows.length) : kvPut (nth rows k).node (nth rows k) (tableOf (rows.take k)) = tableOf (rows.take (k + 1)) := by
  rw [List.take_succ_eq_append_getElem h]
  unfold tableOf
  rw [List.foldl_append, nth_eq h]
  rfl
def placeGo (kv : List (Stamp × RowS)) : Nat → Stamp → Stamp × Bool
  | 0, _ => (⟨0, 0⟩, false)
  | n + 1, s => if s.T = 0 then (s, true) else match kvGet kv s with
    | none => (⟨0, 0⟩, false)
    | some r => placeGo kv n r.par
def placeOf (kv : List (Stamp × RowS)) (s : Stamp) : Stamp × Bool := placeGo kv (kv.length + 1) s
theorem placeGo_next {t : List (Stamp × RowS)} {n k : Nat} {nd : Stamp} {q : Stamp × Bool} (hp : placeGo t (n + 1 - k) nd = q) (hk : k < n + 1) (h0 : ¬ nd.T = 0) (hs : (kvGet t nd).isSome = true) :
    placeGo t (n + 1 - (k + 1)) ((kvGet t nd).getD zeroRow).par = q := by
  subst hp
  rw [show n + 1 - k = (n + 1 - (k + 1)) + 1 from by omega]
  conv => rhs; unfold placeGo
  rw [if_neg h0]
  obtain ⟨r, hr⟩ := Option.isSome_iff_exists.1 hs
  rw [hr]; rfl
theorem placeGo_ret {t : List (Stamp × RowS)} {n k : Nat} {nd : Stamp} {q : Stamp × Bool} (hp : placeGo t (n + 1 - k) nd = q) (hk : k < n + 1) (h0 : nd.T = 0) : q = (nd, true) := by
  subst hp
  rw [show n + 1 - k = (n + 1 - (k + 1)) + 1 from by omega]
  unfold placeGo
  rw [if_pos h0]
theorem placeGo_none {t : List (Stamp × RowS)} {n k : Nat} {nd : Stamp} {q : Stamp × Bool} (hp : placeGo t (n + 1 - k) nd = q) (hk : k < n + 1) (h0 : ¬ nd.T = 0) (hs : (kvGet t nd).isSome = false) : q = (⟨0, 0⟩, false) := by
  subst hp
  rw [show n + 1 - k = (n + 1 - (k + 1)) + 1 from by omega]
  unfold placeGo
  rw [if_neg h0]
  cases hr : kvGet t nd with
  | none => rfl
  | some r => rw [hr] at hs; cases hs
theorem placeGo_end {t : List (Stamp × RowS)} {n k : Nat} {nd : Stamp} {q : Stamp × Bool} (hp : placeGo t (n + 1 - k) nd = q) (hk : ¬ k < n + 1) : q = (⟨0, 0⟩, false) := by
  subst hp
  rw [show n + 1 - k = 0 from by omega]; rfl


def stRight (s : Stamp) : Bool := decide (1 ≤ s.T ∧ s.T ≤ 1099511627776 ∧ 1 ≤ s.R ∧ s.R ≤ 65536)
def badByte (b : UInt8) : Bool := b = 0 || b = 47 || b = 10
def nameOk (s : ByteArray) : Bool := decide (s ≠ ByteArray.empty ∧ s.size ≤ 60 ∧ s ≠ ⟨#[46]⟩ ∧ s ≠ ⟨#[46, 46]⟩ ∧ ∀ j, j < s.size → badByte (sbyte s j) = false)
theorem cmpSt_lt {a b : Stamp} (h : a.T < b.T ∨ a.T = b.T ∧ a.R < b.R) : cmpSt a b = -1 := if_pos h
theorem cmpSt_eq {a b : Stamp} (h : ¬ (a.T < b.T ∨ a.T = b.T ∧ a.R < b.R)) (h2 : a.T = b.T ∧ a.R = b.R) : cmpSt a b = 0 := by unfold cmpSt; rw [if_neg h, if_pos h2]
theorem cmpSt_gt {a b : Stamp} (h : ¬ (a.T < b.T ∨ a.T = b.T ∧ a.R < b.R)) (h2 : ¬ (a.T = b.T ∧ a.R = b.R)) : cmpSt a b = 1 := by unfold cmpSt; rw [if_neg h, if_neg h2]
theorem badByte_eq (b : UInt8) : badByte b = (decide ((b.toNat : Int) = 0) || decide ((b.toNat : Int) = 47) || decide ((b.toNat : Int) = 10)) := by
  have key : ∀ n : Nat, n < 256 → decide (b = UInt8.ofNat n) = decide ((b.toNat : Int) = n) := by
    intro n hn
    rw [decide_eq_decide]
    constructor
    · rintro rfl; simp [Nat.mod_eq_of_lt hn]
    · intro h
      apply UInt8.toNat_inj.1
      simp only [UInt8.toNat_ofNat']
      omega
  have k0 : decide (b = 0) = decide ((b.toNat : Int) = 0) := key 0 (by omega)
  have k1 : decide (b = 47) = decide ((b.toNat : Int) = 47) := key 47 (by omega)
  have k2 : decide (b = 10) = decide ((b.toNat : Int) = 10) := key 10 (by omega)
  unfold badByte
  rw [k0, k1, k2]
theorem badByte_f {b : UInt8} (h : ((¬ (b.toNat : Int) = 0) ∧ ¬ (b.toNat : Int) = 47) ∧ ¬ (b.toNat : Int) = 10) : badByte b = false := by
  obtain ⟨⟨h1, h2⟩, h3⟩ := h; rw [badByte_eq, decide_eq_false h1, decide_eq_false h2, decide_eq_false h3]; rfl
theorem badByte_t {b : UInt8} (h : ((b.toNat : Int) = 0 ∨ (b.toNat : Int) = 47) ∨ (b.toNat : Int) = 10) : badByte b = true := by
  rw [badByte_eq]
  rcases h with (h | h) | h <;> simp [h]
def itemHeadOk (node : Stamp) (hs : List Head) (i : Nat) : Prop := stRight (nth hs i).tm = true ∧ cmpSt (nth hs i).tm node = 1 ∧ (nth hs i).data ≠ zeroId ∧ (i = 0 ∨ cmpSt (nth hs (i - 1)).tm (nth hs i).tm = -1)
instance (node : Stamp) (hs : List Head) (i : Nat) : Decidable (itemHeadOk node hs i) := by unfold itemHeadOk; infer_instance
/-- An item is right. -/
def itemOk (node tm : Stamp) (name : ByteArray) (hs : List Head) : Bool :=
  decide (stRight node = true ∧ stRight tm = true ∧ ¬ cmpSt tm node < 0 ∧ nameOk name = true ∧ hs.length ≤ 1000 ∧ ∀ i, i < hs.length → itemHeadOk node hs i)
def itemOf (r : RowS) (sub : ID) : ItemS := { node := r.node, tm := r.tm, name := r.name, sub := sub, heads := r.heads, hh := r.hh }
def itemOkS (x : ItemS) : Bool := itemOk x.node x.tm x.name x.heads
def dirOk (xs : List ItemS) : Bool := decide (xs.length ≤ 1000 ∧ ∀ i, i < xs.length → itemOkS (nth xs i) = true ∧ (i = 0 ∨ cmpSt (nth xs (i - 1)).node (nth xs i).node = -1))
def lastSt : Stamp := ⟨1099511627776, 65536⟩
/-- What is told of a row: all but where its heads lie. -/
structure RowC where
  node : Stamp
  par : Stamp
  tm : Stamp
  name : ByteArray
  heads : List Head
  deriving DecidableEq, Inhabited
def RowS.core (r : RowS) : RowC := ⟨r.node, r.par, r.tm, r.name, r.heads⟩
def liesGo (rows : List RowS) (over : Stamp) : Nat → Stamp → Bool
  | 0, _ => false
  | n + 1, s => if findRow rows s < 0 ∨ s.T = 0 ∧ (s.R = 0 ∨ s.R = 1) then false else
    if (nth rows (findRow rows s).toNat).par = over then true else liesGo rows over n (nth rows (findRow rows s).toNat).par
def liesOf (rows : List RowS) (node over : Stamp) : Bool := liesGo rows over rows.length node
def rowOkAt (rows : List RowS) (i : Nat) : Prop := itemOk (nth rows i).node (nth rows i).tm (nth rows i).name (nth rows i).heads = true ∧ (nth rows i).node ≠ lastSt ∧ (i = 0 ∨ cmpSt (nth rows (i - 1)).node (nth rows i).node = -1) ∧
  (liesOf rows (nth rows i).node ⟨0, 0⟩ = true ∨ liesOf rows (nth rows i).node ⟨0, 1⟩ = true)
instance (rows : List RowS) (i : Nat) : Decidable (rowOkAt rows i) := by unfold rowOkAt; infer_instance
/-- Rows are a tree, as the document has it. -/
def treeOk (rows : List RowS) : Bool := decide (rows.length ≤ 5000 ∧ ∀ i, i < rows.length → rowOkAt rows i)
def sameRows (a b : List RowS) : Bool := decide (a.map RowS.core = b.map RowS.core)
def aliveRef (rows : List RowS) : List RowS := rows.filter fun r => !liesOf rows r.node ⟨0, 1⟩
def datas (hs : List Head) : List ID := hs.map (·.data)
/-- What Alike looks at. -/
def rowD (r : RowS) : Stamp × Stamp × ByteArray × List ID := (r.node, r.par, r.name, datas r.heads)
def alikeRef (a b : List RowS) : Bool := decide ((aliveRef a).map rowD = (aliveRef b).map rowD)
theorem eq_of_nth {α : Type} [Inhabited α] {a b : List α} (hl : a.length = b.length) (h : ∀ i, i < a.length → nth a i = nth b i) : a = b := by
  apply List.ext_getElem hl
  intro i h1 h2
  have := h i h1
  rwa [nth_eq h1, nth_eq h2] at this
theorem map_eq_nth {α β : Type} [Inhabited α] {a b : List α} {f : α → β} : a.map f = b.map f ↔ a.length = b.length ∧ ∀ i, i < a.length → f (nth a i) = f (nth b i) := by
  constructor
  · intro h
    have hl : a.length = b.length := by simpa using congrArg List.length h
    refine ⟨hl, fun i hi => ?_⟩
    have := congrArg (fun l => l[i]?) h
    simp only [List.getElem?_map, List.getElem?_eq_getElem hi, List.getElem?_eq_getElem (hl ▸ hi), Option.map_some, Option.some.injEq] at this
    rw [nth_eq hi, nth_eq (hl ▸ hi)]
    exact this
  · rintro ⟨hl, h⟩
    apply List.ext_getElem (by simpa using hl)
    intro i h1 h2
    simp only [List.length_map] at h1 h2
    have := h i h1
    rw [nth_eq h1, nth_eq h2] at this
    simpa using this
theorem filter_take_succ {α : Type} [Inhabited α] {p : α → Bool} {l : List α} {k : Nat} (h : k < l.length) : (l.take (k + 1)).filter p = (l.take k).filter p ++ (if p (nth l k) then [nth l k] else []) := by
  rw [List.take_succ_eq_append_getElem h, List.filter_append, nth_eq h]
  congr 1
  by_cases hp : p l[k] <;> simp [hp]
theorem all_succ {p : Nat → Prop} {k : Nat} (h : ∀ i, i < k → p i) (hk : p k) : ∀ i, i < k + 1 → p i := fun i hi => by
  rcases Nat.lt_or_eq_of_le (Nat.le_of_lt_succ hi) with h1 | h1
  · exact h i h1
  · subst h1; exact hk
theorem all_zero (p : Nat → Prop) : ∀ i, i < 0 → p i := fun _ h => absurd h (Nat.not_lt_zero _)
theorem nameOk_bad {s : ByteArray} {k : Nat} (hk : k < s.size) (h : (((sbyte s k).toNat : Int) = 0 ∨ ((sbyte s k).toNat : Int) = 47) ∨ ((sbyte s k).toNat : Int) = 10) : Value.bool false = Value.bool (nameOk s) :=
  boolF fun hh => by have := hh.2.2.2.2 k hk; rw [badByte_t h] at this; cases this
theorem nameOk_good {s : ByteArray} (h : ∀ j, j < s.size → badByte (sbyte s j) = false) :
    Value.bool (((!decide (s = ByteArray.empty) && decide ((s.size : Int) ≤ 60)) && !decide (s = (⟨#[46]⟩ : ByteArray))) && !decide (s = (⟨#[46, 46]⟩ : ByteArray))) = Value.bool (nameOk s) := by
  refine boolE ?_
  simp only [Bool.and_eq_true, Bool.not_eq_true', decide_eq_false_iff_not, decide_eq_true_eq]
  constructor
  · rintro ⟨⟨⟨h1, h2⟩, h3⟩, h4⟩; exact ⟨h1, by omega, h3, h4, h⟩
  · rintro ⟨h1, h2, h3, h4, _⟩; exact ⟨⟨⟨h1, by omega⟩, h3⟩, h4⟩
theorem lies_next {rows : List RowS} {over nd : Stamp} {n k : Nat} {q : Bool} (hp : liesGo rows over (n - k) nd = q) (hk : k < n) (h1 : ¬ (findRow rows nd < 0 ∨ nd.T = 0 ∧ (nd.R = 0 ∨ nd.R = 1))) (h2 : ¬ (nth rows (findRow rows nd).toNat).par = over) :
    liesGo rows over (n - (k + 1)) (nth rows (findRow rows nd).toNat).par = q := by
  subst hp
  rw [show n - k = (n - (k + 1)) + 1 from by omega]
  conv => rhs; unfold liesGo
  rw [if_neg h1, if_neg h2]
theorem lies_f {rows : List RowS} {over nd : Stamp} {n k : Nat} (hk : k < n) (h1 : findRow rows nd < 0 ∨ nd.T = 0 ∧ (nd.R = 0 ∨ nd.R = 1)) : liesGo rows over (n - k) nd = false := by
  rw [show n - k = (n - (k + 1)) + 1 from by omega]
  unfold liesGo
  rw [if_pos h1]
theorem lies_t {rows : List RowS} {over nd : Stamp} {n k : Nat} (hk : k < n) (h1 : ¬ (findRow rows nd < 0 ∨ nd.T = 0 ∧ (nd.R = 0 ∨ nd.R = 1))) (h2 : (nth rows (findRow rows nd).toNat).par = over) : liesGo rows over (n - k) nd = true := by
  rw [show n - k = (n - (k + 1)) + 1 from by omega]
  unfold liesGo
  rw [if_neg h1, if_pos h2]
theorem itemHead_t {node : Stamp} {hs : List Head} {k : Nat} (h : ((stRight (nth hs k).tm = true ∧ cmpSt (nth hs k).tm node = 1) ∧ ¬ (nth hs k).data = zeroId) ∧ (¬ (0 : Int) < ((k : Nat) : Int) ∨ cmpSt (nth hs (k - 1)).tm (nth hs k).tm = -1)) : itemHeadOk node hs k :=
  ⟨h.1.1.1, h.1.1.2, h.1.2, h.2.imp (fun h => by omega) id⟩
theorem itemOk_f1 {x : ItemS} (h : (((stRight x.node = false ∨ stRight x.tm = false) ∨ cmpSt x.tm x.node < 0) ∨ nameOk x.name = false) ∨ (1000 : Int) < ((x.heads.length : Nat) : Int)) : Value.bool false = Value.bool (itemOkS x) := by
  refine boolF ?_
  rintro ⟨h1, h2, h3, h4, h5, _⟩
  rcases h with (((h | h) | h) | h) | h
  · rw [h1] at h; cases h
  · rw [h2] at h; cases h
  · exact h3 h
  · rw [h4] at h; cases h
  · omega
theorem itemOk_f2 {x : ItemS} {k : Nat} (hk : k < x.heads.length) (h : ((stRight (nth x.heads k).tm = false ∨ ¬ cmpSt (nth x.heads k).tm x.node = 1) ∨ (nth x.heads k).data = zeroId) ∨ ((0 : Int) < ((k : Nat) : Int) ∧ ¬ cmpSt (nth x.heads (k - 1)).tm (nth x.heads k).tm = -1)) : Value.bool false = Value.bool (itemOkS x) := by
  refine boolF ?_
  rintro ⟨_, _, _, _, _, hh⟩
  obtain ⟨a1, a2, a3, a4⟩ := hh k hk
  rcases h with ((h | h) | h) | h
  · rw [a1] at h; cases h
  · exact h a2
  · exact a3 h
  · rcases a4 with a4 | a4
    · omega
    · exact h.2 a4
theorem itemOk_t {x : ItemS} (h : (((stRight x.node = true ∧ stRight x.tm = true) ∧ ¬ cmpSt x.tm x.node < 0) ∧ nameOk x.name = true) ∧ ¬ (1000 : Int) < ((x.heads.length : Nat) : Int)) (h2 : ∀ i, i < x.heads.length → itemHeadOk x.node x.heads i) : Value.bool true = Value.bool (itemOkS x) :=
  boolT ⟨h.1.1.1.1, h.1.1.1.2, h.1.1.2, h.1.2, by omega, h2⟩
theorem dirAt_t {xs : List ItemS} {k : Nat} (h : itemOkS (nth xs k) = true ∧ (¬ (0 : Int) < ((k : Nat) : Int) ∨ cmpSt (nth xs (k - 1)).node (nth xs k).node = -1)) : itemOkS (nth xs k) = true ∧ (k = 0 ∨ cmpSt (nth xs (k - 1)).node (nth xs k).node = -1) :=
  ⟨h.1, h.2.imp (fun h => by omega) id⟩
theorem dirOk_f {xs : List ItemS} {k : Nat} (hk : k < xs.length) (h : itemOkS (nth xs k) = false ∨ ((0 : Int) < ((k : Nat) : Int) ∧ ¬ cmpSt (nth xs (k - 1)).node (nth xs k).node = -1)) : Value.bool false = Value.bool (dirOk xs) := by
  refine boolF ?_
  rintro ⟨_, hh⟩
  obtain ⟨a1, a2⟩ := hh k hk
  rcases h with h | h
  · rw [a1] at h; cases h
  · rcases a2 with a2 | a2
    · omega
    · exact h.2 a2
theorem dirOk_t {xs : List ItemS} (h : ∀ i, i < xs.length → itemOkS (nth xs i) = true ∧ (i = 0 ∨ cmpSt (nth xs (i - 1)).node (nth xs i).node = -1)) : Value.bool (decide (((xs.length : Nat) : Int) ≤ 1000)) = Value.bool (dirOk xs) := by
  refine boolE ?_
  rw [decide_eq_true_eq]
  exact ⟨fun h1 => ⟨by omega, h⟩, fun h1 => by have := h1.1; omega⟩
theorem dirOk_one (x : ItemS) : dirOk [x] = itemOkS x := by
  unfold dirOk
  rw [Bool.eq_iff_iff, decide_eq_true_eq]
  constructor
  · intro h; exact (h.2 0 (by simp)).1
  · intro h
    refine ⟨by simp, fun i hi => ?_⟩
    have : i = 0 := by simp at hi; omega
    subst this
    exact ⟨h, .inl rfl⟩
theorem rowAt_t {rows : List RowS} {k : Nat} {x : ItemS} (hx : x = itemOf (nth rows k) zeroId) (h : (dirOk [x] = true ∧ ¬ (nth rows k).node = lastSt) ∧ (¬ (0 : Int) < ((k : Nat) : Int) ∨ cmpSt (nth rows (k - 1)).node (nth rows k).node = -1))
    (h2 : liesOf rows (nth rows k).node ⟨0, 0⟩ = true ∨ liesOf rows (nth rows k).node ⟨0, 1⟩ = true) : rowOkAt rows k := by
  subst hx
  rw [dirOk_one] at h
  exact ⟨h.1.1, h.1.2, h.2.imp (fun h => by omega) id, h2⟩
theorem treeOk_f0 {rows : List RowS} (h : (5000 : Int) < ((rows.length : Nat) : Int)) : Value.bool false = Value.bool (treeOk rows) := boolF fun hh => by have := hh.1; omega
theorem treeOk_f1 {rows : List RowS} {k : Nat} {x : ItemS} (hx : x = itemOf (nth rows k) zeroId) (hk : k < rows.length) (h : (dirOk [x] = false ∨ (nth rows k).node = lastSt) ∨ ((0 : Int) < ((k : Nat) : Int) ∧ ¬ cmpSt (nth rows (k - 1)).node (nth rows k).node = -1)) : Value.bool false = Value.bool (treeOk rows) := by
  subst hx
  rw [dirOk_one] at h
  refine boolF fun hh => ?_
  obtain ⟨a1, a2, a3, _⟩ := hh.2 k hk
  rcases h with (h | h) | h
  · rw [show itemOkS (itemOf (nth rows k) zeroId) = true from a1] at h; cases h
  · exact a2 h
  · rcases a3 with a3 | a3
    · omega
    · exact h.2 a3
theorem treeOk_f2 {rows : List RowS} {k : Nat} (hk : k < rows.length) (h : liesOf rows (nth rows k).node ⟨0, 0⟩ = false ∧ liesOf rows (nth rows k).node ⟨0, 1⟩ = false) : Value.bool false = Value.bool (treeOk rows) := by
  refine boolF fun hh => ?_
  obtain ⟨_, _, _, a4⟩ := hh.2 k hk
  rcases a4 with a4 | a4
  · rw [h.1] at a4; cases a4
  · rw [h.2] at a4; cases a4
theorem treeOk_t {rows : List RowS} (h0 : ¬ (5000 : Int) < ((rows.length : Nat) : Int)) (h : ∀ i, i < rows.length → rowOkAt rows i) : Value.bool true = Value.bool (treeOk rows) := boolT ⟨by omega, h⟩
theorem core_eq {a b : RowS} (h : (((a.node = b.node ∧ a.par = b.par) ∧ a.tm = b.tm) ∧ a.name = b.name) ∧ a.heads = b.heads) : a.core = b.core := by
  simp [RowS.core, h.1.1.1.1, h.1.1.1.2, h.1.1.2, h.1.2, h.2]
theorem core_ne {a b : RowS} (h : (((¬ a.node = b.node ∨ ¬ a.par = b.par) ∨ ¬ a.tm = b.tm) ∨ ¬ a.name = b.name) ∨ ¬ a.heads = b.heads) : ¬ a.core = b.core := by
  simp only [RowS.core, RowC.mk.injEq]
  rintro ⟨h1, h2, h3, h4, h5⟩
  rcases h with (((h | h) | h) | h) | h <;> exact h (by assumption)
theorem sameRows_len {a b : List RowS} (h : ¬ ((a.length : Nat) : Int) = ((b.length : Nat) : Int)) : Value.bool false = Value.bool (sameRows a b) := boolF fun hh => h (by rw [(map_eq_nth.1 hh).1])
theorem sameRows_f {a b : List RowS} {k : Nat} (hk : k < a.length) (h : ¬ (nth a k).core = (nth b k).core) : Value.bool false = Value.bool (sameRows a b) := boolF fun hh => h ((map_eq_nth.1 hh).2 k hk)
theorem sameRows_t {a b : List RowS} (hl : a.length = b.length) (h : ∀ i, i < a.length → (nth a i).core = (nth b i).core) : Value.bool true = Value.bool (sameRows a b) := boolT (map_eq_nth.2 ⟨hl, h⟩)
theorem rowD_eq {a b : RowS} (h : ((a.node = b.node ∧ a.par = b.par) ∧ a.name = b.name) ∧ datas a.heads = datas b.heads) : rowD a = rowD b := by simp [rowD, h.1.1.1, h.1.1.2, h.1.2, h.2]
theorem rowD_ne {a b : RowS} (h : ((¬ a.node = b.node ∨ ¬ a.par = b.par) ∨ ¬ a.name = b.name) ∨ ¬ datas a.heads = datas b.heads) : ¬ rowD a = rowD b := by
  simp only [rowD, Prod.mk.injEq]
  rintro ⟨h1, h2, h3, h4⟩
  rcases h with ((h | h) | h) | h <;> exact h (by assumption)
def aliveTo (rows : List RowS) (k : Nat) : List RowS := (rows.take k).filter fun r => !liesOf rows r.node ⟨0, 1⟩
theorem aliveTo_in {rows acc : List RowS} {k : Nat} (h : acc = aliveTo rows k) (hk : k < rows.length) (hl : liesOf rows (nth rows k).node ⟨0, 1⟩ = false) : acc ++ [nth rows k] = aliveTo rows (k + 1) := by
  subst h; unfold aliveTo; rw [filter_take_succ hk]; simp [hl]
theorem aliveTo_out {rows acc : List RowS} {k : Nat} (h : acc = aliveTo rows k) (hk : k < rows.length) (hl : liesOf rows (nth rows k).node ⟨0, 1⟩ = true) : acc = aliveTo rows (k + 1) := by
  subst h; unfold aliveTo; rw [filter_take_succ hk]; simp [hl]
theorem aliveTo_all (rows : List RowS) : aliveTo rows rows.length = aliveRef rows := by unfold aliveTo aliveRef; rw [List.take_length]
def eqBy {α : Type} [Inhabited α] (f : α → α → Bool) (a b : List α) : Bool := decide (a.length = b.length ∧ ∀ i, i < a.length → f (nth a i) (nth b i) = true)
theorem eqBy_map {α β : Type} [Inhabited α] [DecidableEq β] (p : α → β) (a b : List α) : eqBy (fun x y => decide (p x = p y)) a b = decide (a.map p = b.map p) := by
  unfold eqBy
  rw [Bool.eq_iff_iff]
  simp only [decide_eq_true_eq]
  exact map_eq_nth.symm
theorem eqBy_datas {a b : List Head} : eqBy (fun x y => decide (x.data = y.data)) a b = decide (datas a = datas b) := eqBy_map (·.data) a b
theorem tableOf_len (rows : List RowS) : (tableOf rows).length ≤ rows.length := by
  unfold tableOf
  have : ∀ (l : List RowS) (kv : List (Stamp × RowS)), (l.foldl (fun kv r => kvPut r.node r kv) kv).length ≤ kv.length + l.length := by
    intro l
    induction l with
    | nil => intro kv; simp
    | cons x l ih =>
      intro kv
      have h1 := ih (kvPut x.node x kv)
      have h2 := kvPut_len x.node x kv
      simp only [List.foldl_cons, List.length_cons]
      omega
  simpa using this rows []
/-- Does a row lie under the trash, by the table? -/
def deadOf (rows : List RowS) (r : RowS) : Bool := (placeOf (tableOf rows) r.node).2 && decide ((placeOf (tableOf rows) r.node).1 = ⟨0, 1⟩)
def aliveOf (rows : List RowS) : List RowS := rows.filter fun r => !deadOf rows r
def aliveOfTo (rows : List RowS) (k : Nat) : List RowS := (rows.take k).filter fun r => !deadOf rows r
theorem aliveOfTo_all (rows : List RowS) : aliveOfTo rows rows.length = aliveOf rows := by unfold aliveOfTo aliveOf; rw [List.take_length]
theorem aliveOfTo_out {rows acc : List RowS} {k : Nat} (h : acc.map RowS.core = (aliveOfTo rows k).map RowS.core) (hk : k < rows.length)
    (hl : (placeOf (tableOf rows) (nth rows k).node).2 = true ∧ (placeOf (tableOf rows) (nth rows k).node).1 = ⟨0, 1⟩) : acc.map RowS.core = (aliveOfTo rows (k + 1)).map RowS.core := by
  unfold aliveOfTo at *
  rw [filter_take_succ hk, show deadOf rows (nth rows k) = true from by simp [deadOf, hl.1, hl.2]]
  simpa using h
theorem aliveOfTo_in {rows acc : List RowS} {k : Nat} {x : RowS} (h : acc.map RowS.core = (aliveOfTo rows k).map RowS.core) (hk : k < rows.length)
    (hl : (placeOf (tableOf rows) (nth rows k).node).2 = false ∨ ¬ (placeOf (tableOf rows) (nth rows k).node).1 = ⟨0, 1⟩) (hx : x.core = (nth rows k).core) : (acc ++ [x]).map RowS.core = (aliveOfTo rows (k + 1)).map RowS.core := by
  unfold aliveOfTo at *
  rw [filter_take_succ hk, show deadOf rows (nth rows k) = false from by rcases hl with hl | hl <;> simp [deadOf, hl]]
  simp only [Bool.not_false, if_true, List.map_append, h, List.map_cons, List.map_nil, hx]
def alikeOf (a b : List RowS) : Bool := decide ((aliveOf a).map rowD = (aliveOf b).map rowD)
def coreD (r : RowC) : Stamp × Stamp × ByteArray × List ID := (r.node, r.par, r.name, datas r.heads)
theorem map_rowD {l l' : List RowS} (h : l.map RowS.core = l'.map RowS.core) : l.map rowD = l'.map rowD := by
  have e : ∀ l : List RowS, l.map rowD = (l.map RowS.core).map coreD := fun l => by rw [List.map_map]; rfl
  rw [e, h, ← e]
theorem alike_eq {a b la lb : List RowS} (ha : la.map RowS.core = (aliveOf a).map RowS.core) (hb : lb.map RowS.core = (aliveOf b).map RowS.core) : eqBy (fun x y => decide (rowD x = rowD y)) la lb = alikeOf a b := by
  rw [eqBy_map, map_rowD ha, map_rowD hb]; rfl
theorem aliveRef_le (rows : List RowS) : (aliveRef rows).length ≤ rows.length := List.length_filter_le _ _
theorem aliveRef_mem {rows : List RowS} {x : RowS} (h : x ∈ aliveRef rows) : x ∈ rows := (List.mem_filter.1 h).1
def pathGo (rows : List RowS) : Nat → Stamp → ByteArray → ByteArray
  | 0, _, out => out
  | n + 1, s, out => if (nth rows (findRow rows s).toNat).par = ⟨0, 0⟩ then (nth rows (findRow rows s).toNat).name ++ out
    else pathGo rows n (nth rows (findRow rows s).toNat).par ((⟨#[47]⟩ : ByteArray) ++ ((nth rows (findRow rows s).toNat).name ++ out))
def pathRef (rows : List RowS) (node : Stamp) : ByteArray := if liesOf rows node ⟨0, 0⟩ = true then pathGo rows rows.length node ByteArray.empty else ByteArray.empty
theorem pathRef_of {rows : List RowS} {node : Stamp} (h : liesOf rows node ⟨0, 0⟩ = true) : pathRef rows node = pathGo rows rows.length node ByteArray.empty := if_pos h
theorem pathRef_none {rows : List RowS} {node : Stamp} (h : liesOf rows node ⟨0, 0⟩ = false) : pathRef rows node = ByteArray.empty := if_neg (by rw [h]; simp)
theorem lies_at {rows : List RowS} {over nd : Stamp} {n : Nat} (h : liesGo rows over n nd = true) : 1 ≤ n ∧ 0 ≤ findRow rows nd ∧ (findRow rows nd).toNat < rows.length ∧ findRow rows nd < rows.length := by
  cases n with
  | zero => cases h
  | succ n =>
    unfold liesGo at h
    split at h
    · cases h
    · rename_i h1
      have := findRow_lt (xs := rows) (s := nd)
      omega
theorem lies_step {rows : List RowS} {over nd : Stamp} {n : Nat} (h : liesGo rows over n nd = true) (hp : ¬ (nth rows (findRow rows nd).toNat).par = over) : liesGo rows over (n - 1) (nth rows (findRow rows nd).toNat).par = true := by
  cases n with
  | zero => cases h
  | succ n =>
    unfold liesGo at h
    split at h
    · cases h
    · first | exact h | (rw [if_neg hp] at h; exact h)
theorem pathGo_step {rows : List RowS} {nd : Stamp} {n : Nat} {out : ByteArray} (h : liesGo rows ⟨0, 0⟩ n nd = true) (hp : ¬ (nth rows (findRow rows nd).toNat).par = ⟨0, 0⟩) :
    pathGo rows n nd out = pathGo rows (n - 1) (nth rows (findRow rows nd).toNat).par ((⟨#[47]⟩ : ByteArray) ++ ((nth rows (findRow rows nd).toNat).name ++ out)) := by
  cases n with
  | zero => cases h
  | succ n =>
    conv => lhs; unfold pathGo
    rw [if_neg hp]; rfl
theorem pathGo_end {rows : List RowS} {nd : Stamp} {n : Nat} {out : ByteArray} (h : liesGo rows ⟨0, 0⟩ n nd = true) (hp : (nth rows (findRow rows nd).toNat).par = ⟨0, 0⟩) : pathGo rows n nd out = (nth rows (findRow rows nd).toNat).name ++ out := by
  cases n with
  | zero => cases h
  | succ n =>
    unfold pathGo
    rw [if_pos hp]
theorem path_size {rows : List RowS} {over nd : Stamp} {n : Nat} {out name : ByteArray} (h : liesGo rows over n nd = true) (hn : n ≤ rows.length) (hs : out.size ≤ (rows.length - n) * 61) (hm : name.size ≤ 60) :
    ((⟨#[47]⟩ : ByteArray) ++ (name ++ out)).size ≤ (rows.length - (n - 1)) * 61 := by
  have := lies_at h
  rw [ByteArray.size_append, ByteArray.size_append, show (⟨#[47]⟩ : ByteArray).size = 1 from rfl]
  omega
theorem path_cat {rows : List RowS} {over nd : Stamp} {n : Nat} {out name : ByteArray} {a b : Nat} (h : liesGo rows over n nd = true) (hn : n ≤ rows.length) (hs : out.size ≤ (rows.length - n) * 61) (hl : rows.length ≤ 1048576) (hm : name.size ≤ 60) (e : a + b ≤ 1 + name.size + out.size) :
    a + b ≤ 9223372036854775807 := by
  omega
/-- The first k and the last k have changed places. -/
def revd (s : List ByteArray) (k : Nat) (cur : List ByteArray) : Prop := ∀ i, i < s.length → nth cur i = if i < k ∨ s.length - k ≤ i then nth s (s.length - 1 - i) else nth s i
theorem revd_zero (s : List ByteArray) : revd s 0 s := fun i hi => by rw [if_neg (by omega)]
theorem nth_set {α : Type} [Inhabited α] {l : List α} {i j : Nat} {x : α} (hi : i < l.length) : nth (l.set i x) j = if j = i then x else nth l j := by
  unfold nth
  simp only [List.getD_eq_getElem?_getD, List.getElem?_set]
  by_cases h : j = i
  · subst h; simp [hi]
  · rw [if_neg h, if_neg (Ne.symm h)]
theorem revd_succ {s cur : List ByteArray} {k : Nat} {j : Int} (hl : cur.length = s.length) (h : revd s k cur) (hj : j = (s.length : Int) - 1 - (k : Int)) (hk : (k : Int) < j) : revd s (k + 1) ((cur.set k (nth cur j.toNat)).set j.toNat (nth cur k)) := by
  intro i hi
  have e : j.toNat = s.length - 1 - k := by omega
  rw [e, nth_set (by rw [List.length_set]; omega), nth_set (by omega), h (s.length - 1 - k) (by omega), h k (by omega), h i hi]
  by_cases h1 : i = s.length - 1 - k
  · subst h1
    rw [if_pos rfl, if_neg (by omega), if_pos (by omega)]
    congr 1; omega
  · rw [if_neg h1]
    by_cases h2 : i = k
    · subst h2
      rw [if_pos rfl, if_neg (by omega), if_pos (by omega)]
    · rw [if_neg h2]
      by_cases h3 : i < k ∨ s.length - k ≤ i
      · rw [if_pos h3, if_pos (by omega)]
      · rw [if_neg h3, if_neg (by omega)]
theorem revd_end {s cur : List ByteArray} {k : Nat} (hl : cur.length = s.length) (h : revd s k cur) (hk : ¬ (k : Int) < (s.length : Int) - 1 - (k : Int)) : cur = s.reverse := by
  apply eq_of_nth (by simp [hl])
  intro i hi
  rw [h i (by omega)]
  have hr : nth s.reverse i = nth s (s.length - 1 - i) := by
    rw [nth_eq (by simp; omega), nth_eq (by omega), List.getElem_reverse]
  rw [hr]
  by_cases h3 : i < k ∨ s.length - k ≤ i
  · rw [if_pos h3]
  · rw [if_neg h3]
    congr 1; omega
def orInt (vals : List Int) : Int := (vals.find? fun v => !decide (v = 0)).getD 0
theorem orInt_at {vals : List Int} {k : Nat} (hn : ∀ i, i < k → nth vals i = 0) (hk : k < vals.length) (h : ¬ nth vals k = 0) : orInt vals = nth vals k := by
  unfold orInt
  have : vals.find? (fun v => !decide (v = 0)) = some (nth vals k) := by
    rw [List.find?_eq_some_iff_getElem]
    refine ⟨by simp [h], k, hk, (nth_eq hk).symm, fun j hj => ?_⟩
    have := hn j hj
    rw [nth_eq (by omega)] at this
    simp [this]
  rw [this]; rfl
theorem orInt_none {vals : List Int} (hn : ∀ i, i < vals.length → nth vals i = 0) : orInt vals = 0 := by
  unfold orInt
  have : vals.find? (fun v => !decide (v = 0)) = none := by
    rw [List.find?_eq_none]
    intro x hx
    obtain ⟨i, hi, rfl⟩ := List.getElem_of_mem hx
    have := hn i hi
    rw [nth_eq hi] at this
    simp [this]
  rw [this]; rfl
theorem orInt_cmp {a b : Stamp} : orInt [cmpInt a.T b.T, cmpInt a.R b.R] = cmpSt a b := by
  unfold orInt cmpInt cmpSt
  by_cases h1 : a.T < b.T
  · simp [h1]
  · by_cases h2 : b.T < a.T
    · have : ¬ a.T = b.T := by omega
      simp [h1, h2, this]
    · have : a.T = b.T := by omega
      simp only [this, Int.lt_irrefl, if_false, true_and, false_or]
      by_cases h3 : a.R < b.R
      · simp [h3]
      · by_cases h4 : b.R < a.R
        · have : ¬ a.R = b.R := by omega
          simp [h3, h4, this]
        · have : a.R = b.R := by omega
          simp [this]
theorem cmpSt_range (a b : Stamp) : cmpSt a b = -1 ∨ cmpSt a b = 0 ∨ cmpSt a b = 1 := by
  unfold cmpSt; split
  · exact .inl rfl
  · split
    · exact .inr (.inl rfl)
    · exact .inr (.inr rfl)
def riseBy {α : Type} [Inhabited α] (f : α → α → Int) (a : List α) : Bool := decide (∀ i, i < a.length → 1 ≤ i → f (nth a (i - 1)) (nth a i) < 0)
theorem rise_succ {α : Type} [Inhabited α] {f : α → α → Int} {a : List α} {k : Nat} (h : ∀ i, i < k → 1 ≤ i → f (nth a (i - 1)) (nth a i) < 0) (hk : f (nth a (k - 1)) (nth a k) < 0) : ∀ i, i < k + 1 → 1 ≤ i → f (nth a (i - 1)) (nth a i) < 0 := fun i h2 h1 => by
  rcases Nat.lt_or_eq_of_le (Nat.le_of_lt_succ h2) with h3 | h3
  · exact h i h3 h1
  · subst h3; exact hk
def itemHead1 (node : Stamp) (hs : List Head) (i : Nat) : Prop := stRight (nth hs i).tm = true ∧ cmpSt (nth hs i).tm node = 1 ∧ (nth hs i).data ≠ zeroId
theorem itemHead1_t {node : Stamp} {hs : List Head} {k : Nat} (h : (stRight (nth hs k).tm = true ∧ ¬ cmpSt (nth hs k).tm node ≤ 0) ∧ ¬ (nth hs k).data = zeroId) : itemHead1 node hs k :=
  ⟨h.1.1, by have := cmpSt_range (nth hs k).tm node; omega, h.2⟩
theorem itemOk_f3 {x : ItemS} {k : Nat} (hk : k < x.heads.length) (h : (stRight (nth x.heads k).tm = false ∨ cmpSt (nth x.heads k).tm x.node ≤ 0) ∨ (nth x.heads k).data = zeroId) : Value.bool false = Value.bool (itemOkS x) := by
  refine boolF ?_
  rintro ⟨_, _, _, _, _, hh⟩
  obtain ⟨a1, a2, a3, a4⟩ := hh k hk
  rcases h with (h | h) | h
  · rw [a1] at h; cases h
  · omega
  · exact a3 h
theorem cmp_lt_iff (a b : Stamp) : cmpSt a b < 0 ↔ cmpSt a b = -1 := by have := cmpSt_range a b; omega
theorem itemOk_e {x : ItemS} (h : (((stRight x.node = true ∧ stRight x.tm = true) ∧ ¬ cmpSt x.tm x.node < 0) ∧ nameOk x.name = true) ∧ ¬ (1000 : Int) < ((x.heads.length : Nat) : Int)) (h2 : ∀ i, i < x.heads.length → itemHead1 x.node x.heads i) :
    Value.bool (riseBy (fun a b : Head => cmpSt a.tm b.tm) x.heads) = Value.bool (itemOkS x) := by
  refine boolE ?_
  unfold riseBy
  rw [decide_eq_true_eq]
  constructor
  · intro hr
    refine ⟨h.1.1.1.1, h.1.1.1.2, h.1.1.2, h.1.2, by omega, fun i hi => ⟨(h2 i hi).1, (h2 i hi).2.1, (h2 i hi).2.2, ?_⟩⟩
    by_cases h0 : i = 0
    · exact .inl h0
    · exact .inr ((cmp_lt_iff _ _).1 (hr i hi (by omega)))
  · intro hr i hi h1
    rcases (hr.2.2.2.2.2 i hi).2.2.2 with h0 | h0
    · omega
    · exact (cmp_lt_iff _ _).2 h0
def idxBy {α : Type} (f : α → Bool) (a : List α) : Int := match a.findIdx? f with | some i => (i : Int) | none => -1
theorem idxBy_at {α : Type} [Inhabited α] {f : α → Bool} {a : List α} {k : Nat} (hn : ∀ i, i < k → f (nth a i) = false) (hk : k < a.length) (h : f (nth a k) = true) : idxBy f a = (k : Int) := by
  have : a.findIdx? f = some k := by
    rw [List.findIdx?_eq_some_iff_getElem]
    refine ⟨hk, by rw [← nth_eq hk]; exact h, fun j hj => ?_⟩
    have := hn j hj
    rw [nth_eq (by omega)] at this
    simp [this]
  simp [idxBy, this]
theorem idxBy_none {α : Type} [Inhabited α] {f : α → Bool} {a : List α} (hn : ∀ i, i < a.length → f (nth a i) = false) : idxBy f a = -1 := by
  have : a.findIdx? f = none := by
    rw [List.findIdx?_eq_none_iff]
    intro x hx
    obtain ⟨i, hi, rfl⟩ := List.getElem_of_mem hx
    have := hn i hi
    rwa [nth_eq hi] at this
  simp [idxBy, this]
theorem boolIdx {α : Type} [Inhabited α] (f : α → Bool) (a : List α) : Value.bool (decide (0 ≤ idxBy f a)) = Value.bool (a.any f) := by
  congr 1
  unfold idxBy
  cases h : a.findIdx? f with
  | none =>
    rw [List.findIdx?_eq_none_iff] at h
    have : a.any f = false := by rw [List.any_eq_false]; intro x hx; simp [h x hx]
    rw [this]; rfl
  | some i =>
    obtain ⟨hi, h1, _⟩ := List.findIdx?_eq_some_iff_getElem.1 h
    have : a.any f = true := List.any_eq_true.2 ⟨a[i], List.getElem_mem hi, h1⟩
    rw [this]; simp
theorem dirOk_e {items : List ItemS} : Value.bool ((decide (((items.length : Nat) : Int) ≤ 1000) && !items.any fun x => !itemOkS x) && riseBy (fun a b : ItemS => cmpSt a.node b.node) items) = Value.bool (dirOk items) := by
  refine boolE ?_
  unfold riseBy
  simp only [Bool.and_eq_true, decide_eq_true_eq, Bool.not_eq_true', List.any_eq_false, Bool.not_eq_false]
  constructor
  · rintro ⟨⟨h1, h2⟩, h3⟩
    refine ⟨by omega, fun i hi => ⟨h2 _ (nth_mem hi), ?_⟩⟩
    by_cases h0 : i = 0
    · exact .inl h0
    · exact .inr ((cmp_lt_iff _ _).1 (h3 i hi (by omega)))
  · rintro ⟨h1, h2⟩
    refine ⟨⟨by omega, fun x hx => ?_⟩, fun i hi h0 => ?_⟩
    · obtain ⟨i, hi, rfl⟩ := List.getElem_of_mem hx
      rw [← nth_eq hi]; exact (h2 i hi).1
    · rcases (h2 i hi).2 with h | h
      · omega
      · exact (cmp_lt_iff _ _).2 h
theorem swap_perm {α : Type} [Inhabited α] {l : List α} {i j : Nat} (hi : i < l.length) (hj : j < l.length) : ((l.set i (nth l j)).set j (nth l i)).Perm l := by
  by_cases hij : i = j
  · subst hij
    rw [nth_eq hi, List.set_getElem_self, List.set_getElem_self]
  · rw [nth_eq hi, nth_eq hj]
    exact @List.set_set_perm _ l i j hi hj
theorem swap_perm' {l s : List RowS} {i j : Nat} (h : l.Perm s) (hi : i < l.length) (hj : j < l.length) : ((l.set i (nth l j)).set j (nth l i)).Perm s := (swap_perm hi hj).trans h
end Go.Proofs.YthjdhfoeckfmbaaGreat
namespace Go.Proofs.YthjdhfoeckfmbaaGreat
open Go
set_option maxRecDepth 100000
set_option linter.unusedVariables false
set_option linter.unusedSimpArgs false
set_option linter.unusedSectionVars false
variable [DD]
theorem eqv_Stamp69 : EqV Tryz.prog 69 2 (fun x : Stamp => stampV x) :=
  eqv_struct2 Tryz.underlying69 Tryz.stoodInHeld69 (by decide) (by decide) (fun _ _ => part_1 (kk := 0) Tryz.isAgg2 rfl rfl) (fun _ _ => part_1 (kk := 1) Tryz.isAgg3 rfl rfl) (p := Stamp.T) (q := Stamp.R) (eqv_int Tryz.underlying2) (eqv_int Tryz.underlying3) (fun x y h1 h2 => by cases x; cases y; simp_all)
theorem eqv_ID45 : EqV Tryz.prog 45 2 (fun x : ID => idV x) := eqv_id (e := 5) (i := Tryz.t5) Tryz.underlying45 Tryz.underlying5 (by kernel_rfl) rfl Tryz.isAgg5
theorem eqv_ID44 : EqV Tryz.prog 44 2 (fun x : ID => idV x) := eqv_id (e := 5) (i := Tryz.t5) Tryz.underlying44 Tryz.underlying5 (by kernel_rfl) rfl Tryz.isAgg5
theorem eqv_Head84 : EqV Tryz.prog 84 3 (fun x : Head => headV x) :=
  eqv_struct2 Tryz.underlying84 Tryz.stoodInHeld84 (by decide) (by decide) (fun _ _ => part_A (kk := 0) (m := 2) Tryz.isAgg69 Tryz.sizeOf69 rfl rfl rfl) (fun _ _ => part_A (kk := 2) (m := 1) Tryz.isAgg45 Tryz.sizeOf45 rfl rfl rfl) (p := Head.tm) (q := Head.data) eqv_Stamp69 eqv_ID45 (fun x y h1 h2 => by cases x; cases y; simp_all)
theorem eqv_Label55 : EqV Tryz.prog 55 3 (fun x : Label => labelV x) :=
  eqv_struct3 Tryz.underlying55 Tryz.stoodInHeld55 (by decide) (by decide) (by decide) (fun _ _ => part_A (kk := 0) (m := 1) Tryz.isAgg45 Tryz.sizeOf45 rfl rfl rfl) (fun _ _ => part_1 (kk := 1) Tryz.isAgg9 rfl rfl) (fun _ _ => part_1 (kk := 2) Tryz.isAgg9 rfl rfl) (p := Label.target) (q := Label.name) (r := Label.msg) eqv_ID45 (eqv_up (eqv_str Tryz.underlying9)) (eqv_up (eqv_str Tryz.underlying9)) (fun x y h1 h2 h3 => by cases x; cases y; simp_all)
theorem keyT_Stamp69 : KeyT Tryz.prog 69 (fun x : Stamp => stampV x) := keyT_stamp (i1 := 0) (i2 := 0) (n1 := "") (n2 := "") Tryz.underlying69 (by decide) (by decide) rfl rfl Tryz.underlying2 Tryz.underlying3 Tryz.isAgg2 Tryz.isAgg3 eqv_Stamp69
theorem TryzMixed : Tryz.prog.follows .mixedOrders = true := by kernel_rfl
end Go.Proofs.YthjdhfoeckfmbaaGreat
namespace Go.Proofs.YthjdhfoeckfmbaaGreat
open Go
set_option maxRecDepth 100000
set_option linter.unusedVariables false
set_option linter.unusedSimpArgs false
set_option linter.unusedSectionVars false
variable [DD]
set_option maxHeartbeats 1000000 in
theorem bytes_Clone (hb : SlH) (b : List UInt8) (w : World) (Sb : Sl (Old w) encB 1 hb b w) (hl : b.length ≤ 140737488355328) :
    Calls Tryz.prog 37 #[(slV hb b)] w (Ret fun v w' => ∃ h, v = slV h (b) ∧ Ext w w' ∧ OwnS w.heap.size 5 1 encB h (b) w') := by
 refine calls_W Tryz.func37 rfl Tryz.ntmps37 rfl ?_
 have H0 := Ctx.start w nob
 have H1 := H0.addSl _ Sb (fun b hb => ⟨hb, fun _ ho => (nomatch ho)⟩)
 have LSb := Sb.len
 refine W_seq (W_reg ?_)
 refine O_v rfl (R_assign (v := (.slice none 0 0)) rfl ?_)
 refine O_nil (Then_n (W_seq (W_seq (W_reg ?_))))
 refine O_v rfl (R_move (v := (slV hb b)) rfl ?_)
 refine O_v rfl (R_slice_nil (a := hb.a) Tryz.underlying22 rfl rfl ?_)
 refine O_nil (Then_n ?_)
 refine W_cond (t := hb.a.isNone) rfl (fun hc2 => ?_) (fun hc2 => ?_)
 ·have hc2 : hb.a.isNone = true := hc2
  refine W_seq (W_reg ?_)
  refine O_v rfl (R_assign (v := (.slice none 0 0)) rfl ?_)
  refine O_nil (Then_n (W_ret (Then_r ?_)))
  refine ret_1 (v := (.slice none 0 0)) Tryz.results37 rfl ?_
  have H3 := H1.addNil 5 1 encB
  have hE : [] = b := (Sl.isNil Sb (by assumption)).symm
  refine ⟨nilH, ?_, H3.gr, ?_⟩
  · exact congrArg (fun l => slV nilH l) hE
  · have hO := H3.retRow 0 rfl
    exact hE ▸ hO
 ·have hc2 : hb.a.isNone = false := hc2
  refine W_skip (Then_n (W_seq (W_reg ?_)))
  refine O_v rfl (C_buildSliceL H1 (enc := encB) (val := byteV) ([] : List UInt8) Tryz.underlying22 Tryz.sizeOf5 Tryz.zeroValue5 rfl (by decide) (fun _ => rfl) (fun _ => rfl) rfl rfl (by decide) ?_)
  intro b4 w5 hb6 hx7 H8
  refine O_v rfl (R_move (v := (slV hb b)) rfl ?_)
  refine O_v rfl (C_append H8 0 rfl (bytes := 1) (l := ([] : List UInt8)) (ys := b) Tryz.underlying22 rfl rfl rfl rfl rfl (by decide) rfl rfl (H8.sl 0 rfl) (fun _ => rfl) (fun _ => rfl) (by simpa using hl) (by decide) ?_)
  intro h9 w10 hg11 H12
  refine O_v rfl (R_assign (v := (slV h9 (([] : List UInt8) ++ b))) rfl ?_)
  refine O_nil (Then_n (W_ret ?_))
  refine ret_1 (v := (slV h9 (([] : List UInt8) ++ b))) Tryz.results37 rfl ?_
  have hE : ([] : List UInt8) ++ b = b := List.nil_append _
  refine ⟨h9, ?_, H12.gr, ?_⟩
  · exact congrArg (fun l => slV h9 l) hE
  · have hO := H12.retRow 0 rfl
    exact hE ▸ hO

end Go.Proofs.YthjdhfoeckfmbaaGreat
/- The plain side: numbers, texts and objects as bytes. -/
namespace Go.Proofs.YthjdhfoeckfmbaaGreat
open Go
set_option linter.unusedVariables false
set_option linter.unusedSimpArgs false
set_option linter.unusedSectionVars false
def numGo (u : Nat) : List UInt8 := if h : 127 < u then (UInt8.ofNat u ||| 128) :: numGo (u / 128) else [UInt8.ofNat u]
termination_by u
decreasing_by omega
def numClamp (n : Int) : Nat := (min (max n 0) 4611686018427387904).toNat
def numB (n : Int) : List UInt8 := numGo (numClamp n)
theorem numClamp_le (n : Int) : numClamp n ≤ 4611686018427387904 := by unfold numClamp; omega
theorem numGo_big {u : Nat} (h : 127 < u) : numGo u = (UInt8.ofNat u ||| 128) :: numGo (u / 128) := by rw [numGo]; rw [dif_pos h]
theorem numGo_small {u : Nat} (h : ¬ 127 < u) : numGo u = [UInt8.ofNat u] := by rw [numGo]; rw [dif_neg h]
theorem numGo_len : ∀ (k u : Nat), u < 128 ^ (k + 1) → 1 ≤ (numGo u).length ∧ (numGo u).length ≤ k + 1
  | 0, u, h => by rw [numGo_small (by omega)]; simp
  | k + 1, u, h => by
    by_cases hu : 127 < u
    · rw [numGo_big hu]
      have := numGo_len k (u / 128) (by rw [Nat.pow_succ] at h; exact Nat.div_lt_of_lt_mul (by omega))
      simp only [List.length_cons]; omega
    · rw [numGo_small hu]; simp
theorem numB_len (n : Int) : 1 ≤ (numB n).length ∧ (numB n).length ≤ 9 := by
  have h := numClamp_le n
  have e : 128 ^ (8 + 1) = 9223372036854775808 := by decide
  exact numGo_len 8 _ (by rw [e]; omega)
theorem conv_clamp (n : Int) : IntKind.u64.wrap (min (max n 0) 4611686018427387904) = ((numClamp n : Nat) : Int) := by
  rw [u64_in _ (by omega)]; unfold numClamp; omega
theorem numGo_len1 (u : Nat) : 1 ≤ (numGo u).length := by
  by_cases h : 127 < u
  · rw [numGo_big h]; simp
  · rw [numGo_small h]; simp
theorem num_step {acc b : List UInt8} {u : Nat} {n : Int} (h : acc ++ numGo u = b ++ numB n) (hu : 127 < u) : (acc ++ [UInt8.ofNat u ||| 128]) ++ numGo (u / 128) = b ++ numB n := by
  rw [← h, numGo_big hu]; simp
theorem num_end {acc b : List UInt8} {u : Nat} {n : Int} (h : acc ++ numGo u = b ++ numB n) (hu : ¬ 127 < u) : acc ++ [UInt8.ofNat u] = b ++ numB n := by rw [← h, numGo_small hu]
theorem num_room {acc b : List UInt8} {u : Nat} {n : Int} (h : acc ++ numGo u = b ++ numB n) : acc.length + 1 ≤ b.length + 9 := by
  have h1 := congrArg List.length h
  have h2 := numB_len n
  have h3 := numGo_len1 u
  simp only [List.length_append] at h1
  omega
def atB (s : Stamp) : List UInt8 := numB s.T ++ numB s.R
def textB (s : ByteArray) : List UInt8 := numB s.size ++ s.data.toList
theorem atB_len (s : Stamp) : (atB s).length ≤ 18 := by
  have := numB_len s.T
  have := numB_len s.R
  simp only [atB, List.length_append]; omega
theorem textB_len (s : ByteArray) : (textB s).length ≤ 9 + s.size := by
  have := numB_len s.size
  have e : s.data.toList.length = s.size := by rw [Array.length_toList]; rfl
  simp only [textB, List.length_append, e]; omega
theorem size_data' (s : ByteArray) : s.data.toList.length = s.size := by rw [Array.length_toList]; rfl
theorem bad_ascii : ∀ (j : Nat) b, (⟨#[0, 47, 10]⟩ : ByteArray).data.toList[j]? = some b → b.toNat < 128 := by
  intro j b h
  match j with
  | 0 => simp at h; subst h; decide
  | 1 => simp at h; subst h; decide
  | 2 => simp at h; subst h; decide
  | n + 3 => simp at h
theorem containsAny_iff (l chars : List UInt8) : Lib.containsAny l chars = l.any fun b => chars.contains b := by
  unfold Lib.containsAny
  induction l with
  | nil => rfl
  | cons b l ih =>
    unfold Lib.indexAny
    simp only [List.any_cons]
    by_cases hb : chars.contains b = true
    · simp only [hb, if_true, Bool.true_or]; rfl
    · have hb' : chars.contains b = false := by simpa using hb
      simp only [hb', Bool.false_eq_true, if_false, Bool.false_or]
      rw [← ih]
      by_cases hi : (Lib.indexAny l chars == -1) = true
      · rw [if_pos hi]
        have : Lib.indexAny l chars = -1 := by simpa using hi
        rw [this]
      · rw [if_neg hi]
        have h1 := Lib.indexAny_ge chars l
        have h2 : Lib.indexAny l chars ≠ -1 := by simpa using hi
        rw [decide_eq_decide]; omega
theorem nameOk_any {s : ByteArray} : Value.bool ((((decide ((1 : Int) ≤ ((s.size : Nat) : Int)) && decide (((s.size : Nat) : Int) ≤ 60)) && !decide (s = (⟨#[46]⟩ : ByteArray))) && !decide (s = (⟨#[46, 46]⟩ : ByteArray))) && !Lib.containsAny s.data.toList (⟨#[0, 47, 10]⟩ : ByteArray).data.toList) = Value.bool (nameOk s) := by
  have hc : Lib.containsAny s.data.toList (⟨#[0, 47, 10]⟩ : ByteArray).data.toList = false ↔ ∀ j, j < s.size → badByte (sbyte s j) = false := by
    rw [containsAny_iff, List.any_eq_false]
    constructor
    · intro h j hj
      have := h s[j] (by
        have e : s.data.toList[j]'(by rw [size_data' s]; exact hj) = s[j] := rfl
        rw [← e]; exact List.getElem_mem _)
      rw [sbyte_eq hj]
      simp only [badByte, List.contains_cons, List.contains_nil, Bool.or_false, Bool.not_eq_true, Bool.or_eq_false_iff, beq_eq_false_iff_ne, ne_eq, decide_eq_false_iff_not] at this ⊢
      exact ⟨⟨this.1, this.2.1⟩, this.2.2⟩
    · intro h b hb
      obtain ⟨j, hj, rfl⟩ := List.getElem_of_mem hb
      have hj' : j < s.size := by rw [← size_data' s]; exact hj
      have := h j hj'
      rw [sbyte_eq hj', show s[j] = s.data.toList[j] from rfl] at this
      simp only [badByte, List.contains_cons, List.contains_nil, Bool.or_false, Bool.not_eq_true, Bool.or_eq_false_iff, beq_eq_false_iff_ne, ne_eq, decide_eq_false_iff_not] at this ⊢
      exact ⟨this.1.1, this.1.2, this.2⟩
  refine boolE ?_
  simp only [Bool.and_eq_true, Bool.not_eq_true', decide_eq_false_iff_not, decide_eq_true_eq, hc]
  constructor
  · rintro ⟨⟨⟨⟨h1, h2⟩, h3⟩, h4⟩, h5⟩
    exact ⟨fun e => by rw [e] at h1; exact absurd h1 (by decide), by omega, h3, h4, h5⟩
  · rintro ⟨h1, h2, h3, h4, h5⟩
    refine ⟨⟨⟨⟨?_, by omega⟩, h3⟩, h4⟩, h5⟩
    rcases Nat.eq_zero_or_pos s.size with h0 | h0
    · exact absurd (ByteArray.size_eq_zero_iff.1 h0) h1
    · omega
def headB (h : Head) : List UInt8 := atB h.tm ++ idList h.data
def itemTo (x : ItemS) (j : Nat) : List UInt8 := (((((([] : List UInt8) ++ atB x.node) ++ atB x.tm) ++ textB x.name) ++ idList x.sub) ++ numB ((x.heads.length : Nat) : Int)) ++ ((x.heads.take j).map headB).flatten
def itemB (x : ItemS) : List UInt8 := itemTo x x.heads.length
def dirTo (items : List ItemS) (k : Nat) : List UInt8 := ([2] ++ numB ((items.length : Nat) : Int)) ++ ((items.take k).map itemB).flatten
def dirB (items : List ItemS) : List UInt8 := dirTo items items.length
def putDirB (items : List ItemS) : List UInt8 := if dirOk items = true then dirB items else []
def putDirE (items : List ItemS) : Int := if dirOk items = true then 0 else 1
theorem putDir_no {items : List ItemS} (h : dirOk items = false) : ([] : List UInt8) = putDirB items ∧ (1 : Int) = putDirE items := by
  unfold putDirB putDirE; rw [if_neg (by rw [h]; simp), if_neg (by rw [h]; simp)]; exact ⟨rfl, rfl⟩
theorem dirTo_zero (items : List ItemS) : ([2] : List UInt8) ++ numB ((items.length : Nat) : Int) = dirTo items 0 := by simp [dirTo]
theorem item_end {items : List ItemS} {acc acc2 : List UInt8} {k j : Nat} (ha : acc = dirTo items k) (h2 : acc2 = acc ++ itemTo (nth items k) j) (hk : k < items.length) (hj : j = (nth items k).heads.length) : acc2 = dirTo items (k + 1) := by
  subst ha hj
  rw [h2]
  unfold dirTo
  rw [List.take_succ_eq_append_getElem hk, List.map_append, List.flatten_append, nth_eq hk]
  simp [itemB, List.append_assoc]
theorem item_start (acc : List UInt8) (x : ItemS) : acc ++ ((((([] : List UInt8) ++ atB x.node) ++ atB x.tm) ++ textB x.name) ++ idList x.sub ++ numB ((x.heads.length : Nat) : Int)) = acc ++ itemTo x 0 := by simp [itemTo]
theorem head_step {acc acc2 : List UInt8} {x : ItemS} {j : Nat} (h : acc2 = acc ++ itemTo x j) (hj : j < x.heads.length) : acc2 ++ ((([] : List UInt8) ++ atB (nth x.heads j).tm) ++ idList (nth x.heads j).data) = acc ++ itemTo x (j + 1) := by
  rw [h]
  unfold itemTo
  rw [List.take_succ_eq_append_getElem hj, List.map_append, List.flatten_append, nth_eq hj]
  simp [headB, List.append_assoc]
theorem dir_end {items : List ItemS} {acc : List UInt8} {k : Nat} (ha : acc = dirTo items k) (hD : dirOk items = true) (hk : k = items.length) : acc = putDirB items ∧ (0 : Int) = putDirE items := by
  subst hk
  unfold putDirB putDirE
  rw [if_pos hD, if_pos hD]
  exact ⟨ha, rfl⟩
theorem dirOk_lens {items : List ItemS} {k : Nat} (h : dirOk items = true) (hk : k < items.length) : (nth items k).name.size ≤ 60 ∧ (nth items k).heads.length ≤ 1000 ∧ items.length ≤ 1000 := by
  have h1 := of_decide_eq_true h
  have h2 := of_decide_eq_true (h1.2 k hk).1
  have h3 := of_decide_eq_true h2.2.2.2.1
  exact ⟨h3.2.1, h2.2.2.2.2.1, h1.1⟩
def fixedSt (s : Stamp) : Bool := decide (s.T = 0 ∧ (s.R = 0 ∨ s.R = 1))
end Go.Proofs.YthjdhfoeckfmbaaGreat
/- Readers in plain words. -/
namespace Go.Proofs.YthjdhfoeckfmbaaGreat
open Go
set_option linter.unusedVariables false
set_option linter.unusedSimpArgs false
/-- So many bytes, what is left; none where there aren't so many. -/
def rdTake (q : List UInt8 × Bool) (n : Nat) : List UInt8 × (List UInt8 × Bool) :=
  if q.2 = true ∨ q.1.length < n then ([], ([], true)) else (q.1.take n, (q.1.drop n, false))
/-- A number, its bytes from the k-th on; u: what came ahead. -/
def rdNumGo (most : Int) : Nat → Nat → Nat → List UInt8 × Bool → Nat × (List UInt8 × Bool)
  | 0, _, _, _ => (0, ([], true))
  | f + 1, k, u, q =>
    if (rdTake q 1).1 = [] then (0, (rdTake q 1).2) else
    let b := nth (rdTake q 1).1 0
    let v := u ||| ((b &&& 127).toNat * 2 ^ (7 * k))
    if 127 < b.toNat then rdNumGo most f (k + 1) v (rdTake q 1).2
    else if (4611686018427387904 < v ∨ most < (v : Int)) ∨ (b.toNat = 0 ∧ 0 < k) then (0, ([], true))
    else (v, (rdTake q 1).2)
def rdNum (q : List UInt8 × Bool) (most : Int) : Nat × (List UInt8 × Bool) := rdNumGo most 9 0 0 q
def rdText (q : List UInt8 × Bool) (most : Int) : ByteArray × (List UInt8 × Bool) :=
  (⟨(rdTake (rdNum q most).2 (rdNum q most).1).1.toArray⟩, (rdTake (rdNum q most).2 (rdNum q most).1).2)
def rdId (q : List UInt8 × Bool) : ID × (List UInt8 × Bool) := (idPut zeroId (rdTake q 32).1, (rdTake q 32).2)
def rdAt (q : List UInt8 × Bool) : Stamp × (List UInt8 × Bool) :=
  (⟨((rdNum q 1099511627776).1 : Int), ((rdNum (rdNum q 1099511627776).2 65536).1 : Int)⟩, (rdNum (rdNum q 1099511627776).2 65536).2)
def rdDone (q : List UInt8 × Bool) : Bool := !q.2 && decide (q.1 = [])
def openSt (b : List UInt8) (kind : UInt8) : List UInt8 × Bool := if b = [] ∨ nth b 0 ≠ kind then ([], true) else (b.drop 1, false)
section
variable {q : List UInt8 × Bool} {r : RdS}
theorem take_f {n : Nat} (E : r.st = q) (h : r.bad = true ∨ ((r.b.length : Nat) : Int) < ((n : Nat) : Int)) : rdTake q n = ([], ([], true)) := by
  subst E
  unfold rdTake
  rw [if_pos]
  rcases h with h | h
  · exact .inl h
  · exact .inr (by show r.b.length < n; omega)
theorem take_t {n : Nat} (E : r.st = q) (h : r.bad = false ∧ ¬ ((r.b.length : Nat) : Int) < ((n : Nat) : Int)) : rdTake q n = (r.b.take n, (r.b.drop n, false)) := by
  subst E
  unfold rdTake
  rw [if_neg]
  · rfl
  · rintro (h1 | h1)
    · rw [show r.bad = true from h1] at h; cases h.1
    · exact h.2 (by have : r.b.length < n := h1; omega)
theorem take_st {n : Nat} {H : SlH} (E : r.st = q) (h : r.bad = false ∧ ¬ ((r.b.length : Nat) : Int) < ((n : Nat) : Int)) : (⟨r.b.drop n, H, r.bad⟩ : RdS).st = (rdTake q n).2 := by
  rw [take_t E h, h.1]; rfl
theorem take_ne {n : Nat} (h0 : r.b.take n = []) (hn : 0 < n) (h : r.bad = false ∧ ¬ ((r.b.length : Nat) : Int) < ((n : Nat) : Int)) : False := by
  have := congrArg List.length h0
  rw [List.length_take, List.length_nil] at this
  omega
theorem take_len (q : List UInt8 × Bool) (n : Nat) : (rdTake q n).1.length = n ∨ (rdTake q n).1 = [] := by
  unfold rdTake
  split
  · exact .inr rfl
  · left
    simp; omega
theorem take_len32 (q : List UInt8 × Bool) : (rdTake q 32).1.length = 32 ∨ (rdTake q 32).1 = [] := take_len q 32
theorem take_len1 {h : SlH} (hv : (rdTake q 1).1 = [] → 0 < 1 → h.a.isNone = true) (hn : h.a.isNone = false) : (rdTake q 1).1.length = 1 := by
  rcases take_len q 1 with h1 | h1
  · exact h1
  · rw [hv h1 (by decide)] at hn; cases hn
theorem take_nil1 (h : (rdTake q 1).1 = []) : (rdTake q 1).1 = [] := h
theorem done_eq (E : r.st = q) : Value.bool (!r.bad && decide (((r.b.length : Nat) : Int) = 0)) = Value.bool (rdDone q) := by
  subst E
  congr 1
  show _ = (!r.bad && decide (r.b = []))
  congr 1
  rw [decide_eq_decide, ← List.length_eq_zero_iff]
  omega
theorem open_f {b : List UInt8} {kind : UInt8} (h : ((b.length : Nat) : Int) = 0 ∨ ¬ ((nth b 0).toNat : Int) = (kind.toNat : Int)) : openSt b kind = ([], true) := by
  unfold openSt
  rw [if_pos]
  rcases h with h | h
  · exact .inl (List.length_eq_zero_iff.1 (by omega))
  · exact .inr fun e => h (by rw [e])
theorem open_t {b : List UInt8} {kind : UInt8} (h : ¬ ((b.length : Nat) : Int) = 0 ∧ ((nth b 0).toNat : Int) = (kind.toNat : Int)) : openSt b kind = (b.drop 1, false) := by
  unfold openSt
  rw [if_neg]
  rintro (e | e)
  · exact h.1 (by rw [e]; rfl)
  · exact e (UInt8.toNat_inj.1 (by have := h.2; omega))
variable {most : Int} {q0 : Nat × (List UInt8 × Bool)} {k u : Nat}
theorem num_nil (hgo : rdNumGo most (9 - k) k u q = q0) (hk : k < 9) (h : (rdTake q 1).1 = []) : Value.int .i64 0 = Value.int .i64 ((q0.1 : Nat) : Int) ∧ (rdTake q 1).2 = q0.2 := by
  rw [show 9 - k = (8 - k) + 1 from by omega] at hgo
  subst hgo
  simp [rdNumGo, h]
theorem num_next (hgo : rdNumGo most (9 - k) k u q = q0) (hk : k < 9) (h : (rdTake q 1).1.length = 1) (hb : (127 : Int) < ((nth (rdTake q 1).1 0).toNat : Int)) :
    rdNumGo most (9 - (k + 1)) (k + 1) (u ||| ((nth (rdTake q 1).1 0 &&& 127).toNat * 2 ^ (7 * k))) (rdTake q 1).2 = q0 := by
  rw [show 9 - k = (9 - (k + 1)) + 1 from by omega] at hgo
  have hne : (rdTake q 1).1 ≠ [] := fun e => by rw [e] at h; cases h
  rw [rdNumGo, if_neg hne] at hgo
  simp only at hgo
  rwa [if_pos (by omega)] at hgo
theorem num_bad (hgo : rdNumGo most (9 - k) k u q = q0) (hk : k < 9) (h : (rdTake q 1).1.length = 1) (hb : ¬ (127 : Int) < ((nth (rdTake q 1).1 0).toNat : Int))
    (hc : ((4611686018427387904 : Int) < (((u ||| ((nth (rdTake q 1).1 0 &&& 127).toNat * 2 ^ (7 * k)) : Nat) : Int)) ∨ most < (((u ||| ((nth (rdTake q 1).1 0 &&& 127).toNat * 2 ^ (7 * k)) : Nat) : Int))) ∨ (((nth (rdTake q 1).1 0).toNat : Int) = 0 ∧ (0 : Int) < ((7 * k : Nat) : Int))) :
    Value.int .i64 0 = Value.int .i64 ((q0.1 : Nat) : Int) ∧ ([], true) = q0.2 := by
  rw [show 9 - k = (9 - (k + 1)) + 1 from by omega] at hgo
  have hne : (rdTake q 1).1 ≠ [] := fun e => by rw [e] at h; cases h
  rw [rdNumGo, if_neg hne] at hgo
  simp only at hgo
  rw [if_neg (by omega), if_pos (by omega)] at hgo
  subst hgo
  exact ⟨rfl, rfl⟩
theorem num_ok (hgo : rdNumGo most (9 - k) k u q = q0) (hk : k < 9) (h : (rdTake q 1).1.length = 1) (hb : ¬ (127 : Int) < ((nth (rdTake q 1).1 0).toNat : Int))
    (hc : (¬ (4611686018427387904 : Int) < (((u ||| ((nth (rdTake q 1).1 0 &&& 127).toNat * 2 ^ (7 * k)) : Nat) : Int)) ∧ ¬ most < (((u ||| ((nth (rdTake q 1).1 0 &&& 127).toNat * 2 ^ (7 * k)) : Nat) : Int))) ∧ (¬ ((nth (rdTake q 1).1 0).toNat : Int) = 0 ∨ ¬ (0 : Int) < ((7 * k : Nat) : Int))) :
    Value.int .i64 (((u ||| ((nth (rdTake q 1).1 0 &&& 127).toNat * 2 ^ (7 * k)) : Nat) : Int)) = Value.int .i64 ((q0.1 : Nat) : Int) ∧ (rdTake q 1).2 = q0.2 := by
  rw [show 9 - k = (9 - (k + 1)) + 1 from by omega] at hgo
  have hne : (rdTake q 1).1 ≠ [] := fun e => by rw [e] at h; cases h
  rw [rdNumGo, if_neg hne] at hgo
  simp only at hgo
  rw [if_neg (by omega), if_neg (by omega)] at hgo
  subst hgo
  exact ⟨rfl, rfl⟩
theorem rnum_end (hgo : rdNumGo most (9 - k) k u q = q0) (hk : k = 9) : Value.int .i64 0 = Value.int .i64 ((q0.1 : Nat) : Int) ∧ ([], true) = q0.2 := by
  subst hk
  subst hgo
  exact ⟨rfl, rfl⟩
theorem num_shift : Value.int .i64 (((7 * k : Nat) : Int) + 7) = Value.int .i64 ((7 * (k + 1) : Nat) : Int) := congrArg _ (by omega)
end
theorem num_b1 {u k : Nat} (hu : u < 2 ^ (7 * k)) (hk : k < 9) : u < 18446744073709551616 :=
  Nat.lt_trans hu (Nat.lt_of_le_of_lt (Nat.pow_le_pow_right (by decide) (show 7 * k ≤ 56 from by omega)) (by decide))
theorem and127 (b : UInt8) : (b &&& 127).toNat < 128 := by
  rw [UInt8.toNat_and]
  exact Nat.lt_of_le_of_lt Nat.and_le_right (by decide)
theorem num_b2 {k : Nat} (b : UInt8) (hk : k < 9) : (b &&& 127).toNat * 2 ^ (7 * k) < 18446744073709551616 := by
  have h1 := and127 b
  have h2 : 2 ^ (7 * k) ≤ 2 ^ 56 := Nat.pow_le_pow_right (by decide) (by omega)
  calc _ ≤ 127 * 2 ^ 56 := Nat.mul_le_mul (by omega) h2
    _ < _ := by decide
theorem num_lt {u k : Nat} {b : UInt8} (hu : u < 2 ^ (7 * k)) (hk : k < 9) : (u ||| ((b &&& 127).toNat * 2 ^ (7 * k))) < 2 ^ (7 * (k + 1)) := by
  have h1 := and127 b
  refine Nat.or_lt_two_pow (Nat.lt_of_lt_of_le hu (Nat.pow_le_pow_right (by decide) (by omega))) ?_
  rw [show 7 * (k + 1) = 7 + 7 * k from by omega, Nat.pow_add]
  exact Nat.mul_lt_mul_of_pos_right (by omega) (Nat.pow_pos (by decide))
/-! ### Blobs, tags -/
def putBlobB (b : List UInt8) : List UInt8 := if b.length ≤ 4096 then [1] ++ b else []
def putBlobE (b : List UInt8) : Int := if b.length ≤ 4096 then 0 else 2
theorem putBlob_f {b : List UInt8} (h : (4096 : Int) < ((b.length : Nat) : Int)) : ([] : List UInt8) = putBlobB b ∧ (2 : Int) = putBlobE b := by
  unfold putBlobB putBlobE
  rw [if_neg (by omega), if_neg (by omega)]; exact ⟨rfl, rfl⟩
theorem putBlob_t {b : List UInt8} (h : ¬ (4096 : Int) < ((b.length : Nat) : Int)) : [1] ++ b = putBlobB b ∧ (0 : Int) = putBlobE b := by
  unfold putBlobB putBlobE
  rw [if_pos (by omega), if_pos (by omega)]; exact ⟨rfl, rfl⟩
def blobOk (b : List UInt8) : Prop := 0 < b.length ∧ (nth b 0).toNat = 1 ∧ b.length ≤ 4097
instance (b : List UInt8) : Decidable (blobOk b) := by unfold blobOk; infer_instance
def blobB (b : List UInt8) : List UInt8 := if blobOk b then b.drop 1 else []
def blobE (b : List UInt8) : Int := if blobOk b then 0 else 20
theorem blob_f {b : List UInt8} (h : (((b.length : Nat) : Int) = 0 ∨ ¬ ((nth b 0).toNat : Int) = 1) ∨ (4096 : Int) < ((b.length - 1 : Nat) : Int)) : ([] : List UInt8) = blobB b ∧ (20 : Int) = blobE b := by
  unfold blobB blobE
  have : ¬ blobOk b := fun ⟨h1, h2, h3⟩ => by omega
  rw [if_neg this, if_neg this]; exact ⟨rfl, rfl⟩
theorem blob_t {b : List UInt8} (h : (¬ ((b.length : Nat) : Int) = 0 ∧ ((nth b 0).toNat : Int) = 1) ∧ ¬ (4096 : Int) < ((b.length - 1 : Nat) : Int)) : b.drop 1 = blobB b ∧ (0 : Int) = blobE b := by
  unfold blobB blobE
  have : blobOk b := ⟨by omega, by omega, by omega⟩
  rw [if_pos this, if_pos this]; exact ⟨rfl, rfl⟩
def labelOk (l : Label) : Bool := !decide (l.target = zeroId) && nameOk l.name && decide (((l.msg.size : Nat) : Int) ≤ 200)
def labelB (l : Label) : List UInt8 := (([4] ++ idList l.target) ++ textB l.name) ++ textB l.msg
def putLabelB (l : Label) : List UInt8 := if labelOk l = true then labelB l else []
def putLabelE (l : Label) : Int := if labelOk l = true then 0 else 1
theorem label_eq {l : Label} : Value.bool ((!decide (l.target = zeroId) && nameOk l.name) && decide (((l.msg.size : Nat) : Int) ≤ 200)) = Value.bool (labelOk l) := rfl
theorem putLabel_f {l : Label} (h : labelOk l = false) : ([] : List UInt8) = putLabelB l ∧ (1 : Int) = putLabelE l := by
  unfold putLabelB putLabelE
  rw [h]; exact ⟨rfl, rfl⟩
theorem putLabel_t {l : Label} (h : labelOk l = true) : (([4] ++ idList l.target) ++ textB l.name) ++ textB l.msg = putLabelB l ∧ (0 : Int) = putLabelE l := by
  unfold putLabelB putLabelE
  rw [h]; exact ⟨rfl, rfl⟩
theorem label_size {l : Label} (h : labelOk l = true) : l.name.size ≤ 60 ∧ l.msg.size ≤ 200 := by
  simp only [labelOk, Bool.and_eq_true, decide_eq_true_eq] at h
  exact ⟨(of_decide_eq_true h.1.2).2.1, by omega⟩
theorem label_h1 {l : Label} (h : labelOk l = true) : ([4] ++ idList l.target).length + l.name.size ≤ 70368744177664 := by
  have := label_size h
  rw [List.length_append, idList_len]
  simp only [List.length_cons, List.length_nil]; omega
theorem label_h2 {l : Label} (h : labelOk l = true) : (([4] ++ idList l.target) ++ textB l.name).length + l.msg.size ≤ 70368744177664 := by
  have := label_size h
  have h2 := textB_len l.name
  rw [List.length_append, List.length_append, idList_len]
  simp only [List.length_cons, List.length_nil]; omega
def labelRd (q : List UInt8 × Bool) : Label × (List UInt8 × Bool) :=
  (⟨(rdId q).1, (rdText (rdId q).2 60).1, (rdText (rdText (rdId q).2 60).2 200).1⟩, (rdText (rdText (rdId q).2 60).2 200).2)
def zeroLabel : Label := ⟨zeroId, ByteArray.empty, ByteArray.empty⟩
def labelOf (b : List UInt8) : Label × Int :=
  if rdDone (labelRd (openSt b 4)).2 = true ∧ labelOk (labelRd (openSt b 4)).1 = true then ((labelRd (openSt b 4)).1, 0) else (zeroLabel, 20)
theorem labelOf_f {b : List UInt8} (h : rdDone (labelRd (openSt b 4)).2 = false ∨ labelOk (labelRd (openSt b 4)).1 = false) : Value.tuple #[labelV zeroLabel, .int .i64 20] = .tuple #[labelV (labelOf b).1, .int .i64 (labelOf b).2] := by
  unfold labelOf
  rw [if_neg (fun hh => by rcases h with h | h <;> simp_all)]
theorem labelOf_t {b : List UInt8} (h : rdDone (labelRd (openSt b 4)).2 = true ∧ labelOk (labelRd (openSt b 4)).1 = true) : Value.tuple #[labelV (labelRd (openSt b 4)).1, .int .i64 0] = .tuple #[labelV (labelOf b).1, .int .i64 (labelOf b).2] := by
  unfold labelOf
  rw [if_pos h]
def cmpId (a b : ID) : Int := Lib.compareBytes (idList a) (idList b)
end Go.Proofs.YthjdhfoeckfmbaaGreat
namespace Go.Proofs.YthjdhfoeckfmbaaGreat
open Go
set_option maxRecDepth 100000
set_option linter.unusedVariables false
set_option linter.unusedSimpArgs false
set_option linter.unusedSectionVars false
variable [DD]
theorem obj_Blob_c37 : callable Tryz.prog 37 = true := by kernel_rfl
set_option maxHeartbeats 1000000 in
theorem obj_Blob (hb : SlH) (b : List UInt8) (w : World) (Sb : Sl (Old w) encB 1 hb b w) :
    Calls Tryz.prog 11 #[(slV hb b)] w (Ret fun v w' => ∃ h0, v = .tuple #[slV h0 (blobB b), (.int .i64 (blobE b))] ∧ Ext w w' ∧ OwnS w.heap.size 5 1 encB h0 (blobB b) w') := by
 refine calls_W Tryz.func11 rfl Tryz.ntmps11 rfl ?_
 have H0 := Ctx.start w nob
 have H1 := H0.addSl _ Sb (fun b hb => ⟨hb, fun _ ho => (nomatch ho)⟩)
 have LSb := Sb.len
 refine W_seq (W_reg ?_)
 refine O_v rfl (R_assign (v := (.slice none 0 0)) rfl ?_)
 refine O_v rfl (R_assign (v := (.int .i64 0)) rfl ?_)
 refine O_nil (Then_n (W_seq (W_seq ?_)))
 refine W_rg [(0, .q 0), (1, .q 0), (2, .q 0), (3, .q 0), (4, .q 0), (5, .q 0), (6, .q 0), (7, .q 0), (8, .q 0), (9, .q 0), (10, .q 0), (11, .q 0), (12, .q 0), (13, .q 0), (14, .q 0)] (by kernel_rfl) ?_
 refine Lx_q (i := 0) rfl rfl _ (fun v2 hv3 => R_move (v := (slV hb b)) rfl ⟨rfl, Gr.refl _ _⟩) ?_
 refine Lx_q (i := 1) rfl rfl _ (fun v4 hv5 => R_len_slice (a := hb.a) (n := b.length) (c := hb.c) Tryz.underlying22 rfl ⟨rfl, Gr.refl _ _⟩) ?_
 refine Lx_q (i := 2) rfl rfl _ (fun v6 hv7 => R_cmp (a := ((b.length : Nat) : Int)) (b := 0) (r := (decide (((b.length : Nat) : Int) = 0))) rfl rfl rfl ⟨rfl, Gr.refl _ _⟩) ?_
 refine Lx_q (i := 3) rfl rfl _ (fun v8 hv9 => R_move (v := (.bool (decide (((b.length : Nat) : Int) = 0)))) rfl ⟨rfl, Gr.refl _ _⟩) ?_
 refine Lx_qg (i := 4) true (decide (((b.length : Nat) : Int) = 0)) rfl rfl rfl rfl rfl (!(decide (((b.length : Nat) : Int) = 0))) ga_f _ (fun hA v10 hv11 => R_move (v := (slV hb b)) rfl ⟨rfl, Gr.refl _ _⟩) ?_
 refine Lx_qg (i := 5) true (decide (((b.length : Nat) : Int) = 0)) rfl rfl rfl rfl rfl (!(decide (((b.length : Nat) : Int) = 0))) ga_f _ (fun hA v12 hv13 => by
      have hP : ¬ (((b.length : Nat) : Int) = 0) := (of_decide_eq_false (notT hA))
      exact R_index_pure (H1.sl 0 rfl) (n := b.length) rfl (j := 0) (oo := (hb.o + 0 * 1)) Tryz.underlying22 Tryz.sizeOf5 (gv_t hA) rfl (by omega) (by omega) rfl ⟨rfl, Gr.refl _ _⟩) ?_
 refine Lx_qg (i := 6) true (decide (((b.length : Nat) : Int) = 0)) rfl rfl rfl rfl rfl (!(decide (((b.length : Nat) : Int) = 0))) ga_f _ (fun hA v14 hv15 => by
      have hP : ¬ (((b.length : Nat) : Int) = 0) := (of_decide_eq_false (notT hA))
      exact R_load1 (v := (.int .u8 ((nth b 0).toNat : Int))) Tryz.isAgg5 (gv_t hA) ((Sl.elem ((H1.ext hv15).sl 0 rfl) (i := 0) (by omega) rfl).chunks 0 1 0 (hb.o + 0 * 1) _ rfl rfl rfl) ⟨rfl, Gr.refl _ _⟩) ?_
 refine Lx_qg (i := 7) true (decide (((b.length : Nat) : Int) = 0)) rfl rfl rfl rfl rfl (!(decide (((b.length : Nat) : Int) = 0))) ga_f _ (fun hA v16 hv17 => R_cmp (a := ((nth b 0).toNat : Int)) (b := 1) (r := (!(decide (((nth b 0).toNat : Int) = 1)))) (gv_t hA) rfl rfl ⟨rfl, Gr.refl _ _⟩) ?_
 refine Lx_q (i := 8) rfl rfl _ (fun v18 hv19 => R_pick (t := (decide (((b.length : Nat) : Int) = 0))) (v := (.bool ((decide (((b.length : Nat) : Int) = 0)) || (!(decide (((nth b 0).toNat : Int) = 1)))))) rfl pk_or ⟨rfl, Gr.refl _ _⟩) ?_
 refine Lx_q (i := 9) rfl rfl _ (fun v20 hv21 => R_move (v := (.bool ((decide (((b.length : Nat) : Int) = 0)) || (!(decide (((nth b 0).toNat : Int) = 1)))))) rfl ⟨rfl, Gr.refl _ _⟩) ?_
 refine Lx_qg (i := 10) true ((decide (((b.length : Nat) : Int) = 0)) || (!(decide (((nth b 0).toNat : Int) = 1)))) rfl rfl rfl rfl rfl (!((decide (((b.length : Nat) : Int) = 0)) || (!(decide (((nth b 0).toNat : Int) = 1))))) ga_f _ (fun hA v22 hv23 => R_move (v := (slV hb b)) rfl ⟨rfl, Gr.refl _ _⟩) ?_
 refine Lx_qg (i := 11) true ((decide (((b.length : Nat) : Int) = 0)) || (!(decide (((nth b 0).toNat : Int) = 1)))) rfl rfl rfl rfl rfl (!((decide (((b.length : Nat) : Int) = 0)) || (!(decide (((nth b 0).toNat : Int) = 1))))) ga_f _ (fun hA v24 hv25 => R_len_slice (a := hb.a) (n := b.length) (c := hb.c) Tryz.underlying22 (gv_t hA) ⟨rfl, Gr.refl _ _⟩) ?_
 refine Lx_qg (i := 12) true ((decide (((b.length : Nat) : Int) = 0)) || (!(decide (((nth b 0).toNat : Int) = 1)))) rfl rfl rfl rfl rfl (!((decide (((b.length : Nat) : Int) = 0)) || (!(decide (((nth b 0).toNat : Int) = 1))))) ga_f _ (fun hA v26 hv27 => by
      have hP : (¬ (((b.length : Nat) : Int) = 0) ∧ (((nth b 0).toNat : Int) = 1)) := (And.imp (fun h => (of_decide_eq_false h)) (fun h => (of_decide_eq_true (notF h))) (orF (notT hA)))
      exact R_arith (a := ((b.length : Nat) : Int)) (b := 1) (r0 := ((b.length : Nat) : Int) - 1) (r := ((b.length - 1 : Nat) : Int)) (gv_t hA) rfl rfl (wrapP _ (by omega) (by omega)) ⟨rfl, Gr.refl _ _⟩) ?_
 refine Lx_qg (i := 13) true ((decide (((b.length : Nat) : Int) = 0)) || (!(decide (((nth b 0).toNat : Int) = 1)))) rfl rfl rfl rfl rfl (!((decide (((b.length : Nat) : Int) = 0)) || (!(decide (((nth b 0).toNat : Int) = 1))))) ga_f _ (fun hA v28 hv29 => R_cmp (a := ((b.length - 1 : Nat) : Int)) (b := 4096) (r := (decide (4096 < ((b.length - 1 : Nat) : Int)))) (gv_t hA) rfl rfl ⟨rfl, Gr.refl _ _⟩) ?_
 refine Lx_q (i := 14) rfl rfl _ (fun v30 hv31 => R_pick (t := ((decide (((b.length : Nat) : Int) = 0)) || (!(decide (((nth b 0).toNat : Int) = 1))))) (v := (.bool (((decide (((b.length : Nat) : Int) = 0)) || (!(decide (((nth b 0).toNat : Int) = 1)))) || (decide (4096 < ((b.length - 1 : Nat) : Int)))))) rfl pk_or ⟨rfl, Gr.refl _ _⟩) ?_
 refine Lx_nil (fun w32 hw33 => ?_)
 have H34 := H1.ext hw33
 refine Then_n ?_
 refine W_cond (t := (((decide (((b.length : Nat) : Int) = 0)) || (!(decide (((nth b 0).toNat : Int) = 1)))) || (decide (4096 < ((b.length - 1 : Nat) : Int))))) rfl (fun hc35 => ?_) (fun hc35 => ?_)
 ·have hc35 : (((((b.length : Nat) : Int) = 0) ∨ ¬ (((nth b 0).toNat : Int) = 1)) ∨ (4096 < ((b.length - 1 : Nat) : Int))) := (Or.imp (fun h => (Or.imp (fun h => (of_decide_eq_true h)) (fun h => (of_decide_eq_false (notT h))) (orT h))) (fun h => (of_decide_eq_true h)) (orT hc35))
  refine W_seq (W_reg ?_)
  refine O_v rfl (R_assign (v := (.slice none 0 0)) rfl ?_)
  refine O_v rfl (R_assign (v := (.int .i64 20)) rfl ?_)
  refine O_nil (Then_n (W_ret (Then_r ?_)))
  refine ret_2 (v := (.slice none 0 0)) (v' := (.int .i64 20)) Tryz.results11 rfl rfl ?_
  have H36 := H34.addNil 5 1 encB
  have hE : [] = blobB b := (blob_f (by assumption)).1
  have hV : 20 = blobE b := (blob_f (by assumption)).2
  refine ⟨nilH, ?_, H36.gr, ?_⟩
  · exact two_eq (fun l n => Value.tuple #[slV nilH l, Value.int .i64 n]) hE hV
  · have hO := H36.retRow 0 rfl
    exact hE ▸ hO
 ·have hc35 : ((¬ (((b.length : Nat) : Int) = 0) ∧ (((nth b 0).toNat : Int) = 1)) ∧ ¬ (4096 < ((b.length - 1 : Nat) : Int))) := (And.imp (fun h => (And.imp (fun h => (of_decide_eq_false h)) (fun h => (of_decide_eq_true (notF h))) (orF h))) (fun h => (of_decide_eq_false h)) (orF hc35))
  refine W_skip (Then_n (W_seq (W_reg ?_)))
  refine O_v rfl (R_move (v := (slV hb b)) rfl ?_)
  refine O_v rfl (R_sliceS (h := hb) (l := b) (a := 1) (b := b.length) (m := hb.c) (b.drop 1) Tryz.underlying22 Tryz.sizeOf5 rfl rfl rfl rfl (by decide) (by omega) (by first | omega | exact Nat.le_refl _) (by have := Sl.cap (H34.sl 0 rfl); omega) (by first | omega | exact Nat.le_refl _ | (have := Sl.cap (H34.sl 0 rfl); omega)) (by rw [List.take_length])  ?_)
  refine O_v rfl (R_callL (vs := [(slV (hSub hb 1 1 hb.c) (b.drop 1))]) obj_Blob_c37 rfl rfl ((bytes_Clone (hSub hb 1 1 hb.c) (b.drop 1) w32 (Sl.sub (H34.slOld 0 rfl) 1 b.length hb.c (by omega) (by first | omega | exact Nat.le_refl _) (by have := Sl.cap (H34.sl 0 rfl); omega) (by first | omega | exact Nat.le_refl _ | (have := Sl.cap (H34.sl 0 rfl); omega)) (by rw [List.take_length])) (by rw [List.length_drop]; omega)).ret ?_))
  rintro _ w38 ⟨h37, rfl, hx39, ho40⟩
  have H41 := H34.addRow hx39 ho40
  refine O_v rfl (R_assign (v := (slV h37 (b.drop 1))) rfl ?_)
  refine O_v rfl (R_assign (v := (.int .i64 0)) rfl ?_)
  refine O_nil (Then_n (W_ret ?_))
  refine ret_2 (v := (slV h37 (b.drop 1))) (v' := (.int .i64 0)) Tryz.results11 rfl rfl ?_
  have hE : (b.drop 1) = blobB b := (blob_t (by assumption)).1
  have hV : 0 = blobE b := (blob_t (by assumption)).2
  refine ⟨h37, ?_, H41.gr, ?_⟩
  · exact two_eq (fun l n => Value.tuple #[slV h37 l, Value.int .i64 n]) hE hV
  · have hO := H41.retRow 0 rfl
    exact hE ▸ hO

end Go.Proofs.YthjdhfoeckfmbaaGreat
namespace Go.Proofs.YthjdhfoeckfmbaaGreat
open Go
set_option maxRecDepth 100000
set_option linter.unusedVariables false
set_option linter.unusedSimpArgs false
set_option linter.unusedSectionVars false
variable [DD]
set_option maxHeartbeats 1000000 in
theorem Reader_Done (br : Nat) (r : RdS) (Sr : Nat → Prop) (q : List UInt8 × Bool) (w : World) (Qr : RdQ 132 br Sr r w) (Er : r.st = q) :
    Calls Tryz.prog 49 #[(.pointer (some ⟨br, 0, none⟩))] w (Ret fun v w' => ∃ (r' : RdS), v = (.bool (rdDone q)) ∧ Gr (fun c => c = br) w w' ∧ RdQ 132 br Sr r' w' ∧ r'.st = q) := by
 refine calls_W Tryz.func49 rfl Tryz.ntmps49 rfl ?_
 have H0 := Qr
 refine W_seq (W_reg ?_)
 refine O_v rfl (R_assign (v := (.bool false)) rfl ?_)
 refine O_nil (Then_n (W_seq ?_))
 refine W_rg [(0, .q 0), (1, .q 0), (2, .q 0), (3, .q 0), (4, .q 0), (5, .q 0), (6, .q 0), (7, .q 0), (8, .q 0), (9, .q 0), (10, .q 0), (11, .q 0), (12, .q 0), (13, .q 0)] (by kernel_rfl) ?_
 refine Lx_q (i := 0) rfl rfl _ (fun v1 hv2 => R_move (v := (.pointer (some ⟨br, 0, none⟩))) rfl ⟨rfl, Gr.refl _ _⟩) ?_
 refine Lx_q (i := 1) rfl rfl _ (fun v3 hv4 => R_nilCheck rfl ⟨rfl, Gr.refl _ _⟩) ?_
 refine Lx_q (i := 2) rfl rfl _ (fun v5 hv6 => R_fieldAddr (off := 1) (oo := 1) Tryz.underlying132 rfl rfl Tryz.sizeOf4 rfl rfl ⟨rfl, Gr.refl _ _⟩) ?_
 refine Lx_q (i := 3) rfl rfl _ (fun v7 hv8 => R_load1 (v := (.bool r.bad)) Tryz.isAgg4 rfl ((boxR_at ((H0.ext hv8).getOwn 0 rfl)).chunks 1 1 1 1 _ rfl rfl rfl) ⟨rfl, Gr.refl _ _⟩) ?_
 refine Lx_q (i := 4) rfl rfl _ (fun v9 hv10 => R_not rfl ⟨rfl, Gr.refl _ _⟩) ?_
 refine Lx_q (i := 5) rfl rfl _ (fun v11 hv12 => R_move (v := (.bool (!r.bad))) rfl ⟨rfl, Gr.refl _ _⟩) ?_
 refine Lx_qg (i := 6) true (!r.bad) rfl rfl rfl rfl rfl (!r.bad) ga_t _ (fun hA v13 hv14 => R_move (v := (.pointer (some ⟨br, 0, none⟩))) rfl ⟨rfl, Gr.refl _ _⟩) ?_
 refine Lx_qg (i := 7) true (!r.bad) rfl rfl rfl rfl rfl (!r.bad) ga_t _ (fun hA v15 hv16 => R_nilCheck (gv_t hA) ⟨rfl, Gr.refl _ _⟩) ?_
 refine Lx_qg (i := 8) true (!r.bad) rfl rfl rfl rfl rfl (!r.bad) ga_t _ (fun hA v17 hv18 => R_fieldAddr (off := 0) (oo := 0) Tryz.underlying132 rfl rfl Tryz.sizeOf22 (gv_t hA) rfl ⟨rfl, Gr.refl _ _⟩) ?_
 refine Lx_qg (i := 9) true (!r.bad) rfl rfl rfl rfl rfl (!r.bad) ga_t _ (fun hA v19 hv20 => R_load1 (v := (slV r.bh r.b)) Tryz.isAgg22 (gv_t hA) ((boxR_at ((H0.ext hv20).getOwn 0 rfl)).chunks 0 1 0 0 _ rfl rfl rfl) ⟨rfl, Gr.refl _ _⟩) ?_
 refine Lx_qg (i := 10) true (!r.bad) rfl rfl rfl rfl rfl (!r.bad) ga_t _ (fun hA v21 hv22 => R_len_slice (a := r.bh.a) (n := r.b.length) (c := r.bh.c) Tryz.underlying22 (gv_t hA) ⟨rfl, Gr.refl _ _⟩) ?_
 refine Lx_qg (i := 11) true (!r.bad) rfl rfl rfl rfl rfl (!r.bad) ga_t _ (fun hA v23 hv24 => R_cmp (a := ((r.b.length : Nat) : Int)) (b := 0) (r := (decide (((r.b.length : Nat) : Int) = 0))) (gv_t hA) rfl rfl ⟨rfl, Gr.refl _ _⟩) ?_
 refine Lx_q (i := 12) rfl rfl _ (fun v25 hv26 => R_pick (t := (!r.bad)) (v := (.bool ((!r.bad) && (decide (((r.b.length : Nat) : Int) = 0))))) rfl pk_and ⟨rfl, Gr.refl _ _⟩) ?_
 refine Lx_q (i := 13) rfl rfl _ (fun v27 hv28 => R_assign (v := (.bool ((!r.bad) && (decide (((r.b.length : Nat) : Int) = 0))))) rfl ⟨rfl, Gr.refl _ _⟩) ?_
 refine Lx_nil (fun w29 hw30 => ?_)
 have H31 := H0.ext hw30
 refine Then_n (W_ret ?_)
 refine ret_1 (v := (.bool ((!r.bad) && (decide (((r.b.length : Nat) : Int) = 0))))) Tryz.results49 rfl ?_
 have HQ := ((H31.pick (B' := [boxR br 132 (rdCh r)]) (I' := [slI Sr encB 1 r.bh r.b]) [0] (by decide) rfl (List.forall_mem_cons.2 ⟨List.mem_of_getElem? (i := 0) rfl, fun _ h => (nomatch h)⟩)).rdStart)
 exact ⟨r, (done_eq Er), H31.gr, HQ, Er⟩

end Go.Proofs.YthjdhfoeckfmbaaGreat
namespace Go.Proofs.YthjdhfoeckfmbaaGreat
open Go
set_option maxRecDepth 100000
set_option linter.unusedVariables false
set_option linter.unusedSimpArgs false
set_option linter.unusedSectionVars false
variable [DD]
set_option maxHeartbeats 1000000 in
theorem Reader_Fail (br : Nat) (r : RdS) (Sr : Nat → Prop) (q : List UInt8 × Bool) (w : World) (Qr : RdQ 132 br Sr r w) (Er : r.st = q) :
    Calls Tryz.prog 87 #[(.pointer (some ⟨br, 0, none⟩))] w (Ret fun v w' => ∃ (r' : RdS), v = .tuple #[] ∧ Gr (fun c => c = br) w w' ∧ RdQ 132 br Sr r' w' ∧ r'.st = ([], true)) := by
 refine calls_W Tryz.func87 rfl Tryz.ntmps87 rfl ?_
 have H0 := Qr
 refine W_reg ?_
 refine O_v rfl (R_move (v := (.pointer (some ⟨br, 0, none⟩))) rfl ?_)
 refine O_v rfl (R_move (v := (.pointer (some ⟨br, 0, none⟩))) rfl ?_)
 refine O_v rfl (R_nilCheck rfl ?_)
 refine O_v rfl (R_fieldAddr (off := 0) (oo := 0) Tryz.underlying132 rfl rfl Tryz.sizeOf22 rfl rfl ?_)
 refine O_u (C_store1 H0 0 rfl 0 (v := (.slice none 0 0)) [[(.slice none 0 0)], [(.bool r.bad)]] Tryz.sizeOf22 rfl rfl rfl rfl rfl rfl rfl ?_)
 intro w1 hg2 H3
 refine O_v rfl (R_nilCheck rfl ?_)
 refine O_v rfl (R_fieldAddr (off := 1) (oo := 1) Tryz.underlying132 rfl rfl Tryz.sizeOf4 rfl rfl ?_)
 refine O_u (C_store1 H3 0 rfl 1 (v := (.bool true)) [[(.slice none 0 0)], [(.bool true)]] Tryz.sizeOf4 rfl rfl rfl rfl rfl rfl rfl ?_)
 intro w4 hg5 H6
 refine O_nil (ret_n ?_)
 have H7 := H6.immOf 0 rfl (slI Sr encB 1 nilH ([] : List UInt8)) (fun _ h => h) (fun _ => (Sl.nil _ _ _ _))
 refine ret_0 Tryz.results87 ?_
 have HQ := ((H7.pick (B' := [boxR br 132 (rdCh ({ b := ([] : List UInt8), bh := nilH, bad := true } : RdS))]) (I' := [slI Sr encB 1 nilH ([] : List UInt8)]) [0] (by decide) rfl (List.forall_mem_cons.2 ⟨List.mem_of_getElem? (i := 0) rfl, fun _ h => (nomatch h)⟩)).rdStart)
 exact ⟨({ b := ([] : List UInt8), bh := nilH, bad := true } : RdS), rfl, H7.gr, HQ, rfl⟩

end Go.Proofs.YthjdhfoeckfmbaaGreat
namespace Go.Proofs.YthjdhfoeckfmbaaGreat
open Go
set_option maxRecDepth 100000
set_option linter.unusedVariables false
set_option linter.unusedSimpArgs false
set_option linter.unusedSectionVars false
variable [DD]
theorem Reader_take_c87 : callable Tryz.prog 87 = true := by kernel_rfl
set_option maxHeartbeats 1000000 in
theorem Reader_take (br : Nat) (r : RdS) (Sr : Nat → Prop) (q : List UInt8 × Bool) (n : Nat) (w : World) (Qr : RdQ 132 br Sr r w) (Er : r.st = q) :
    Calls Tryz.prog 88 #[(.pointer (some ⟨br, 0, none⟩)), (.int .i64 ((n : Nat) : Int))] w (Ret fun v w' => ∃ (r' : RdS) (h : SlH), v = slV h ((rdTake q n).1) ∧ Gr (fun c => c = br) w w' ∧ RdQ 132 br Sr r' w' ∧ r'.st = (rdTake q n).2 ∧ Sl Sr encB 1 h ((rdTake q n).1) w' ∧ ((rdTake q n).1 = [] → 0 < n → h.a.isNone = true)) := by
 refine calls_W Tryz.func88 rfl Tryz.ntmps88 rfl ?_
 have H0 := Qr
 refine W_seq (W_reg ?_)
 refine O_v rfl (R_assign (v := (.slice none 0 0)) rfl ?_)
 refine O_nil (Then_n (W_seq (W_seq ?_)))
 refine W_rg [(0, .q 0), (1, .q 0), (2, .q 0), (3, .q 0), (4, .q 0), (5, .q 0), (6, .q 0), (7, .q 0), (8, .q 0), (9, .q 0), (10, .q 0), (11, .q 0), (12, .q 0)] (by kernel_rfl) ?_
 refine Lx_q (i := 0) rfl rfl _ (fun v1 hv2 => R_move (v := (.pointer (some ⟨br, 0, none⟩))) rfl ⟨rfl, Gr.refl _ _⟩) ?_
 refine Lx_q (i := 1) rfl rfl _ (fun v3 hv4 => R_nilCheck rfl ⟨rfl, Gr.refl _ _⟩) ?_
 refine Lx_q (i := 2) rfl rfl _ (fun v5 hv6 => R_fieldAddr (off := 1) (oo := 1) Tryz.underlying132 rfl rfl Tryz.sizeOf4 rfl rfl ⟨rfl, Gr.refl _ _⟩) ?_
 refine Lx_q (i := 3) rfl rfl _ (fun v7 hv8 => R_load1 (v := (.bool r.bad)) Tryz.isAgg4 rfl ((boxR_at ((H0.ext hv8).getOwn 0 rfl)).chunks 1 1 1 1 _ rfl rfl rfl) ⟨rfl, Gr.refl _ _⟩) ?_
 refine Lx_q (i := 4) rfl rfl _ (fun v9 hv10 => R_move (v := (.bool r.bad)) rfl ⟨rfl, Gr.refl _ _⟩) ?_
 refine Lx_qg (i := 5) true r.bad rfl rfl rfl rfl rfl (!r.bad) ga_f _ (fun hA v11 hv12 => R_move (v := (.int .i64 ((n : Nat) : Int))) rfl ⟨rfl, Gr.refl _ _⟩) ?_
 refine Lx_qg (i := 6) true r.bad rfl rfl rfl rfl rfl (!r.bad) ga_f _ (fun hA v13 hv14 => R_move (v := (.pointer (some ⟨br, 0, none⟩))) rfl ⟨rfl, Gr.refl _ _⟩) ?_
 refine Lx_qg (i := 7) true r.bad rfl rfl rfl rfl rfl (!r.bad) ga_f _ (fun hA v15 hv16 => R_nilCheck (gv_t hA) ⟨rfl, Gr.refl _ _⟩) ?_
 refine Lx_qg (i := 8) true r.bad rfl rfl rfl rfl rfl (!r.bad) ga_f _ (fun hA v17 hv18 => R_fieldAddr (off := 0) (oo := 0) Tryz.underlying132 rfl rfl Tryz.sizeOf22 (gv_t hA) rfl ⟨rfl, Gr.refl _ _⟩) ?_
 refine Lx_qg (i := 9) true r.bad rfl rfl rfl rfl rfl (!r.bad) ga_f _ (fun hA v19 hv20 => R_load1 (v := (slV r.bh r.b)) Tryz.isAgg22 (gv_t hA) ((boxR_at ((H0.ext hv20).getOwn 0 rfl)).chunks 0 1 0 0 _ rfl rfl rfl) ⟨rfl, Gr.refl _ _⟩) ?_
 refine Lx_qg (i := 10) true r.bad rfl rfl rfl rfl rfl (!r.bad) ga_f _ (fun hA v21 hv22 => R_len_slice (a := r.bh.a) (n := r.b.length) (c := r.bh.c) Tryz.underlying22 (gv_t hA) ⟨rfl, Gr.refl _ _⟩) ?_
 refine Lx_qg (i := 11) true r.bad rfl rfl rfl rfl rfl (!r.bad) ga_f _ (fun hA v23 hv24 => R_cmp (a := ((n : Nat) : Int)) (b := ((r.b.length : Nat) : Int)) (r := (decide (((r.b.length : Nat) : Int) < ((n : Nat) : Int)))) (gv_t hA) (gv_t hA) rfl ⟨rfl, Gr.refl _ _⟩) ?_
 refine Lx_q (i := 12) rfl rfl _ (fun v25 hv26 => R_pick (t := r.bad) (v := (.bool (r.bad || (decide (((r.b.length : Nat) : Int) < ((n : Nat) : Int)))))) rfl pk_or ⟨rfl, Gr.refl _ _⟩) ?_
 refine Lx_nil (fun w27 hw28 => ?_)
 have H29 := H0.ext hw28
 refine Then_n ?_
 refine W_cond (t := (r.bad || (decide (((r.b.length : Nat) : Int) < ((n : Nat) : Int))))) rfl (fun hc30 => ?_) (fun hc30 => ?_)
 ·have hc30 : (r.bad = true ∨ (((r.b.length : Nat) : Int) < ((n : Nat) : Int))) := (Or.imp (fun h => h) (fun h => (of_decide_eq_true h)) (orT hc30))
  refine W_seq (W_reg ?_)
  refine O_v rfl (R_move (v := (.pointer (some ⟨br, 0, none⟩))) rfl ?_)
  refine O_v rfl (R_callL (vs := [(.pointer (some ⟨br, 0, none⟩))]) Reader_take_c87 rfl rfl ((Reader_Fail br r Sr q w27 ((H29.pick (B' := [boxR br 132 (rdCh r)]) (I' := [slI Sr encB 1 r.bh r.b]) [0] (by decide) rfl (List.forall_mem_cons.2 ⟨List.mem_of_getElem? (i := 0) rfl, fun _ h => (nomatch h)⟩)).rdStart) Er).ret ?_))
  rintro _ w32 ⟨r31, rfl, hg33, hQ34, hr35⟩
  have H36 := H29.rdUpd (r := r) 0 0 rfl rfl hg33 hQ34
  refine O_nil (Then_n (W_seq (W_reg ?_)))
  refine O_v rfl (R_assign (v := (.slice none 0 0)) rfl ?_)
  refine O_nil (Then_n (W_ret (Then_r ?_)))
  refine ret_1 (v := (.slice none 0 0)) Tryz.results88 rfl ?_
  have HQ := ((H36.pick (B' := [boxR br 132 (rdCh r31)]) (I' := [slI Sr encB 1 r31.bh r31.b]) [0] (by decide) rfl (List.forall_mem_cons.2 ⟨List.mem_of_getElem? (i := 0) rfl, fun _ h => (nomatch h)⟩)).rdStart)
  exact ⟨r31, nilH, (by rw [take_f Er (by assumption)]; rfl), H36.gr, HQ, (by rw [take_f Er (by assumption)]; exact hr35), (by rw [take_f Er (by assumption)]; exact (Sl.nil _ _ _ _)), (fun _ _ => rfl)⟩
 ·have hc30 : (r.bad = false ∧ ¬ (((r.b.length : Nat) : Int) < ((n : Nat) : Int))) := (And.imp (fun h => h) (fun h => (of_decide_eq_false h)) (orF hc30))
  refine W_skip (Then_n (W_seq (W_reg ?_)))
  refine O_v rfl (R_move (v := (.pointer (some ⟨br, 0, none⟩))) rfl ?_)
  refine O_v rfl (R_nilCheck rfl ?_)
  refine O_v rfl (R_fieldAddr (off := 0) (oo := 0) Tryz.underlying132 rfl rfl Tryz.sizeOf22 rfl rfl ?_)
  refine O_v rfl (R_load1 (v := (slV r.bh r.b)) Tryz.isAgg22 rfl ((boxR_at (H29.getOwn 0 rfl)).chunks 0 1 0 0 _ rfl rfl rfl) ?_)
  refine O_v rfl (R_move (v := (.int .i64 ((n : Nat) : Int))) rfl ?_)
  refine O_v rfl (R_move (v := (.int .i64 ((n : Nat) : Int))) rfl ?_)
  refine O_v rfl (R_sliceS (h := r.bh) (l := r.b) (a := 0) (b := n) (m := n) (r.b.take n) Tryz.underlying22 Tryz.sizeOf5 rfl rfl rfl rfl (by decide) (by omega) (by first | omega | exact Nat.le_refl _) (by have := Sl.cap (H29.sl 0 rfl); omega) (by first | omega | exact Nat.le_refl _ | (have := Sl.cap (H29.sl 0 rfl); omega)) rfl  ?_)
  refine O_v rfl (R_assign (v := (slV (hSub r.bh 1 0 n) (r.b.take n))) rfl ?_)
  refine O_nil (Then_n (W_seq (W_reg ?_)))
  refine O_v rfl (R_move (v := (.pointer (some ⟨br, 0, none⟩))) rfl ?_)
  refine O_v rfl (R_move (v := (.pointer (some ⟨br, 0, none⟩))) rfl ?_)
  refine O_v rfl (R_nilCheck rfl ?_)
  refine O_v rfl (R_fieldAddr (off := 0) (oo := 0) Tryz.underlying132 rfl rfl Tryz.sizeOf22 rfl rfl ?_)
  refine O_v rfl (R_load1 (v := (slV r.bh r.b)) Tryz.isAgg22 rfl ((boxR_at (H29.getOwn 0 rfl)).chunks 0 1 0 0 _ rfl rfl rfl) ?_)
  refine O_v rfl (R_move (v := (.int .i64 ((n : Nat) : Int))) rfl ?_)
  refine O_v rfl (R_sliceS (h := r.bh) (l := r.b) (a := n) (b := r.b.length) (m := r.bh.c) (r.b.drop n) Tryz.underlying22 Tryz.sizeOf5 rfl rfl rfl rfl (by decide) (by omega) (by first | omega | exact Nat.le_refl _) (by have := Sl.cap (H29.sl 0 rfl); omega) (by first | omega | exact Nat.le_refl _ | (have := Sl.cap (H29.sl 0 rfl); omega)) (by rw [List.take_length])  ?_)
  refine O_v rfl (R_nilCheck rfl ?_)
  refine O_v rfl (R_fieldAddr (off := 0) (oo := 0) Tryz.underlying132 rfl rfl Tryz.sizeOf22 rfl rfl ?_)
  refine O_u (C_store1 H29 0 rfl 0 (v := (slV (hSub r.bh 1 n r.bh.c) (r.b.drop n))) [[(slV (hSub r.bh 1 n r.bh.c) (r.b.drop n))], [(.bool r.bad)]] Tryz.sizeOf22 rfl rfl rfl rfl rfl rfl rfl ?_)
  intro w37 hg38 H39
  refine O_nil (Then_n (W_seq (W_reg ?_)))
  refine O_v rfl (R_move (v := (slV (hSub r.bh 1 0 n) (r.b.take n))) rfl ?_)
  refine O_v rfl (R_assign (v := (slV (hSub r.bh 1 0 n) (r.b.take n))) rfl ?_)
  refine O_nil (Then_n (W_ret ?_))
  have H40 := H39.immOf 0 rfl (slI Sr encB 1 (hSub r.bh 1 n r.bh.c) (r.b.drop n)) (fun _ h => h) (fun _ => (Sl.sub (H39.sl 0 rfl) n r.b.length r.bh.c (by omega) (by first | omega | exact Nat.le_refl _) (by have := Sl.cap (H29.sl 0 rfl); omega) (by first | omega | exact Nat.le_refl _ | (have := Sl.cap (H29.sl 0 rfl); omega)) (by rw [List.take_length])))
  refine ret_1 (v := (slV (hSub r.bh 1 0 n) (r.b.take n))) Tryz.results88 rfl ?_
  have HQ := ((H40.pick (B' := [boxR br 132 (rdCh ({ b := r.b.drop n, bh := hSub r.bh 1 n r.bh.c, bad := r.bad } : RdS))]) (I' := [slI Sr encB 1 (hSub r.bh 1 n r.bh.c) (r.b.drop n)]) [0] (by decide) rfl (List.forall_mem_cons.2 ⟨List.mem_of_getElem? (i := 0) rfl, fun _ h => (nomatch h)⟩)).rdStart)
  exact ⟨({ b := r.b.drop n, bh := hSub r.bh 1 n r.bh.c, bad := r.bad } : RdS), hSub r.bh 1 0 n, (by rw [take_t Er (by assumption)]), H40.gr, HQ, (take_st Er (by assumption)), (by rw [take_t Er (by assumption)]; exact (Sl.sub (H40.sl 1 rfl) 0 n n (by omega) (by first | omega | exact Nat.le_refl _) (by have := Sl.cap (H29.sl 0 rfl); omega) (by first | omega | exact Nat.le_refl _ | (have := Sl.cap (H29.sl 0 rfl); omega)) rfl)), (fun h0 hn => by rw [take_t Er (by assumption)] at h0; exact (take_ne h0 hn (by assumption)).elim)⟩

end Go.Proofs.YthjdhfoeckfmbaaGreat
namespace Go.Proofs.YthjdhfoeckfmbaaGreat
open Go
set_option maxRecDepth 100000
set_option linter.unusedVariables false
set_option linter.unusedSimpArgs false
set_option linter.unusedSectionVars false
variable [DD]
theorem Reader_Id_c88 : callable Tryz.prog 88 = true := by kernel_rfl
set_option maxHeartbeats 1000000 in
theorem Reader_Id (br : Nat) (r : RdS) (Sr : Nat → Prop) (q : List UInt8 × Bool) (w : World) (Qr : RdQ 132 br Sr r w) (Er : r.st = q) :
    Calls Tryz.prog 63 #[(.pointer (some ⟨br, 0, none⟩))] w (Ret fun v w' => ∃ (r' : RdS), v = (aggOf (idCh ((rdId q).1))) ∧ Gr (fun c => c = br) w w' ∧ RdQ 132 br Sr r' w' ∧ r'.st = (rdId q).2) := by
 refine calls_W Tryz.func63 rfl Tryz.ntmps63 rfl ?_
 have H0 := Qr
 refine W_seq (W_reg ?_)
 refine O_v rfl (C_alloc H0 [(idCells zeroId)] Tryz.zeroValue45 ?_)
 intro b1 w2 hb3 hx4 H5
 refine O_nil (Then_n (W_seq ?_))
 refine W_rgdM TryzMixed (fun c => c = br) (fun i => if i == 2 then 1 else if i == 3 then 2 else 0) [(0, .q 2), (1, .q 2), (2, .c 1), (3, .c 2)] (by kernel_rfl) ?_
 refine Lx_q (i := 0) rfl rfl _ (fun v6 hv7 => R_slice_arr Tryz.underlying45 Tryz.sizeOf5 rfl (by decide) ⟨rfl, Gr.refl _ _⟩) ?_
 refine Lx_q (i := 1) rfl rfl _ (fun v8 hv9 => R_move (v := (.pointer (some ⟨br, 0, none⟩))) rfl ⟨rfl, Gr.refl _ _⟩) ?_
 refine Lx_c (i := 2) rfl rfl (fun w10 hw11 => ?_)
 have H12 := H5.ext hw11
 refine (R_callL (vs := [(.pointer (some ⟨br, 0, none⟩)), (.int .i64 32)]) Reader_Id_c88 rfl rfl ((Reader_take br r Sr q 32 w10 ((H12.pick (B' := [boxR br 132 (rdCh r)]) (I' := [slI Sr encB 1 r.bh r.b]) [1] (by decide) rfl (List.forall_mem_cons.2 ⟨List.mem_of_getElem? (i := 0) rfl, fun _ h => (nomatch h)⟩)).rdStart) Er).ret ?_))
 rintro _ w14 ⟨r13, h19, rfl, hg15, hQ16, hr17, hv20, hx21⟩
 have H18 := H12.rdUpd (r := r) 1 0 rfl rfl hg15 hQ16
 have H22 := H18.immOf 0 rfl (slI Sr encB 1 h19 ((rdTake q 32).1)) (fun _ h => h) (fun _ => hv20)
 refine ⟨hg15, ?_⟩
 refine Lx_c (i := 3) rfl rfl (fun w23 hw24 => ?_)
 have H25 := H22.ext hw24
 refine (C_copyId H25 0 (v := zeroId) rfl (H25.sl 0 rfl) (take_len32 _) Tryz.underlying22 Tryz.sizeOf5 rfl ?_)
 intro w26 hg27 H28
 refine ⟨Gr.mono (M' := fun _ => True) hg27 (fun _ _ => trivial), ?_⟩
 refine Lx_nil (fun w29 hw30 => ?_)
 have H31 := H28.ext hw30
 refine Then_n (W_seq (W_reg ?_))
 refine O_v rfl (R_loadA (cs := [(idCells (idPut zeroId ((rdTake q 32).1)))]) Tryz.isAgg45 Tryz.sizeOf45 rfl rfl ((boxR_at (H31.getOwn 0 rfl)).chunks 0 1 0 0 _ rfl rfl rfl) ?_)
 refine O_u (C_storeA H31 0 rfl 0 (sub := [(idCells (idPut zeroId ((rdTake q 32).1)))]) [(idCells (idPut zeroId ((rdTake q 32).1)))] Tryz.sizeOf45 rfl rfl rfl rfl ⟨[(idCells (idPut zeroId ((rdTake q 32).1)))], [], rfl, rfl, rfl⟩ rfl ?_)
 intro w32 hg33 H34
 refine O_nil (Then_n (W_ret ?_))
 refine ret_c Tryz.results63 (inMem (cs := [(idCells (idPut zeroId ((rdTake q 32).1)))]) rfl Tryz.isAgg45 Tryz.sizeOf45 rfl (boxR_at (H34.getOwn 0 rfl))) ?_
 have HQ := ((H34.pick (B' := [boxR br 132 (rdCh r13)]) (I' := [slI Sr encB 1 r13.bh r13.b]) [1] (by decide) rfl (List.forall_mem_cons.2 ⟨List.mem_of_getElem? (i := 1) rfl, fun _ h => (nomatch h)⟩)).rdStart)
 exact ⟨r13, rfl, H34.gr, HQ, (hr17)⟩

end Go.Proofs.YthjdhfoeckfmbaaGreat
