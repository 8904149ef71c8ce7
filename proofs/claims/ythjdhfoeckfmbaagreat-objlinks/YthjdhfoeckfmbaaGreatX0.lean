/- Proved: for every input, pollardlaw04.ObjLinks returns true and leaves its arguments as they were. No condition. -/
import Derived.Below
import Derived.Laws.Runes
import Derived.Laws.RangeAny
import Derived.Scope
import Derived.WalkMore
import Derived.Shelf.RegionOpenPlain
import Derived.BigQuiet
import Derived.Laws.Strings3
import Derived.Lib.OthersKept
import Derived.Lib.RuneCount
import Derived.Calls
import Derived.ChangeKeysEq
import Derived.ChangeReads
import Derived.Deep.AppendSrc
import Derived.Deep.Slices
import Derived.Deep.Upon
import Derived.Handed
import Derived.IntWalk
import Derived.JoinedOf
import Derived.KernelRfl
import Derived.Laws.AppendOwn
import Derived.Laws.OwnMore
import Derived.Laws.Rows
import Derived.Laws.StructEq
import Derived.Lib.AppendStr
import Derived.Lib.Builder
import Derived.Lib.IndexAny
import Derived.Lib.Join
import Derived.MapKept
import Derived.Maps.AppendAt
import Derived.OpenShut
import Derived.Orders
import Derived.ProofKit
import Derived.ReadAgain
import Derived.Shelf.Strings.Builder1
import Derived.Shelf.Strings.Builder2
import Derived.Shelf.Strings.IndexAnyAll
import Derived.SizedLaws
import Derived.Still
import Derived.Tactics
import Derived.WalkKit
import Derived.WalkLawsBesides
import Derived.WideKeyRuns
import Derived.Test.YthjdhfoeckfmbaaGreatProg
namespace Go.Proofs.YthjdhfoeckfmbaaGreat
open Go
set_option linter.unusedVariables false
set_option linter.unusedSimpArgs false
set_option linter.unusedSectionVars false
abbrev Env := Nat → Value
theorem nbeq_ne {i d : Nat} (h : i ≠ d) : Nat.beq i d = false := by
  cases hb : Nat.beq i d with
  | false => rfl
  | true => exact absurd (Nat.eq_of_beq_eq_true hb) h
def upd (e : Env) (d : Nat) (v : Value) : Env := fun i => cond (Nat.beq i d) v (e i)
theorem upd_same (e : Env) (d : Nat) (v : Value) : upd e d v d = v := by
  unfold upd; rw [show Nat.beq d d = true from Nat.beq_refl d]; rfl
theorem upd_other (e : Env) {d i : Nat} (v : Value) (h : i ≠ d) : upd e d v i = e i := by
  unfold upd; rw [nbeq_ne h]; rfl
theorem upd_self {e : Env} {d : Nat} {v : Value} (h : e d = v) : upd e d v = e := by
  funext i
  by_cases hi : i = d
  · subst hi; rw [upd_same, h]
  · rw [upd_other _ _ hi]
def putE (e : Env) : Option Nat → Value → Env
  | none, _ => e
  | some d, v => upd e d v
def evalE (e : Env) : Operand → Value
  | .tmp t => e t
  | .const v => v
  | .global g => .pointer (some ⟨g, 0, none⟩)
  | .func f => .func (.func f) #[] #[]
structure Agr (n : Nat) (a : Act) (e : Env) : Prop where
  size : a.tmps.size = n
  defers : a.defers = []
  get : ∀ i, a.tmps.getD i undef = e i
theorem Agr.eval {n : Nat} {a : Act} {e : Env} (h : Agr n a e) : a.eval = evalE e := by
  funext x
  cases x with
  | tmp t => exact h.get t
  | _ => rfl
theorem Agr.put {n : Nat} {a : Act} {e : Env} (h : Agr n a e) {d : Nat} (hd : Nat.blt d n = true) (v : Value) : Agr n (a.put (some d) v) (upd e d v) := by
  have hd' : d < n := by simpa [Nat.blt_eq] using hd
  refine ⟨by simp [Act.put, h.size], h.defers, fun i => ?_⟩
  by_cases hi : i = d
  · subst hi
    rw [upd_same]
    simp [Act.put, h.size, hd']
  · rw [upd_other _ _ hi, ← h.get i]
    simp [Act.put, Array.getElem?_setIfInBounds_ne (Ne.symm hi)]
def dstOk (n : Nat) : Option Nat → Bool
  | none => true
  | some d => Nat.blt d n
theorem Agr.putE {n : Nat} {a : Act} {e : Env} (h : Agr n a e) {d : Option Nat} (hd : dstOk n d = true) (v : Value) : Agr n (a.put d v) (putE e d v) := by
  cases d with
  | none => exact h
  | some d => exact h.put hd v
structure W (P : Program) (n : Nat) (c : Code) (Q : Exit → Env → World → Prop) (e : Env) (w : World) : Prop where
  out : ∀ a, Agr n a e → c.wp P (fun x a' w' => ∃ e', Agr n a' e' ∧ Q x e' w') a w
section
variable {P : Program} {n : Nat} {Q : Exit → Env → World → Prop} {e : Env} {w : World}
def Then (K : Env → World → Prop) (Q : Exit → Env → World → Prop) : Exit → Env → World → Prop
  | .normal, e, w => K e w
  | x, e, w => Q x e w
theorem W_skip (h : Q .normal e w) : W P n .skip Q e w := ⟨fun _ ha => wp_skip ⟨e, ha, h⟩⟩
theorem W_exit {id : Nat} (h : Q (.exit id) e w) : W P n (.exit id) Q e w := ⟨fun _ ha => wp_exit ⟨e, ha, h⟩⟩
theorem W_ret (h : Q .ret e w) : W P n .ret Q e w := ⟨fun _ ha => wp_ret ⟨e, ha, h⟩⟩
theorem W_seq {x y : Code} (h : W P n x (Then (fun e w => W P n y Q e w) Q) e w) : W P n (.seq x y) Q e w := by
  constructor
  intro a ha
  refine wp_seq (wp_mono (h.out a ha) fun x a' w' => ?_)
  rintro ⟨e', h1, h2⟩
  cases x <;> first | exact h2.out a' h1 | exact ⟨e', h1, h2⟩
theorem W_cond {c : Operand} {x y : Code} {t : Bool} (hc : evalE e c = .bool t) (ht : t = true → W P n x Q e w) (hf : t = false → W P n y Q e w) : W P n (.cond c x y) Q e w := by
  constructor
  intro a ha
  refine wp_cond_split (t := t) (by rw [ha.eval]; exact hc) (fun h => (ht h).out a ha) (fun h => (hf h).out a ha)
theorem W_cond_f {c : Operand} {x y : Code} (hc : evalE e c = .bool false) (ht : W P n y Q e w) : W P n (.cond c x y) Q e w :=
  W_cond hc (fun h => by cases h) (fun _ => ht)
def Blk (id : Nat) (Q : Exit → Env → World → Prop) : Exit → Env → World → Prop
  | .exit i, e, w => cond (Nat.beq i id) (Q .normal e w) (Q (.exit i) e w)
  | x, e, w => Q x e w
theorem W_block {id : Nat} {c : Code} (h : W P n c (Blk id Q) e w) : W P n (.block id c) Q e w := by
  constructor
  intro a ha
  refine wp_block (wp_mono (h.out a ha) fun x a' w' => ?_)
  rintro ⟨e', h1, h2⟩
  cases x with
  | exit i =>
    by_cases hi : i = id
    · subst hi
      simp only [Exit.inBlock, if_true]
      refine ⟨e', h1, ?_⟩
      simpa [Blk] using h2
    · simp only [Exit.inBlock, if_neg hi]
      refine ⟨e', h1, ?_⟩
      have := nbeq_ne hi
      simpa [Blk, this] using h2
  | _ => exact ⟨e', h1, h2⟩
theorem W_loop {c : Code} (I : Nat → Env → World → Prop) (k : Nat) (h0 : I k e w)
    (round : ∀ k e w, I k e w → W P n c (Then (fun e' w' => ∃ k', k' < k ∧ I k' e' w') Q) e w) : W P n (.loop c) Q e w := by
  constructor
  intro a ha b k₀ cs
  have key : ∀ m a w e, Agr n a e → I m e w →
      ∃ x a' w', (∃ e', Agr n a' e' ∧ Q x e' w') ∧ Arrives P (lone (b.at a (.code c :: .inLoop c :: k₀)) cs w) b k₀ cs x a' w' := by
    intro m
    induction m using Nat.strongRecOn with
    | _ m ih =>
      intro a w e ha hI
      obtain ⟨x, a₁, w₁, hq, harr⟩ := (round m e w hI).out a ha b (.inLoop c :: k₀) cs
      cases x with
      | normal =>
        obtain ⟨e', h1, k', hk', hI'⟩ := hq
        obtain ⟨e₂, a₂, w₂, hq₂, harr₂⟩ := ih k' hk' a₁ w₁ e' h1 hI'
        exact ⟨e₂, a₂, w₂, hq₂, .of_steps (Steps.trans harr (.one step_inLoop)) harr₂⟩
      | exit id => exact ⟨_, a₁, w₁, hq, .pass (x := .inLoop c) rfl (fun _ _ => .inl (by simp)) harr⟩
      | goto l => exact ⟨_, a₁, w₁, hq, .pass (x := .inLoop c) rfl (fun _ _ => .inl (by simp)) harr⟩
      | ret => exact ⟨_, a₁, w₁, hq, .pass (x := .inLoop c) rfl (fun _ _ => .inl (by simp)) harr⟩
      | panic ch => exact ⟨_, a₁, w₁, hq, .pass (x := .inLoop c) rfl (fun _ _ => .inl (by simp)) harr⟩
      | outgrown => exact ⟨_, a₁, w₁, hq, .pass (x := .inLoop c) rfl (fun _ _ => .inl (by simp)) harr⟩
  obtain ⟨x, a', w', hq, harr⟩ := key k a w e ha h0
  exact ⟨x, a', w', hq, .of_steps (.one step_loop) harr⟩
theorem Then_n {K : Env → World → Prop} (h : K e w) : Then K Q .normal e w := h
theorem Then_x {K : Env → World → Prop} {i : Nat} (h : Q (.exit i) e w) : Then K Q (.exit i) e w := h
theorem Then_r {K : Env → World → Prop} (h : Q .ret e w) : Then K Q .ret e w := h
theorem Blk_n {id : Nat} (h : Q .normal e w) : Blk id Q .normal e w := h
theorem Blk_r {id : Nat} (h : Q .ret e w) : Blk id Q .ret e w := h
theorem Blk_x {id : Nat} (h : Q .normal e w) : Blk id Q (.exit id) e w := by
  show cond (Nat.beq id id) _ _
  rw [show Nat.beq id id = true from Nat.beq_refl id]; exact h
theorem Blk_o {id i : Nat} (hi : Nat.beq i id = false) (h : Q (.exit i) e w) : Blk id Q (.exit i) e w := by
  show cond (Nat.beq i id) _ _
  rw [hi]; exact h
def envOf (args : Array Value) : Env := fun i => args.getD i undef
abbrev Ret (K : Value → World → Prop) : Ending → World → Prop := fun x w' => ∃ v, x = .returned v ∧ K v w'
def bodyQ (P : Program) (n : Nat) (fn : Func) (K : Value → World → Prop) : Exit → Env → World → Prop
  | .normal, e, w | .ret, e, w => ∀ a, Agr n a e → ∃ v, (results fn a.tmps).run P w = .ok v w ∧ K v w
  | _, _, _ => False
theorem calls_W {f : FuncId} {fn : Func} {c : Code} {args : Array Value} {K : Value → World → Prop} (hf : P.funcs[f]? = some fn) (hb : fn.body = some c) (hn : fn.ntmps = n) (hs : Nat.ble args.size n = true)
    (h : W P n c (bodyQ P n fn K) (envOf args) w) : Calls P f args w (Ret K) := by
  have hs' : args.size ≤ n := by simpa using hs
  refine calls_of_wp hf hb (wp_mono (h.out _ ?_) ?_)
  · refine ⟨by simp; omega, rfl, fun i => ?_⟩
    unfold envOf
    simp only [Array.getD_eq_getD_getElem?, Array.getElem?_append]
    by_cases hi : i < args.size
    · simp [hi]
    · simp only [hi, if_false, Array.getElem?_replicate]
      rw [Array.getElem?_eq_none (by omega)]
      split <;> rfl
  · rintro x a' w' ⟨e', h1, h2⟩
    cases x with
    | normal =>
      obtain ⟨v, h3, h4⟩ := h2 a' h1
      exact ⟨h1.defers, v, h3, v, rfl, h4⟩
    | ret =>
      obtain ⟨v, h3, h4⟩ := h2 a' h1
      exact ⟨h1.defers, v, h3, v, rfl, h4⟩
    | _ => exact h2.elim
theorem ret_0 {fn : Func} {K : Value → World → Prop} (hr : fn.results = #[]) (h : K (.tuple #[]) w) : bodyQ P n fn K .ret e w := by
  intro a ha
  exact ⟨_, by simp [results, hr], h⟩
theorem ret_1 {fn : Func} {K : Value → World → Prop} {t : Nat} {v : Value} (hr : fn.results = #[.tmp t]) (he : e t = v) (h : K v w) : bodyQ P n fn K .ret e w := by
  intro a ha
  refine ⟨v, ?_, h⟩
  have := ha.get t
  rw [he] at this
  simp only [Array.getD_eq_getD_getElem?] at this
  simp [results, hr, this]
theorem ret_2 {fn : Func} {K : Value → World → Prop} {t u : Nat} {v v' : Value} (hr : fn.results = #[.tmp t, .tmp u]) (he : e t = v) (he' : e u = v') (h : K (.tuple #[v, v']) w) : bodyQ P n fn K .ret e w := by
  intro a ha
  refine ⟨_, ?_, h⟩
  have h1 := ha.get t
  have h2 := ha.get u
  rw [he] at h1
  rw [he'] at h2
  simp only [Array.getD_eq_getD_getElem?] at h1 h2
  simp [results, hr, h1, h2]
end
end Go.Proofs.YthjdhfoeckfmbaaGreat
namespace Go.Proofs.YthjdhfoeckfmbaaGreat
open Go
set_option linter.unusedVariables false
set_option linter.unusedSimpArgs false
set_option linter.unusedSectionVars false
theorem ask_drawn {α : Type} : ∀ (x : Ask α) (w : World), w.drawn ≤ (w.ask x).2.drawn
  | .done a, w => Nat.le_refl _
  | .ask what range k, w => by
    simp only [World.ask]
    split
    · exact ask_drawn (k 0) w
    · have := ask_drawn (k ((Question.extern what range).cut (w.tape w.drawn (Question.extern what range)))) { w with drawn := w.drawn + 1 }
      exact Nat.le_trans (Nat.le_succ _) this
theorem sys_drawn (w : World) (c : Sys) : w.drawn ≤ (w.sys c).2.drawn := by
  have h := ask_drawn (Kernel.perform c w.os) w
  unfold World.sys
  split
  · exact Nat.le_refl _
  · rename_i e
    rw [e] at h
    exact h
theorem except_bind {ε α β : Type} {x : Except ε α} {f : α → Except ε β} {b : β} (h : (x >>= f) = .ok b) : ∃ a, x = .ok a ∧ f a = .ok b := by
  cases x with
  | error e => cases h
  | ok a => exact ⟨a, rfl, h⟩
def Pr (w : World) (x : Except String (World × List Addr)) : Prop := ∀ r, x = .ok r → r.1.drawn = w.drawn
theorem Pr_bind {α : Type} {w : World} {x : Except String α} {f : α → Except String (World × List Addr)} (h : ∀ a, Pr w (f a)) : Pr w (x >>= f) := fun r hr => by
  obtain ⟨a, _, h1⟩ := except_bind hr
  exact h a r h1
theorem Pr_throw {w : World} {e : String} : Pr w (MonadExcept.throw e) := fun r hr => by cases hr
theorem view_drawn {p : Program} {w : World} {at_ : Addr} {u : TypeId} {k : Addr} {v : Value} {b : Bool} {r : World × List Addr} (h : w.viewStore p at_ u k v b = .ok r) : r.1.drawn = w.drawn := by
  have key : Pr w (w.viewStore p at_ u k v b) := by
    unfold World.viewStore
    repeat' first
      | (refine Pr_bind fun _ => ?_)
      | exact Pr_throw
      | (exact fun r hr => by injection hr with hr; subst hr; rfl)
      | (dsimp only; split)
      | split
  exact key r h
theorem far_drawn {p : Program} {w : World} {a : Addr} {v : Value} {b : Bool} {r : World × List Addr} (h : w.farStore p a v b = .ok r) : r.1.drawn = w.drawn := by
  unfold World.farStore at h
  split at h
  · split at h
    · rename_i r' hr
      injection h with h
      subst h
      exact view_drawn hr
    · cases h
  · cases h
theorem sem_drawn {α : Type} {P : Program} : ∀ (m : Sem α) (w : World) {a : α} {w' : World}, m.run P w = .ok a w' → w.drawn ≤ w'.drawn := by
  intro m
  induction m with
  | pure a => intro w a' w' h; simp only [Sem.run] at h; injection h with _ h; subst h; exact Nat.le_refl _
  | load m a k ih =>
    intro w b w' h
    simp only [Sem.run] at h
    split at h
    · exact ih _ _ h
    · split at h
      · exact ih _ _ h
      · cases h
  | store m a v k ih =>
    intro w b w' h
    have key : ∀ w1 : World, w1.drawn = w.drawn → k.run P w1 = .ok b w' → w.drawn ≤ w'.drawn := fun w1 e h1 => by
      have := ih w1 h1
      rw [e] at this; exact this
    have fin : (match w.cell? a with
        | some _ => if w.frozen? a then Result.halt (.unsupported (.unsafePointer "a write to bytes that a string shares")) w else k.run P (w.setCell a v)
        | none => match w.farStore P a v (m == Mode.atomic) with
          | .ok (w1, _) => k.run P w1
          | .error h => .halt h w) = .ok b w' → w.drawn ≤ w'.drawn := by
      intro h
      split at h
      · split at h
        · cases h
        · exact key (w.setCell a v) rfl h
      · split at h
        · rename_i w1 l hf
          exact key _ (far_drawn hf) h
        · cases h
    cases v <;> simp only [Sem.run] at h <;> first
      | exact fin h
      | cases h
  | new o k ih => intro w b w' h; simp only [Sem.run] at h; have := ih _ _ h; exact this
  | shape r k ih => intro w b w' h; simp only [Sem.run] at h; exact ih _ _ h
  | freeze a n k ih =>
    intro w b w' h; simp only [Sem.run] at h
    have := ih _ h
    have e : (w.freeze a n).drawn = w.drawn := by unfold World.freeze; split <;> rfl
    rw [e] at this; exact this
  | frozen a k ih => intro w b w' h; simp only [Sem.run] at h; exact ih _ _ h
  | getObj r k ih =>
    intro w b w' h; simp only [Sem.run] at h
    split at h
    · cases h
    · exact ih _ _ h
    · cases h
  | setObj r o k ih =>
    intro w b w' h; simp only [Sem.run] at h
    split at h
    · cases h
    · have := ih _ h; exact this
    · cases h
  | choose q k ih =>
    intro w b w' h; simp only [Sem.run] at h
    split at h
    · exact ih _ _ h
    · have := ih _ _ h
      exact Nat.le_trans (Nat.le_succ _) this
  | sys c k ih =>
    intro w b w' h; simp only [Sem.run] at h
    have := ih _ _ h
    exact Nat.le_trans (sys_drawn w c) this
  | program k ih => intro w b w' h; simp only [Sem.run] at h; exact ih _ _ h
  | mark m k ih => intro w b w' h; simp only [Sem.run] at h; exact ih _ h
  | halt h => intro w b w' h; simp only [Sem.run] at h; cases h
class DD where
  D : Prop
instance (priority := 10) ddF : DD := ⟨False⟩
@[reducible] def ddT : DD := ⟨True⟩
variable [DD]
structure Gr (M : Nat → Prop) (w w' : World) : Prop where
  os : w'.os = w.os
  tape : w'.tape = w.tape
  output : w'.output = w.output
  size : w.heap.size ≤ w'.heap.size
  block : ∀ k, k < w.heap.size → ¬ M k → w'.heap[k]? = w.heap[k]?
  drawn : DD.D → w.drawn ≤ w'.drawn
def nob : Nat → Prop := fun _ => False
abbrev Ext (w w' : World) : Prop := Gr nob w w'
theorem Gr.refl (M : Nat → Prop) (w : World) : Gr M w w := ⟨rfl, rfl, rfl, Nat.le_refl _, fun _ _ _ => rfl, fun _ => Nat.le_refl _⟩
theorem Gr.trans {M : Nat → Prop} {a b c : World} (h : Gr M a b) (k : Gr M b c) : Gr M a c :=
  ⟨k.os.trans h.os, k.tape.trans h.tape, k.output.trans h.output, Nat.le_trans h.size k.size,
    fun i hi hm => (k.block i (Nat.lt_of_lt_of_le hi h.size) hm).trans (h.block i hi hm), fun d => Nat.le_trans (h.drawn d) (k.drawn d)⟩
theorem Gr.mono {M M' : Nat → Prop} {a b : World} (h : Gr M a b) (hm : ∀ k, M k → M' k) : Gr M' a b :=
  ⟨h.os, h.tape, h.output, h.size, fun i hi hn => h.block i hi fun hx => hn (hm i hx), h.drawn⟩
theorem Gr.ofExt {M : Nat → Prop} {a b : World} (h : Ext a b) : Gr M a b := h.mono fun _ hx => hx.elim
theorem Ext.drew (w : World) : Ext w w.drew := ⟨rfl, rfl, rfl, Nat.le_refl _, fun _ _ _ => rfl, fun _ => Nat.le_succ _⟩
theorem Ext.alloc (w : World) (o : Obj) : Ext w (w.alloc o) :=
  ⟨rfl, rfl, rfl, by simp, fun k hk _ => heap_alloc_old w o (h := hk), fun _ => Nat.le_refl _⟩
def Runs (P : Program) (ρ : Operand → Value) (o : Oper) (w : World) (K : Value → World → Prop) : Prop :=
  match (execOp ρ o).run P w with
  | .ok (.value v) w' => K v w'
  | .ok .skip w' => K undef w'
  | .ok (.enter f args) w' => Calls P f args w' (fun x w'' => ∃ v, x = .returned v ∧ K v w'')
  | .ok (.row r args) w' => Rows P r args w' K
  | _ => False
section
variable {P : Program} {ρ : Operand → Value} {o : Oper} {w : World} {K K' : Value → World → Prop}
theorem Runs.mono (h : Runs P ρ o w K) (hk : ∀ v w', K v w' → K' v w') : Runs P ρ o w K' := by
  unfold Runs at *
  generalize (execOp ρ o).run P w = r at *
  cases r with
  | ok n w' =>
    cases n <;> first
      | exact hk _ _ h
      | exact h.mono fun _ _ ⟨v, h1, h2⟩ => ⟨v, h1, hk _ _ h2⟩
      | exact h.mono fun _ _ h2 => hk _ _ h2
      | exact h
  | halt x w' => exact h
theorem Runs.value {v : Value} {w' : World} (hr : (execOp ρ o).run P w = .ok (.value v) w') (h : K v w') : Runs P ρ o w K := by
  unfold Runs; rw [hr]; exact h
theorem Runs.skip {w' : World} (hr : (execOp ρ o).run P w = .ok .skip w') (h : K undef w') : Runs P ρ o w K := by
  unfold Runs; rw [hr]; exact h
theorem Runs.wp {a : Act} {K' : Act → World → Prop} {Q : Exit → Act → World → Prop} (h : Runs P a.eval o w K) (hk : ∀ v w', K v w' → K' (a.put o.dst v) w') : o.wp P a w K' Q := by
  unfold Runs at h
  unfold Oper.wp
  generalize (execOp a.eval o).run P w = r at *
  cases r with
  | ok n w' =>
    cases n <;> simp only [Oper.upon] <;> first
      | exact hk _ _ h
      | exact h.mono fun _ _ ⟨v, h1, h2⟩ => by subst h1; exact hk _ _ h2
      | exact h.mono fun _ _ h2 => hk _ _ h2
      | exact h
      | exact h.elim
  | halt x w' => exact h.elim
end
def wantE (ops : Array Oper) (e : Env) (o : Oper) : Bool :=
  match o.guard with
  | none => true
  | some (j, b) => match (ops[j]?).bind (·.dst) with
    | some d => match e d with
      | .bool c => c == b
      | _ => false
    | none => false
theorem wantE_eq {n : Nat} {a : Act} {e : Env} (h : Agr n a e) (ops : Array Oper) (o : Oper) : Region.wanted o (yielded ops a.tmps) = wantE ops e o := by
  unfold Region.wanted wantE
  cases hg : o.guard with
  | none => rfl
  | some g =>
    obtain ⟨j, b⟩ := g
    simp only [yielded]
    cases hd : (ops[j]?).bind (·.dst) with
    | none => simp
    | some d =>
      simp only [Option.bind_some]
      have hg := h.get d
      simp only [Array.getD_eq_getD_getElem?] at hg
      cases ht : a.tmps[d]? with
      | none =>
        rw [ht] at hg
        simp only [Option.getD_none] at hg
        rw [← hg]
        rfl
      | some v =>
        rw [ht] at hg
        simp only [Option.getD_some] at hg
        rw [← hg]
        cases v <;> rfl
def O (P : Program) (n : Nat) (ops : Array Oper) (Q : Exit → Env → World → Prop) : List Oper → Env → World → Prop
  | [], e, w => Q .normal e w
  | o :: rest, e, w => dstOk n o.dst = true ∧
    (if wantE ops e o = true then Runs P (evalE e) o w (fun v w' => O P n ops Q rest (putE e o.dst v) w') else O P n ops Q rest (putE e o.dst undef) w)
section
variable {P : Program} {n : Nat} {Q : Exit → Env → World → Prop} {e : Env} {w : World} {ops : Array Oper} {rest : List Oper}
theorem O_sound : ∀ (l : List Oper) (e : Env) (w : World) (a : Act), O P n ops Q l e w → Agr n a e → wpList P ops (fun x a' w' => ∃ e', Agr n a' e' ∧ Q x e' w') l a w
  | [], e, w, a, h, ha => ⟨e, ha, h⟩
  | o :: rest, e, w, a, h, ha => by
    obtain ⟨hd, h⟩ := h
    unfold wpList
    rw [wantE_eq ha]
    split
    · rename_i hw
      rw [if_pos hw] at h
      rw [← ha.eval] at h
      exact .inl (h.wp fun v w' hk => O_sound rest _ w' _ hk (ha.putE hd v))
    · rename_i hw
      rw [if_neg hw] at h
      exact O_sound rest _ w _ h (ha.putE hd _)
theorem W_reg {id : Nat} {l : List Oper} (h : O P n l.toArray Q l e w) : W P n (.region id l.toArray false) Q e w :=
  ⟨fun a ha => wp_region_lit (O_sound l e w a h ha)⟩
theorem O_nil (h : Q .normal e w) : O P n ops Q [] e w := h
theorem O_v {d : Nat} {op : Op} {ty : TypeId} {pos : String} {af : Array Edge} (hd : Nat.blt d n = true)
    (h : Runs P (evalE e) ⟨some d, op, ty, pos, af, none⟩ w (fun v w' => O P n ops Q rest (upd e d v) w')) : O P n ops Q (⟨some d, op, ty, pos, af, none⟩ :: rest) e w :=
  ⟨hd, by rw [if_pos (show wantE ops e ⟨some d, op, ty, pos, af, none⟩ = true from rfl)]; exact h⟩
theorem O_u {op : Op} {ty : TypeId} {pos : String} {af : Array Edge}
    (h : Runs P (evalE e) ⟨none, op, ty, pos, af, none⟩ w (fun _ w' => O P n ops Q rest e w')) : O P n ops Q (⟨none, op, ty, pos, af, none⟩ :: rest) e w :=
  ⟨rfl, by rw [if_pos (show wantE ops e ⟨none, op, ty, pos, af, none⟩ = true from rfl)]; exact h⟩
end
inductive Kd where
  /-- quiet: one value in every world that may be met ('wk': also behind the chain's writes to M) -/
  | q (wk : Nat)
  /-- of the chain ('mu': it may write to M) -/
  | c (mu : Nat)
def mset (M : Nat → Prop) : Nat → Nat → Prop
  | 0 => nob
  | 1 => M
  | _ => fun _ => True
theorem mset_mono {M : Nat → Prop} {a b k : Nat} (hab : a ≤ b) (h : mset M a k) : mset M b k := by
  match a, b, hab, h with
  | 0, _, _, h => exact h.elim
  | 1, 1, _, h => exact h
  | 1, b + 2, _, _ => trivial
  | a + 2, b + 2, _, _ => trivial
abbrev GrF (M : Nat → Prop) (b : Nat) (w w' : World) : Prop := Gr (mset M b) w w'
theorem GrF.trans {M : Nat → Prop} {a b : Nat} {x y z : World} (h : GrF M a x y) (k : GrF M b y z) (hab : a ≤ b) : GrF M b x z :=
  (Gr.mono h fun _ hk => mset_mono hab hk).trans k
theorem GrF.ofExt {M : Nat → Prop} {b : Nat} {x y : World} (h : Ext x y) : GrF M b x y := Gr.ofExt h
section
variable (P : Program) (ops : Array Oper)
def rOp (i : Nat) (K : Act → World → Prop) (a : Act) (w : World) : Prop :=
  match ops[i]? with
  | none => K a w
  | some o => if Region.wanted o (yielded ops a.tmps) = true then Runs P a.eval o w (fun v w' => K (a.put o.dst v) w') else K (a.put o.dst undef) w
def AnyR (Q : Act → World → Prop) (mf : Nat → Nat) (M : Nat → Prop) : Nat → Array Bool → Act → World → Prop
  | 0, listed, a, wc => Region.ready .any ops listed = [] ∧ ∀ w, Ext wc w → Q a w
  | f + 1, listed, a, wc => (Region.ready .any ops listed = [] → ∀ w, Ext wc w → Q a w) ∧
    ∀ i ∈ Region.ready .any ops listed, ∀ w, Ext wc w → rOp P ops i (fun a' w' => GrF M (mf i) w w' ∧ AnyR Q mf M f (listed.setIfInBounds i true) a' w') a w
end
section
variable {P : Program} {ops : Array Oper} {Q : Act → World → Prop} {mf : Nat → Nat} {M : Nat → Prop}
theorem AnyR_ext : ∀ (f : Nat) (listed : Array Bool) (a : Act) (wc wd : World), Ext wc wd → AnyR P ops Q mf M f listed a wc → AnyR P ops Q mf M f listed a wd
  | 0, _, _, _, _, hx, h => ⟨h.1, fun w hw => h.2 w (hx.trans hw)⟩
  | _ + 1, _, _, _, _, hx, h => ⟨fun h0 w hw => h.1 h0 w (hx.trans hw), fun i hi w hw => h.2 i hi w (hx.trans hw)⟩
theorem rOp.wpOp {i : Nat} {K : Act → World → Prop} {K' : Act → World → Prop} {Q' : Exit → Act → World → Prop} {a : Act} {w : World} (h : ∀ a w, K a w → K' a w) (hh : rOp P ops i K a w) : wpOp P ops Q' i K' a w := by
  unfold rOp at hh
  unfold Go.wpOp
  split
  · rename_i hn; simp only [hn] at hh; exact h _ _ hh
  · rename_i o ho
    simp only [ho] at hh
    split
    · rename_i hw; rw [if_pos hw] at hh; exact .inl (hh.wp fun v w' hk => h _ _ hk)
    · rename_i hw; rw [if_neg hw] at hh; exact h _ _ hh
theorem wpAny_of_AnyR {Q' : Exit → Act → World → Prop} (hQ : ∀ a w, Q a w → Q' .normal a w) : ∀ (f : Nat) (listed : Array Bool) (a : Act) (wc w : World), Ext wc w →
    AnyR P ops Q mf M f listed a wc → wpAny P .any ops Q' f listed a w
  | 0, _, _, _, _, hx, h => ⟨h.1, hQ _ _ (h.2 _ hx)⟩
  | f + 1, _, _, _, w, hx, h => ⟨fun h0 => hQ _ _ (h.1 h0 _ hx), fun i hi => (h.2 i hi w hx).wpOp fun a' w' hk => wpAny_of_AnyR hQ f _ a' w' w' (Gr.refl _ _) hk.2⟩
def Quiet (P : Program) (ops : Array Oper) (o : Oper) (v : Value) (a : Act) (D : World → Prop) : Prop :=
  if Region.wanted o (yielded ops a.tmps) = true then ∀ w, D w → Runs P a.eval o w (fun v' w' => v' = v ∧ Ext w w') else v = undef
theorem Quiet.of_same {o : Oper} {v : Value} {a a' : Act} {D : World → Prop} (hy : Quiet P ops o v a D) (he : execOp a'.eval o = execOp a.eval o)
    (hw : Region.wanted o (yielded ops a'.tmps) = Region.wanted o (yielded ops a.tmps)) : Quiet P ops o v a' D := by
  unfold Quiet Runs at *
  rw [he, hw]
  exact hy
theorem AnyR_first {j : Nat} {oj : Oper} {v : Value} {wk : Nat} (T : List Nat) (hj : ops[j]? = some oj) (hsel : Region.noSelect ops = true) :
    ∀ (f : Nat) (listed : Array Bool) (a : Act) (wc : World),
      (∀ i ∈ T, listed.getD i true = false ∧ ∃ oi, ops[i]? = some oi ∧ ∃ e ∈ oi.after, Region.binds .any e = true ∧ (e.on = j ∨ e.on ∈ T)) →
      (∀ i oi, ops[i]? = some oi → i ≠ j → listed.getD i true = false → i ∉ T → oj.apart ops oi = true ∧ mf i ≤ wk) →
      mf j = 0 → j ∈ Region.ready .any ops listed → Quiet P ops oj v a (fun w => GrF M wk wc w) →
      AnyR P ops Q mf M f (listed.setIfInBounds j true) (a.put oj.dst v) wc → AnyR P ops Q mf M (f + 1) listed a wc := by
  have run : ∀ (f : Nat) (listed : Array Bool) (a : Act) (wc : World), mf j = 0 → Quiet P ops oj v a (fun w => GrF M wk wc w) →
      AnyR P ops Q mf M f (listed.setIfInBounds j true) (a.put oj.dst v) wc → ∀ w, Ext wc w →
      rOp P ops j (fun a' w' => GrF M (mf j) w w' ∧ AnyR P ops Q mf M f (listed.setIfInBounds j true) a' w') a w := by
    intro f listed a wc hm hq H w hw
    unfold rOp
    simp only [hj]
    unfold Quiet at hq
    split
    · rename_i hwant
      rw [if_pos hwant] at hq
      refine (hq w (GrF.ofExt hw)).mono ?_
      rintro v' w' ⟨rfl, hx⟩
      exact ⟨GrF.ofExt hx, AnyR_ext _ _ _ _ _ (hw.trans hx) H⟩
    · rename_i hwant
      rw [if_neg hwant] at hq
      subst hq
      exact ⟨Gr.refl _ _, AnyR_ext _ _ _ _ _ hw H⟩
  intro f
  induction f with
  | zero =>
    intro listed a wc hT hfree hm hr hq H
    refine ⟨fun h => (by rw [h] at hr; cases hr), fun i hi w hw => ?_⟩
    by_cases hij : i = j
    · subst hij
      exact run 0 listed a wc hm hq H w hw
    · have := ready_mono (i := j) hi hij
      rw [H.1] at this
      cases this
  | succ f ih =>
    intro listed a wc hT hfree hm hr hq H
    refine ⟨fun h => (by rw [h] at hr; cases hr), fun i hi w hw => ?_⟩
    by_cases hij : i = j
    · subst hij
      exact run (f + 1) listed a wc hm hq H w hw
    · have h1 := H.2 i (ready_mono hi hij) w hw
      obtain ⟨hun, oi, hoi, hall⟩ := mem_ready.1 hi
      have hlist : ∀ q : Nat, listed.getD q true = false → listed.getD q false = true → False := fun q h0 h1 => by
        rcases Nat.lt_or_ge q listed.size with h' | h'
        · simp [h'] at h0 h1; rw [h0] at h1; cases h1
        · simp [Array.getElem?_eq_none h'] at h1
      have hnot : i ∉ T := fun hiT => by
        obtain ⟨_, oi', hoi', e, he, hb, hon⟩ := hT i hiT
        rw [hoi] at hoi'
        obtain rfl := Option.some.inj hoi'
        have h1 := hall e he hb
        rcases hon with heq | hmem
        · rw [heq] at h1
          exact hlist j (mem_ready.1 hr).1 h1
        · exact hlist e.on (hT _ hmem).1 h1
      have hT' : ∀ q ∈ T, (listed.setIfInBounds i true).getD q true = false ∧ ∃ oi, ops[q]? = some oi ∧ ∃ e ∈ oi.after, Region.binds .any e = true ∧ (e.on = j ∨ e.on ∈ T) := fun q hq => by
        refine ⟨?_, (hT q hq).2⟩
        have hiq : i ≠ q := fun e => hnot (e ▸ hq)
        rw [getD_set_ne true hiq]
        exact (hT q hq).1
      obtain ⟨hap, hmw⟩ := hfree i oi hoi hij hun hnot
      obtain ⟨a1, a2, a3⟩ := Oper.apart_spec hap
      have hsi := fun cs b => Region.noSelect_spec hsel i oi cs b hoi
      have hsj := fun cs b => Region.noSelect_spec hsel j oj cs b hj
      have hfree' : ∀ k ok, ops[k]? = some ok → k ≠ j → (listed.setIfInBounds i true).getD k true = false →
          k ∉ T → oj.apart ops ok = true ∧ mf k ≤ wk := fun k ok hk hkj hun' hno => by
        refine hfree k ok hk hkj ?_ hno
        by_cases hik : i = k
        · subst hik; exact hun
        · rw [getD_set_ne true hik] at hun'; exact hun'
      have fin : ∀ (u : Value) (w' : World), GrF M (mf i) w w' → AnyR P ops Q mf M f ((listed.setIfInBounds j true).setIfInBounds i true) ((a.put oj.dst v).put oi.dst u) w' →
          AnyR P ops Q mf M (f + 1) (listed.setIfInBounds i true) (a.put oi.dst u) w' := by
        intro u w' hg hA
        refine ih (listed.setIfInBounds i true) (a.put oi.dst u) w' hT' hfree' hm (ready_mono hr (Ne.symm hij)) ?_ ?_
        · have hq' := hq.of_same (execOp_put oj hsj a oi.dst u a3) (wanted_put oj a oi.dst u a3)
          unfold Quiet at *
          split
          · rename_i hwant
            rw [if_pos hwant] at hq'
            exact fun w'' hw'' => hq' w'' (((GrF.ofExt hw).trans hg (b := mf i) (Nat.le_refl _)).trans hw'' hmw)
          · rename_i hwant
            rw [if_neg hwant] at hq'
            exact hq'
        · rw [Act.put_comm a v u a2] at hA
          rw [Array.setIfInBounds_comm _ _ hij]
          exact hA
      unfold rOp at *
      simp only [hoi] at *
      rw [wanted_put oi a oj.dst v a1] at h1
      split
      · rename_i hwant
        rw [if_pos hwant] at h1
        unfold Runs at *
        rw [execOp_put oi hsi a oj.dst v a1] at h1
        have h2 : Runs P a.eval oi w (fun v_1 w' => GrF M (mf i) w w' ∧ AnyR P ops Q mf M f ((listed.setIfInBounds j true).setIfInBounds i true) ((a.put oj.dst v).put oi.dst v_1) w') := h1
        exact h2.mono fun u w' hk => ⟨hk.1, fin u w' hk.1 hk.2⟩
      · rename_i hwant
        rw [if_neg hwant] at h1
        exact ⟨h1.1, fin undef w h1.1 h1.2⟩
end
def Lx (P : Program) (n : Nat) (ops : Array Oper) (M : Nat → Prop) (Q : Env → World → Prop) : List (Nat × Kd) → Env → World → Prop
  | [], e, wc => ∀ w, Ext wc w → Q e w
  | (i, .q wk) :: rest, e, wc => ∃ o, ops[i]? = some o ∧ dstOk n o.dst = true ∧
      ∃ v, (if wantE ops e o = true then ∀ w, GrF M wk wc w → Runs P (evalE e) o w (fun v' w' => v' = v ∧ Ext w w') else v = undef) ∧ Lx P n ops M Q rest (putE e o.dst v) wc
  | (i, .c mu) :: rest, e, wc => ∃ o, ops[i]? = some o ∧ dstOk n o.dst = true ∧
      ∀ w, Ext wc w → if wantE ops e o = true then Runs P (evalE e) o w (fun v w' => GrF M mu w w' ∧ Lx P n ops M Q rest (putE e o.dst v) w') else Lx P n ops M Q rest (putE e o.dst undef) w
def Kd.mu : Kd → Nat
  | .q _ => 0
  | .c m => m
def waits (ops : Array Oper) (listed : Array Bool) (k : Nat) : List Nat :=
  (List.range ops.size).foldl (fun T i => if !(i == k) && !listed.getD i true && ((ops.getD i default).after.any fun e => Region.binds .any e && (e.on == k || T.contains e.on)) then i :: T else T) []
def waitsOk (ops : Array Oper) (listed : Array Bool) (k : Nat) (T : List Nat) : Bool :=
  T.all fun i => !listed.getD i true && (Nat.blt i ops.size && (ops.getD i default).after.any fun e => Region.binds .any e && (e.on == k || T.contains e.on))
def freeOk (ops : Array Oper) (mf : Nat → Nat) (listed : Array Bool) (k : Nat) (wk : Nat) (T : List Nat) : Bool :=
  waitsOk ops listed k T && (List.range ops.size).all fun i => i == k || listed.getD i true || T.contains i || ((ops.getD k default).apart ops (ops.getD i default) && Nat.ble (mf i) wk)
def chk (ops : Array Oper) (mf : Nat → Nat) : Array Bool → List (Nat × Kd) → Bool
  | listed, [] => (Region.ready .any ops listed).isEmpty
  | listed, (k, .c m) :: rest => Region.ready .any ops listed == [k] && Nat.beq (mf k) m && chk ops mf (listed.setIfInBounds k true) rest
  | listed, (k, .q wk) :: rest =>
    (Region.ready .any ops listed).contains k && Nat.beq (mf k) 0 && freeOk ops mf listed k wk (waits ops listed k) && chk ops mf (listed.setIfInBounds k true) rest
section
variable {P : Program} {n : Nat} {ops : Array Oper} {M : Nat → Prop} {mf : Nat → Nat} {Q : Env → World → Prop}
theorem Lx_sound (hsel : Region.noSelect ops = true) : ∀ (π : List (Nat × Kd)) (listed : Array Bool) (e : Env) (wc : World) (a : Act), chk ops mf listed π = true →
    Lx P n ops M Q π e wc → Agr n a e → AnyR P ops (fun a w => ∃ e', Agr n a e' ∧ Q e' w) mf M π.length listed a wc
  | [], listed, e, wc, a, hc, h, ha => ⟨by simpa [chk, List.isEmpty_iff] using hc, fun w hw => ⟨e, ha, h w hw⟩⟩
  | (k, .c mu) :: rest, listed, e, wc, a, hc, h, ha => by
    simp only [chk, Bool.and_eq_true, beq_iff_eq] at hc
    obtain ⟨⟨hr, hm⟩, hc'⟩ := hc
    have hm := Nat.eq_of_beq_eq_true hm
    obtain ⟨o, ho, hd, h⟩ := h
    refine ⟨fun h0 => (by rw [h0] at hr; cases hr), fun i hi w hw => ?_⟩
    rw [hr] at hi
    obtain rfl : i = k := by simpa using hi
    have h1 := h w hw
    unfold rOp
    simp only [ho]
    rw [wantE_eq ha]
    split
    · rename_i hwant
      rw [if_pos hwant] at h1
      rw [← ha.eval] at h1
      exact h1.mono fun v w' hk => ⟨by rw [hm]; exact hk.1, Lx_sound hsel rest _ _ _ _ hc' hk.2 (ha.putE hd v)⟩
    · rename_i hwant
      rw [if_neg hwant] at h1
      exact ⟨Gr.refl _ _, Lx_sound hsel rest _ _ _ _ hc' h1 (ha.putE hd _)⟩
  | (k, .q wk) :: rest, listed, e, wc, a, hc, h, ha => by
    simp only [chk, Bool.and_eq_true, beq_iff_eq] at hc
    obtain ⟨⟨⟨hr, hm⟩, hfree⟩, hc'⟩ := hc
    have hm := Nat.eq_of_beq_eq_true hm
    obtain ⟨o, ho, hd, v, hq, h⟩ := h
    have IH := Lx_sound hsel rest _ _ _ _ hc' h (ha.putE hd v)
    simp only [freeOk, waitsOk, Bool.and_eq_true] at hfree
    refine AnyR_first (wk := wk) (waits ops listed k) ho hsel rest.length listed a wc ?_ ?_ hm (by simpa using hr) ?_ IH
    · intro i hi
      have hh := List.all_eq_true.1 hfree.1 i hi
      simp only [Bool.and_eq_true, Bool.not_eq_true', Array.any_eq_true', Bool.or_eq_true, beq_iff_eq, List.contains_iff_mem, Nat.blt_eq] at hh
      obtain ⟨h1, h2, e, he, hb, hon⟩ := hh
      refine ⟨h1, ops[i], by simp [h2], e, ?_, hb, hon⟩
      simpa [h2] using he
    · intro i oi hoi hik hun hno
      have hi : i < ops.size := (Array.getElem?_eq_some_iff.1 hoi).1
      have hh := List.all_eq_true.1 hfree.2 i (List.mem_range.2 hi)
      have hoi' : ops.getD i default = oi := by simp [hoi]
      have hok' : ops.getD k default = o := by simp [ho]
      rw [hoi', hok'] at hh
      simp only [Bool.or_eq_true, beq_iff_eq, hik, false_or, hun, Bool.false_eq_true, Bool.and_eq_true, List.contains_iff_mem] at hh
      rcases hh with hh | ⟨hap, hw⟩
      · exact absurd hh hno
      · exact ⟨hap, Nat.le_of_ble_eq_true hw⟩
    · unfold Quiet
      rw [wantE_eq ha, ha.eval]
      split
      · rename_i hwant; rw [if_pos hwant] at hq; exact hq
      · rename_i hwant; rw [if_neg hwant] at hq; exact hq
def textOk (ops : List Oper) : Bool := ops.zipIdx.all fun (o, i) => o.after.all fun e => !Region.binds .any e || Nat.blt e.on i
theorem wpAny_text {Q' : Exit → Act → World → Prop} {ops : List Oper} (ht : textOk ops = true) : ∀ (l : List Oper) (k : Nat) (listed : Array Bool) (a : Act) (w : World), (∀ j, l[j]? = ops[k + j]?) → listed.size = ops.length →
    (∀ i, i < ops.length → listed.getD i false = decide (i < k)) → wpAny P .any ops.toArray Q' l.length listed a w → wpList P ops.toArray Q' l a w
  | [], _, _, _, _, _, _, _, h => h.2
  | o :: l, k, listed, a, w, hl, hs, hlist, h => by
    have h0 : ops[k]? = some o := by simpa using (hl 0).symm
    have hk : k < ops.length := (List.getElem?_eq_some_iff.1 h0).1
    have hr : k ∈ Region.ready .any ops.toArray listed := by
      refine mem_ready.2 ⟨?_, o, by simpa using h0, fun e he hb => ?_⟩
      · have := hlist k hk
        simp only [Nat.lt_irrefl, decide_false] at this
        simpa [Array.getD_eq_getD_getElem?, Array.getElem?_eq_getElem (hs ▸ hk)] using this
      · have h1 := List.all_eq_true.1 ht (o, k) (by
          rw [List.mem_zipIdx_iff_getElem?]; simpa using h0)
        simp only [Array.all_eq_true', Bool.or_eq_true, Bool.not_eq_true'] at h1
        have h2 := h1 e he
        rw [hb] at h2
        have h3 : e.on < k := by simpa [Nat.blt_eq] using h2
        rw [hlist _ (by omega)]
        simpa using h3
    have h1 := h.2 k hr
    have hrec : ∀ a w, wpAny P .any ops.toArray Q' l.length (listed.setIfInBounds k true) a w → wpList P ops.toArray Q' l a w := fun a w hh =>
      wpAny_text ht l (k + 1) _ a w (fun j => by have := hl (j + 1); simpa [Nat.add_assoc, Nat.add_comm 1 j] using this) (by simpa using hs) (fun i hi => by
        by_cases hik : k = i
        · subst hik
          simp [Array.getD_eq_getD_getElem?, hs, hi]
        · rw [show (listed.setIfInBounds k true).getD i false = listed.getD i false from by simp [Array.getElem?_setIfInBounds_ne hik], hlist i hi]
          simp only [decide_eq_decide]
          omega) hh
    unfold wpOp at h1
    simp only [List.getElem?_toArray, h0] at h1
    unfold wpList
    split
    · rename_i hw
      rw [if_pos hw] at h1
      exact h1.imp (Oper.wp_mono hrec) id
    · rename_i hw
      rw [if_neg hw] at h1
      exact hrec _ _ h1
theorem W_lx {Q : Exit → Env → World → Prop} {id : Nat} {l : List Oper} {e : Env} {w : World} (M : Nat → Prop) (mf : Nat → Nat) (π : List (Nat × Kd)) (ht : textOk l = true)
    (hsel : Region.noSelect l.toArray = true) (hlen : Nat.beq π.length l.length = true) (hc : chk l.toArray mf (Array.replicate l.length false) π = true)
    (h : Lx P n l.toArray M (fun e w => Q .normal e w) π e w) : W P n (.region id l.toArray false) Q e w := by
  constructor
  intro a ha
  have hs := Lx_sound (mf := mf) hsel π _ e w a hc h ha
  have hl : π.length = l.length := Nat.eq_of_beq_eq_true hlen
  refine wp_region_lit (wpAny_text ht l 0 (Array.replicate l.length false) a w (by simp) (by simp) (fun i hi => by simp [Array.getD_eq_getD_getElem?, hi]) ?_)
  have := wpAny_of_AnyR (Q' := fun x a' w' => ∃ e', Agr n a' e' ∧ Q x e' w') (fun a w ⟨e', h1, h2⟩ => ⟨e', h1, h2⟩) _ _ _ _ _ (Gr.refl _ w) hs
  rw [hl] at this
  simpa using this
theorem W_lx_draw {Q : Exit → Env → World → Prop} {id : Nat} {l : List Oper} {e : Env} {w : World} (hm : P.follows .mixedOrders = true) (M : Nat → Prop) (mf : Nat → Nat) (π : List (Nat × Kd))
    (hsel : Region.noSelect l.toArray = true) (hlen : Nat.beq π.length l.length = true) (hc : chk l.toArray mf (Array.replicate l.length false) π = true)
    (h : Lx P n l.toArray M (fun e w => Q .normal e w) π e w) : W P n (.region id l.toArray true) Q e w := by
  constructor
  intro a ha
  have hs := Lx_sound (mf := mf) hsel π _ e w a hc h ha
  have hl : π.length = l.length := Nat.eq_of_beq_eq_true hlen
  refine wp_region_any hm ?_
  have := wpAny_of_AnyR (Q' := fun x a' w' => ∃ e', Agr n a' e' ∧ Q x e' w') (fun a w ⟨e', h1, h2⟩ => ⟨e', h1, h2⟩) _ _ _ _ _ (Ext.drew w) hs
  rw [hl] at this
  simpa using this
end
end Go.Proofs.YthjdhfoeckfmbaaGreat
namespace Go.Proofs.YthjdhfoeckfmbaaGreat
open Go
set_option linter.unusedVariables false
set_option linter.unusedSimpArgs false
set_option linter.unusedSectionVars false
variable [DD]
abbrev Chs := List (List Value)
abbrev aggOf (cs : Chs) : Value := .agg cs.flatten.toArray
def lenTo (cs : Chs) (k : Nat) : Nat := ((cs.take k).flatten).length
theorem add_lit (b o n : Nat) : (⟨b, o, none⟩ : Addr).add n = ⟨b, o + n, none⟩ := by
  unfold Addr.add; split <;> simp_all
def At (w : World) (b o : Nat) (cs : List Value) : Prop := ∀ j v, cs[j]? = some v → w.cell? ⟨b, o + j, none⟩ = some v
theorem At.of_block {w w' : World} {b o : Nat} {cs : List Value} (h : At w b o cs) (hb : w'.heap[b]? = w.heap[b]?) : At w' b o cs :=
  fun j v hv => by rw [World.cell?_of_block (w := w) (a := ⟨b, o + j, none⟩) hb]; exact h j v hv
theorem At.sub {w : World} {b o : Nat} {cs : List Value} (h : At w b o cs) (k : Nat) (sub : List Value) (hs : ∀ j v, sub[j]? = some v → cs[k + j]? = some v) : At w b (o + k) sub :=
  fun j v hv => by rw [Nat.add_assoc]; exact h (k + j) v (hs j v hv)
theorem sub_of_append (pre mid post : List Value) : ∀ j v, mid[j]? = some v → (pre ++ (mid ++ post))[pre.length + j]? = some v := by
  intro j v hv
  rw [List.getElem?_append_right (by omega), show pre.length + j - pre.length = j from by omega]
  have := (List.getElem?_eq_some_iff.1 hv).1
  rw [List.getElem?_append_left this]
  exact hv
theorem At.chunks {w : World} {b o : Nat} {cs : Chs} (h : At w b o cs.flatten) (k m off oo : Nat) (sub : Chs) (hsub : (cs.drop k).take m = sub) (hoff : lenTo cs k = off) (hoo : o + off = oo) : At w b oo sub.flatten := by
  subst hsub hoff hoo
  refine h.sub _ _ ?_
  have e : cs.flatten = (cs.take k).flatten ++ (((cs.drop k).take m).flatten ++ ((cs.drop k).drop m).flatten) := by
    rw [← List.flatten_append, List.take_append_drop, ← List.flatten_append, List.take_append_drop]
  intro j v hv
  rw [e]
  exact sub_of_append _ _ _ j v hv
theorem At.one {w : World} {b o : Nat} {v : Value} (h : At w b o [v]) : w.cell? ⟨b, o, none⟩ = some v := by simpa using h 0 v rfl
theorem At_of_row {w : World} {b : Nat} {cs : List Value} {t : TypeId} {fr : Nat × Nat} (h : w.heap[b]? = some (.cells cs.toArray t fr)) : At w b 0 cs := by
  intro j v hv
  rw [cell_of_row w b (0 + j) cs.toArray t fr h]
  simpa using hv
structure Own where
  blk : Option Nat
  q : World → Prop
  loc : ∀ w w', (∀ b, blk = some b → w'.heap[b]? = w.heap[b]?) → q w → q w'
structure Imm where
  F : Nat → Prop
  p : World → Prop
  loc : ∀ w w', (∀ b, F b → w'.heap[b]? = w.heap[b]?) → p w → p w'
structure Ctx (w0 : World) (M : Nat → Prop) (w : World) (B : List Own) (I : List Imm) : Prop where
  gr : Gr M w0 w
  own : ∀ o ∈ B, o.q w ∧ ∀ b, o.blk = some b → b < w.heap.size ∧ (b < w0.heap.size → M b)
  imm : ∀ i ∈ I, i.p w ∧ ∀ b, i.F b → b < w.heap.size
  apart : B.Pairwise fun o o' => ∀ b, o.blk = some b → o'.blk ≠ some b
  off : ∀ o ∈ B, ∀ i ∈ I, ∀ b, o.blk = some b → ¬ i.F b
section
variable {w0 w w' : World} {M : Nat → Prop} {B : List Own} {I : List Imm}
theorem Ctx.start (w0 : World) (M : Nat → Prop) : Ctx w0 M w0 [] [] :=
  ⟨Gr.refl _ _, fun _ h => (nomatch h), fun _ h => (nomatch h), List.Pairwise.nil, fun _ h => (nomatch h)⟩
theorem Ctx.getOwn (h : Ctx w0 M w B I) (k : Nat) {o : Own} (hk : B[k]? = some o) : o.q w := (h.own o (List.mem_of_getElem? hk)).1
theorem Ctx.getImm (h : Ctx w0 M w B I) (k : Nat) {i : Imm} (hk : I[k]? = some i) : i.p w := (h.imm i (List.mem_of_getElem? hk)).1
theorem Ctx.ext (h : Ctx w0 M w B I) (hx : Ext w w') : Ctx w0 M w' B I where
  gr := h.gr.trans (Gr.ofExt hx)
  own := fun o ho => ⟨o.loc w w' (fun b hb => hx.block b ((h.own o ho).2 b hb).1 (fun hn => hn)) (h.own o ho).1,
    fun b hb => ⟨Nat.lt_of_lt_of_le ((h.own o ho).2 b hb).1 hx.size, ((h.own o ho).2 b hb).2⟩⟩
  imm := fun i hi => ⟨i.loc w w' (fun b hb => hx.block b ((h.imm i hi).2 b hb) (fun hn => hn)) (h.imm i hi).1,
    fun b hb => Nat.lt_of_lt_of_le ((h.imm i hi).2 b hb) hx.size⟩
  apart := h.apart
  off := h.off
theorem Ctx.addOwn (h : Ctx w0 M w B I) (hx : Ext w w') (o : Own) (hq : o.q w') (hb : ∀ b, o.blk = some b → w.heap.size ≤ b ∧ b < w'.heap.size) : Ctx w0 M w' (o :: B) I := by
  have h' := h.ext hx
  refine ⟨h'.gr, ?_, h'.imm, ?_, ?_⟩
  · intro o' ho'
    rcases List.mem_cons.1 ho' with rfl | ho'
    · exact ⟨hq, fun b hbb => ⟨(hb b hbb).2, fun hlt => by have := (hb b hbb).1; have := h.gr.size; omega⟩⟩
    · exact h'.own o' ho'
  · refine .cons (fun o' ho' b hbb hb' => ?_) h'.apart
    have := (h.own o' ho').2 b hb'
    have := (hb b hbb).1
    omega
  · intro o' ho' i hi b hbb hF
    rcases List.mem_cons.1 ho' with rfl | ho'
    · have := (h.imm i hi).2 b hF
      have := (hb b hbb).1
      omega
    · exact h'.off o' ho' i hi b hbb hF
theorem Ctx.addImm (h : Ctx w0 M w B I) (hx : Ext w w') (i : Imm) (hp : i.p w') (hF : ∀ b, i.F b → w.heap.size ≤ b ∧ b < w'.heap.size) : Ctx w0 M w' B (i :: I) := by
  have h' := h.ext hx
  refine ⟨h'.gr, h'.own, ?_, h'.apart, ?_⟩
  · intro i' hi'
    rcases List.mem_cons.1 hi' with rfl | hi'
    · exact ⟨hp, fun b hb => (hF b hb).2⟩
    · exact h'.imm i' hi'
  · intro o ho i' hi' b hbb hF'
    rcases List.mem_cons.1 hi' with rfl | hi'
    · have := (hF b hF').1
      have := (h.own o ho).2 b hbb
      omega
    · exact h'.off o ho i' hi' b hbb hF'
theorem Ctx.addImm' (h : Ctx w0 M w B I) (i : Imm) (hp : i.p w) (hF : ∀ b, i.F b → b < w.heap.size ∧ ∀ o ∈ B, o.blk ≠ some b) : Ctx w0 M w B (i :: I) := by
  refine ⟨h.gr, h.own, ?_, h.apart, ?_⟩
  · intro i' hi'
    rcases List.mem_cons.1 hi' with rfl | hi'
    · exact ⟨hp, fun b hb => (hF b hb).1⟩
    · exact h.imm i' hi'
  · intro o ho i' hi' b hbb hF'
    rcases List.mem_cons.1 hi' with rfl | hi'
    · exact (hF b hF').2 o ho hbb
    · exact h.off o ho i' hi' b hbb hF'
theorem Ctx.immOf (h : Ctx w0 M w B I) (k : Nat) {i0 : Imm} (hk : I[k]? = some i0) (i : Imm) (hF : ∀ b, i.F b → i0.F b) (hp : i0.p w → i.p w) : Ctx w0 M w B (i :: I) :=
  h.addImm' i (hp (h.getImm k hk)) fun b hb => ⟨(h.imm i0 (List.mem_of_getElem? hk)).2 b (hF b hb), fun o ho hob => h.off o ho i0 (List.mem_of_getElem? hk) b hob (hF b hb)⟩
theorem Ctx.sub (h : Ctx w0 M w B I) {B' : List Own} {I' : List Imm} (hB : B'.Sublist B) (hI : ∀ i ∈ I', i ∈ I) : Ctx w0 M w B' I' :=
  ⟨h.gr, fun o ho => h.own o (hB.subset ho), fun i hi => h.imm i (hI i hi), h.apart.sublist hB, fun o ho i hi => h.off o (hB.subset ho) i (hI i hi)⟩
theorem Ctx.upd (h : Ctx w0 M w B I) (k : Nat) {o : Own} (hk : B[k]? = some o) (o' : Own) (hg : Gr (fun b => o.blk = some b) w w') (hq : o'.q w')
    (hb : ∀ b, o'.blk = some b → o.blk = some b ∨ (w.heap.size ≤ b ∧ b < w'.heap.size)) : Ctx w0 M w' (B.set k o') I := by
  have hmem := List.mem_of_getElem? hk
  have hkl : k < B.length := (List.getElem?_eq_some_iff.1 hk).1
  have hko : B[k] = o := (List.getElem?_eq_some_iff.1 hk).2
  have hpw := List.pairwise_iff_getElem.1 h.apart
  have other : ∀ (j : Nat) (hj : j < B.length), j ≠ k → ∀ b, (B[j]).blk = some b → o.blk ≠ some b := by
    intro j hj hne b hb1 hb2
    rcases Nat.lt_or_gt_of_ne hne with hlt | hgt
    · exact hpw j k hj hkl hlt b hb1 (hko ▸ hb2)
    · exact hpw k j hkl hj hgt b (hko ▸ hb2) hb1
  have oneq : ∀ (j : Nat) (hj : j < B.length), j ≠ k → ∀ b, (B[j]).blk = some b → o'.blk ≠ some b := by
    intro j hj hne b hb1 hb2
    rcases hb b hb2 with h1 | ⟨h1, _⟩
    · exact other j hj hne b hb1 h1
    · have := ((h.own _ (List.getElem_mem hj)).2 b hb1).1
      omega
  refine ⟨?_, ?_, ?_, ?_, ?_⟩
  · refine ⟨hg.os.trans h.gr.os, hg.tape.trans h.gr.tape, hg.output.trans h.gr.output, Nat.le_trans h.gr.size hg.size, fun b hlt hm => ?_, fun d => Nat.le_trans (h.gr.drawn d) (hg.drawn d)⟩
    rw [hg.block b (Nat.lt_of_lt_of_le hlt h.gr.size) fun hob => hm (((h.own o hmem).2 b hob).2 hlt)]
    exact h.gr.block b hlt hm
  · intro x hx
    obtain ⟨j, hj, rfl⟩ := List.getElem_of_mem hx
    have hj' : j < B.length := by simpa using hj
    by_cases hjk : j = k
    · subst hjk
      simp only [List.getElem_set_self]
      refine ⟨hq, fun b hbb => ?_⟩
      rcases hb b hbb with h1 | ⟨h1, h2⟩
      · have := (h.own o hmem).2 b h1
        exact ⟨Nat.lt_of_lt_of_le this.1 hg.size, this.2⟩
      · exact ⟨h2, fun hlt => by have := h.gr.size; omega⟩
    · rw [List.getElem_set_ne (Ne.symm hjk)]
      have hm := List.getElem_mem hj'
      refine ⟨(B[j]).loc w w' (fun b hbb => hg.block b ((h.own _ hm).2 b hbb).1 (other j hj' hjk b hbb)) (h.own _ hm).1, fun b hbb => ?_⟩
      exact ⟨Nat.lt_of_lt_of_le ((h.own _ hm).2 b hbb).1 hg.size, ((h.own _ hm).2 b hbb).2⟩
  · intro i hi
    exact ⟨i.loc w w' (fun b hbb => hg.block b ((h.imm i hi).2 b hbb) (fun hob => h.off o hmem i hi b hob hbb)) (h.imm i hi).1,
      fun b hbb => Nat.lt_of_lt_of_le ((h.imm i hi).2 b hbb) hg.size⟩
  · rw [List.pairwise_iff_getElem]
    intro i j hi hj hij b hb1 hb2
    have hi' : i < B.length := by simpa using hi
    have hj' : j < B.length := by simpa using hj
    by_cases hik : i = k
    · subst hik
      rw [List.getElem_set_self] at hb1
      rw [List.getElem_set_ne (by omega)] at hb2
      exact oneq j hj' (by omega) b hb2 hb1
    · rw [List.getElem_set_ne (Ne.symm hik)] at hb1
      by_cases hjk : j = k
      · subst hjk
        rw [List.getElem_set_self] at hb2
        exact oneq i hi' hik b hb1 hb2
      · rw [List.getElem_set_ne (Ne.symm hjk)] at hb2
        exact hpw i j hi' hj' hij b hb1 hb2
  · intro x hx i hi b hbb hF
    obtain ⟨j, hj, rfl⟩ := List.getElem_of_mem hx
    have hj' : j < B.length := by simpa using hj
    by_cases hjk : j = k
    · subst hjk
      simp only [List.getElem_set_self] at hbb
      rcases hb b hbb with h1 | ⟨h1, h2⟩
      · exact h.off o hmem i hi b h1 hF
      · have := (h.imm i hi).2 b hF
        omega
    · rw [List.getElem_set_ne (Ne.symm hjk)] at hbb
      exact h.off _ (List.getElem_mem hj') i hi b hbb hF
end
end Go.Proofs.YthjdhfoeckfmbaaGreat
namespace Go.Proofs.YthjdhfoeckfmbaaGreat
open Go
set_option linter.unusedVariables false
set_option linter.unusedSimpArgs false
set_option linter.unusedSectionVars false
section
variable {P : Program} {ρ : Operand → Value} {w w' : World} {K : Value → World → Prop} {d : Option Tmp} {ty : TypeId} {pos : String} {af : Array Edge} {g : Option (Nat × Bool)}
theorem R_move {x : Operand} {v : Value} (hx : ρ x = v) (h : K v w) : Runs P ρ ⟨d, .move x, ty, pos, af, g⟩ w K :=
  .value (by simp [execOp, hx]) h
theorem R_assign {x : Operand} {v : Value} (hx : ρ x = v) (h : K v w) : Runs P ρ ⟨d, .assign x, ty, pos, af, g⟩ w K :=
  .value (by simp [execOp, hx]) h
theorem R_pick {c a b : Operand} {t : Bool} {v : Value} (hc : ρ c = .bool t) (hv : (if t then ρ a else ρ b) = v) (h : K v w) : Runs P ρ ⟨d, .pick c a b, ty, pos, af, g⟩ w K :=
  .value (by simp [execOp, hc, asBool, hv]) h
theorem R_extract {x : Operand} {i : Nat} {vs : Array Value} {v : Value} (hx : ρ x = .tuple vs) (hi : vs[i]? = some v) (h : K v w) : Runs P ρ ⟨d, .extract x i, ty, pos, af, g⟩ w K :=
  .value (by simp [execOp, hx, Instr.extract, hi]) h
theorem R_nilCheck {x : Operand} {a : Addr} (hx : ρ x = .pointer (some a)) (h : K (.pointer (some a)) w) : Runs P ρ ⟨d, .nilCheck x, ty, pos, af, g⟩ w K :=
  .value (by simp [execOp, hx]) h
theorem fieldPlace_run {f : Field} {b o off n : Nat} (hs : (sizeOf f.type).run P w = .ok (n + 1) w) (ho : f.offset = off) : (fieldPlace ⟨b, o, none⟩ f).run P w = .ok ⟨b, o + off, none⟩ w := by
  subst ho
  simp [fieldPlace, hs, add_lit]
theorem R_fieldAddr {s : TypeId} {x : Operand} {i b o oo off n : Nat} {fs : Array Field} {f : Field} (hu : P.underlying s = some (.struct fs)) (hf : fs[i]? = some f) (ho : f.offset = off)
    (hs : ∀ w, (sizeOf f.type).run P w = .ok (n + 1) w) (hx : ρ x = .pointer (some ⟨b, o, none⟩)) (hoo : o + off = oo) (h : K (.pointer (some ⟨b, oo, none⟩)) w) :
    Runs P ρ ⟨d, .fieldAddr s x i, ty, pos, af, g⟩ w K := by
  subst hoo
  exact .value (by simp [execOp, hx, Instr.fieldAt, run_underlying hu, hf, Instr.sureAddr, fieldPlace_run (hs w) ho]) h
theorem R_load1 {t : TypeId} {x : Operand} {b o : Nat} {v : Value} (ha : ∀ w, (isAgg t).run P w = .ok false w) (hx : ρ x = .pointer (some ⟨b, o, none⟩)) (hc : At w b o [v]) (h : K v w) :
    Runs P ρ ⟨d, .load t x, ty, pos, af, g⟩ w K :=
  .value (by simp [execOp, hx, Instr.loadAt, Instr.sureAddr, loadVar, ha, hc.one]) h
theorem R_loadA {t : TypeId} {x : Operand} {b o n : Nat} {cs : Chs} (ha : ∀ w, (isAgg t).run P w = .ok true w) (hs : ∀ w, (sizeOf t).run P w = .ok n w) (hn : cs.flatten.length = n)
    (hx : ρ x = .pointer (some ⟨b, o, none⟩)) (hc : At w b o cs.flatten) (h : K (aggOf cs) w) :
    Runs P ρ ⟨d, .load t x, ty, pos, af, g⟩ w K := by
  subst hn
  refine .value (v := aggOf cs) (w' := w) ?_ h
  have := run_loadCells_list (P := P) w ⟨b, o, none⟩ cs.flatten (fun j v hv => by rw [add_lit]; exact hc j v hv)
  simp [execOp, hx, Instr.loadAt, Instr.sureAddr, loadVar, ha, hs, -List.length_flatten, this]
theorem R_alloc {t : TypeId} {z : Value} (hz : ∀ w, (zeroValue t).run P w = .ok z w) (h : K (.pointer (some ⟨w.heap.size, 0, none⟩)) (w.alloc (.cells z.cells t))) :
    Runs P ρ ⟨d, .alloc t, ty, pos, af, g⟩ w K :=
  .value (by simp [execOp, Instr.alloc, hz, newVar, newRow]) h
theorem R_box {t : TypeId} {x : Operand} {v : Value} (hx : ρ x = v) (h : K (.pointer (some ⟨w.heap.size, 0, none⟩)) (w.alloc (.cells v.cells t))) :
    Runs P ρ ⟨d, .box t x, ty, pos, af, g⟩ w K :=
  .value (by simp [execOp, Instr.box, hx, newVar, newRow]) h
theorem R_len_slice {x : Operand} {a : Option Addr} {n c : Nat} {t e : TypeId} (hu : P.underlying t = some (.slice e)) (hx : ρ x = .slice a n c) (h : K (.int .i64 n) w) :
    Runs P ρ ⟨d, .call { callee := .builtin .len, args := #[x], argTypes := #[t] }, ty, pos, af, g⟩ w K :=
  .value (by simp [execOp, resolve, invoke, builtin, Builtin.len_, hx, goInt, run_underlying hu]) h
theorem R_len_string {x : Operand} {s : ByteArray} {t : TypeId} (hu : P.underlying t = some .string) (hx : ρ x = .string s) (h : K (.int .i64 s.size) w) :
    Runs P ρ ⟨d, .call { callee := .builtin .len, args := #[x], argTypes := #[t] }, ty, pos, af, g⟩ w K :=
  .value (by simp [execOp, resolve, invoke, builtin, Builtin.len_, hx, goInt, run_underlying hu]) h
theorem R_len_map {x : Operand} {r : Nat} {es : Array MapEntry} {ck : Nat} {t ke e : TypeId} (hu : P.underlying t = some (.map ke e)) (hx : ρ x = .map (some r)) (hm : w.heap[r]? = some (.map es ck)) (h : K (.int .i64 es.size) w) :
    Runs P ρ ⟨d, .call { callee := .builtin .len, args := #[x], argTypes := #[t] }, ty, pos, af, g⟩ w K :=
  .value (by simp [execOp, resolve, invoke, builtin, Builtin.len_, hx, goInt, run_underlying hu, getObj, Sem.run, hm]) h
theorem R_max2 {x y : Operand} {a b : Int} {k : IntKind} {at_ : Array TypeId} (hx : ρ x = .int k a) (hy : ρ y = .int k b) (h : K (.int k (max a b)) w) :
    Runs P ρ ⟨d, .call { callee := .builtin .max, args := #[x, y], argTypes := at_ }, ty, pos, af, g⟩ w K :=
  .value (by
    simp [execOp, resolve, invoke, builtin, Builtin.max_, hx, hy, Builtin.max2]
    omega) h
theorem R_min2 {x y : Operand} {a b : Int} {k : IntKind} {at_ : Array TypeId} (hx : ρ x = .int k a) (hy : ρ y = .int k b) (h : K (.int k (min a b)) w) :
    Runs P ρ ⟨d, .call { callee := .builtin .min, args := #[x, y], argTypes := at_ }, ty, pos, af, g⟩ w K :=
  .value (by
    simp [execOp, resolve, invoke, builtin, Builtin.min_, hx, hy, Builtin.min2]
    omega) h
def callable (P : Program) (k : FuncId) : Bool :=
  match P.funcs[k]? with
  | some fn => !(fn.name == "runtime.NumGoroutine") && fn.body.isSome
  | none => false
theorem R_call {f : Operand} {k : FuncId} {cap : Array Value} {args : Array Operand} {vs : Array Value} {at_ : Array TypeId} (hc : callable P k = true) (hf : ρ f = .func (.func k) #[] cap) (hv : args.map ρ = vs)
    (h : Calls P k (vs ++ cap) w (fun x w' => ∃ v, x = .returned v ∧ K v w')) :
    Runs P ρ ⟨d, .call { callee := .value f, args, argTypes := at_ }, ty, pos, af, g⟩ w K := by
  unfold callable at hc
  cases hk : P.funcs[k]? with
  | none => rw [hk] at hc; cases hc
  | some fn =>
    rw [hk] at hc
    simp only [Bool.and_eq_true, Bool.not_eq_true'] at hc
    have hb : fn.body.isNone = false := by cases hfb : fn.body <;> simp_all
    unfold Runs
    have e1 : (callFunc k (vs ++ cap)).run P w = .ok (.enter k (vs ++ cap)) w := by
      simp only [callFunc, Sem.run_bind, run_program, Result.andThen_ok, hk, hc.1, hb, Bool.false_eq_true, if_false, Sem.run_pure]
    have : (execOp ρ ⟨d, .call { callee := .value f, args, argTypes := at_ }, ty, pos, af, g⟩).run P w = .ok (.enter k (vs ++ cap)) w := by
      simp only [execOp, resolve, hf, Deferred.ofValue, hv]
      simp only [Sem.run_bind, Sem.run_pure, Result.andThen_ok, invoke, List.append_toArray, Array.empty_append]
      exact e1
    rw [this]
    exact h
theorem R_makeFunc {k : FuncId} {cap : Array Operand} {vs : Array Value} (hv : cap.map ρ = vs) (h : K (.func (.func k) #[] vs) w) :
    Runs P ρ ⟨d, .makeFunc (.func k) #[] cap, ty, pos, af, g⟩ w K :=
  .value (by simp [execOp, Instr.makeFunc, ← hv]) h
theorem run_eqGuard_int {op : BinOp} {t : TypeId} {x y : Operand} {k k' : IntKind} {a b : Int} : (eqGuard op t x y (.int k a) (.int k' b)).run P w = .ok () w := by
  cases op <;> simp [eqGuard]
theorem run_eqGuard_str {op : BinOp} {t : TypeId} {x y : Operand} {a b : ByteArray} : (eqGuard op t x y (.string a) (.string b)).run P w = .ok () w := by
  cases op <;> simp [eqGuard]
theorem run_eqGuard_slice {op : BinOp} {t : TypeId} {x y : Operand} {a b : Option Addr} {n c n' c' : Nat} : (eqGuard op t x y (.slice a n c) (.slice b n' c')).run P w = .ok () w := by
  cases op <;> simp [eqGuard]
def cmpI : BinOp → Int → Int → Option Bool
  | .eql, a, b => some (decide (a = b))
  | .neq, a, b => some (!decide (a = b))
  | .lss, a, b => some (decide (a < b))
  | .leq, a, b => some (decide (a ≤ b))
  | .gtr, a, b => some (decide (b < a))
  | .geq, a, b => some (decide (b ≤ a))
  | _, _, _ => none
theorem R_cmp {op : BinOp} {t yt : TypeId} {x y : Operand} {k : IntKind} {a b : Int} {r : Bool} (hx : ρ x = .int k a) (hy : ρ y = .int k b) (hr : cmpI op a b = some r) (h : K (.bool r) w) :
    Runs P ρ ⟨d, .binOp op t x y yt, ty, pos, af, g⟩ w K := by
  refine .value (v := .bool r) (w' := w) ?_ h
  simp only [execOp, hx, hy, Sem.run_bind, run_eqGuard_int, Result.andThen_ok]
  cases op <;> simp only [cmpI, Option.some.injEq, reduceCtorEq] at hr <;> subst hr <;> simp [binOp, Op.intCmp, bne, BEq.beq]
def arI : BinOp → Int → Int → Option Int
  | .add, a, b => some (a + b)
  | .sub, a, b => some (a - b)
  | .mul, a, b => some (a * b)
  | _, _, _ => none
theorem R_arith {op : BinOp} {t yt : TypeId} {x y : Operand} {k : IntKind} {a b r0 r : Int} (hx : ρ x = .int k a) (hy : ρ y = .int k b) (hr0 : arI op a b = some r0) (hr : k.wrap r0 = r) (h : K (.int k r) w) :
    Runs P ρ ⟨d, .binOp op t x y yt, ty, pos, af, g⟩ w K := by
  refine .value (v := .int k r) (w' := w) ?_ h
  simp only [execOp, hx, hy, Sem.run_bind, run_eqGuard_int, Result.andThen_ok]
  cases op <;> simp only [arI, Option.some.injEq, reduceCtorEq] at hr0 <;> subst hr0 <;> subst hr <;> simp [binOp, Op.intArith]
def bitI (k : IntKind) : BinOp → Int → Int → Option Int
  | .and, a, b => some (k.wrap (BitVec.ofInt k.bits a &&& BitVec.ofInt k.bits b).toNat)
  | .or, a, b => some (k.wrap (BitVec.ofInt k.bits a ||| BitVec.ofInt k.bits b).toNat)
  | .xor, a, b => some (k.wrap (BitVec.ofInt k.bits a ^^^ BitVec.ofInt k.bits b).toNat)
  | .andNot, a, b => some (k.wrap (BitVec.ofInt k.bits a &&& ~~~BitVec.ofInt k.bits b).toNat)
  | _, _, _ => none
theorem R_bits {op : BinOp} {t yt : TypeId} {x y : Operand} {k : IntKind} {a b r : Int} (hx : ρ x = .int k a) (hy : ρ y = .int k b) (hr : bitI k op a b = some r) (h : K (.int k r) w) :
    Runs P ρ ⟨d, .binOp op t x y yt, ty, pos, af, g⟩ w K := by
  refine .value (v := .int k r) (w' := w) ?_ h
  simp only [execOp, hx, hy, Sem.run_bind, run_eqGuard_int, Result.andThen_ok]
  cases op <;> simp only [bitI, Option.some.injEq, reduceCtorEq] at hr <;> subst hr <;> simp [binOp, Op.intBits]
theorem R_shl {t yt : TypeId} {x y : Operand} {k yk : IntKind} {a b r : Int} (hx : ρ x = .int k a) (hy : ρ y = .int yk b) (hb : 0 ≤ b) (hr : k.wrap (a * 2 ^ min b.toNat k.bits) = r) (h : K (.int k r) w) :
    Runs P ρ ⟨d, .binOp .shl t x y yt, ty, pos, af, g⟩ w K := by
  refine .value (v := .int k r) (w' := w) ?_ h
  subst hr
  have : ¬ b < 0 := by omega
  simp [execOp, hx, hy, run_eqGuard_int, binOp, Op.shift, this]
theorem R_shr {t yt : TypeId} {x y : Operand} {k yk : IntKind} {a b r : Int} (hx : ρ x = .int k a) (hy : ρ y = .int yk b) (hb : 0 ≤ b) (hr : a.fdiv (2 ^ min b.toNat k.bits) = r) (h : K (.int k r) w) :
    Runs P ρ ⟨d, .binOp .shr t x y yt, ty, pos, af, g⟩ w K := by
  refine .value (v := .int k r) (w' := w) ?_ h
  subst hr
  have : ¬ b < 0 := by omega
  simp [execOp, hx, hy, run_eqGuard_int, binOp, Op.shift, this]
theorem beq_bytes (a b : ByteArray) : (a.toList == b.toList) = decide (a = b) := by
  rw [ByteArray.toList_eq, ByteArray.toList_eq]
  obtain ⟨⟨x⟩⟩ := a
  obtain ⟨⟨y⟩⟩ := b
  simp only [ByteArray.mk.injEq, Array.mk.injEq]
  by_cases h : x = y
  · subst h; simp
  · simp [h]
def cmpS : BinOp → ByteArray → ByteArray → Option Bool
  | .eql, a, b => some (decide (a = b))
  | .neq, a, b => some (!decide (a = b))
  | .lss, a, b => some (Op.bytesLess a.toList b.toList)
  | .gtr, a, b => some (!(Op.bytesLess a.toList b.toList || decide (a = b)))
  | _, _, _ => none
theorem R_cmpS {op : BinOp} {t yt : TypeId} {x y : Operand} {a b : ByteArray} {r : Bool} (hx : ρ x = .string a) (hy : ρ y = .string b) (hr : cmpS op a b = some r) (h : K (.bool r) w) :
    Runs P ρ ⟨d, .binOp op t x y yt, ty, pos, af, g⟩ w K := by
  refine .value (v := .bool r) (w' := w) ?_ h
  simp only [execOp, hx, hy, Sem.run_bind, run_eqGuard_str, Result.andThen_ok]
  cases op <;> simp only [cmpS, Option.some.injEq, reduceCtorEq] at hr <;> subst hr <;> simp [binOp, Op.stringOp, ← beq_bytes]
theorem R_not {t : TypeId} {x : Operand} {a : Bool} (hx : ρ x = .bool a) (h : K (.bool (!a)) w) : Runs P ρ ⟨d, .unOp .not t x, ty, pos, af, g⟩ w K :=
  .value (by simp [execOp, hx, Op.unary]) h
theorem R_slice_nil {t yt e : TypeId} {x y : Operand} {a : Option Addr} {n c : Nat} (hu : P.underlying t = some (.slice e)) (hx : ρ x = .slice a n c) (hy : ρ y = .slice none 0 0) (h : K (.bool a.isNone) w) :
    Runs P ρ ⟨d, .binOp .eql t x y yt, ty, pos, af, g⟩ w K := by
  refine .value (v := .bool a.isNone) (w' := w) ?_ h
  simp only [execOp, hx, hy, Sem.run_bind, run_eqGuard_slice, Result.andThen_ok, binOp, run_equal_slice_nil w t e a n c hu, Sem.run_pure]
theorem R_conv_int {s t : TypeId} {x : Operand} {k k' : IntKind} {a r : Int} {ds : TypeDesc} (hs : P.underlying s = some ds) (ht : P.underlying t = some (.int k)) (hx : ρ x = .int k' a) (hr : k.wrap a = r) (h : K (.int k r) w) :
    Runs P ρ ⟨d, .convert s t x, ty, pos, af, g⟩ w K :=
  .value (by subst hr; simp [execOp, hx, convert, run_underlying hs, run_underlying ht, Conv.intToInt]) h
theorem R_index_slice {t e : TypeId} {x i : Operand} {b o n c k oo : Nat} {j : Int} {kk : IntKind} (hu : P.underlying t = some (.slice e)) (hs : ∀ w, (sizeOf e).run P w = .ok k w)
    (hx : ρ x = .slice (some ⟨b, o, none⟩) n c) (hi : ρ i = .int kk j) (h0 : 0 ≤ j) (h1 : j < n) (hoo : o + j.toNat * k = oo) (h : K (.pointer (some ⟨b, oo, none⟩)) w) :
    Runs P ρ ⟨d, .indexAddr t x i, ty, pos, af, g⟩ w K := by
  subst hoo
  exact .value (by simp [execOp, hx, hi, Instr.indexAt, asIntOf, run_underlying hu, h0, h1, hs, add_lit]) h
theorem R_index_array {t e : TypeId} {x i : Operand} {b o n k oo : Nat} {j : Int} {kk : IntKind} (hu : P.underlying t = some (.array n e)) (hs : ∀ w, (sizeOf e).run P w = .ok k w)
    (hx : ρ x = .pointer (some ⟨b, o, none⟩)) (hi : ρ i = .int kk j) (h0 : 0 ≤ j) (h1 : j < n) (hoo : o + j.toNat * k = oo) (h : K (.pointer (some ⟨b, oo, none⟩)) w) :
    Runs P ρ ⟨d, .indexAddr t x i, ty, pos, af, g⟩ w K := by
  subst hoo
  exact .value (by simp [execOp, hx, hi, Instr.indexAt, asIntOf, run_underlying hu, h0, h1, hs, add_lit, Instr.sureAddr]) h
theorem R_index_str {t : TypeId} {x i : Operand} {s : ByteArray} {j : Int} {kk : IntKind} (hu : P.underlying t = some .string) (hx : ρ x = .string s) (hi : ρ i = .int kk j) (h0 : 0 ≤ j) (h1 : j < s.size)
    (h : K (.int .u8 ((s[j.toNat]?.getD 0).toNat : Int)) w) : Runs P ρ ⟨d, .index t x i, ty, pos, af, g⟩ w K := by
  have hl : j.toNat < s.size := by omega
  refine .value (w' := w) ?_ h
  simp [execOp, hx, hi, Instr.index, asIntOf, run_underlying hu, h0, getElem?_pos s j.toNat hl]
def optI (ρ : Operand → Value) : Option Operand → Nat → Nat → Prop
  | none, r, dflt => r = dflt
  | some x, r, _ => ρ x = .int .i64 (r : Int)
theorem run_sliceBound {x : Value} {r y : Nat} {code : BoundsCode} (hx : x = .int .i64 (r : Int)) (hr : r ≤ y) : (Instr.sliceBound x y code).run P w = .ok r w := by
  subst hx
  have h2 : (r : Int) ≤ (y : Int) := by omega
  simp [Instr.sliceBound, asIntOf, h2]
theorem run_sliceBounds {isS : Bool} {len cap l hh m : Nat} {lo hi mx : Option Operand} (hl : optI ρ lo l 0) (hhi : optI ρ hi hh len) (hm : optI ρ mx m cap) (hn : mx.isSome = true → hi.isSome = true)
    (h1 : l ≤ hh) (h2 : hh ≤ m) (h3 : m ≤ cap) :
    (Instr.sliceBounds isS len cap (lo.map ρ) (hi.map ρ) (mx.map ρ)).run P w = .ok (l, hh, m) w := by
  have b1 : ∀ {x : Operand} {code : BoundsCode}, ρ x = .int .i64 (m : Int) → (Instr.sliceBound (ρ x) cap code).run P w = .ok m w := fun hx => run_sliceBound hx h3
  have b2 : ∀ {x : Operand} {code : BoundsCode}, ρ x = .int .i64 (hh : Int) → (Instr.sliceBound (ρ x) m code).run P w = .ok hh w := fun hx => run_sliceBound hx h2
  have b3 : ∀ {x : Operand} {code : BoundsCode}, ρ x = .int .i64 (l : Int) → (Instr.sliceBound (ρ x) hh code).run P w = .ok l w := fun hx => run_sliceBound hx h1
  unfold Instr.sliceBounds
  cases lo <;> cases hi <;> cases mx <;> simp only [optI] at hl hhi hm <;> first
    | (cases (hn rfl); done)
    | (try subst hl
       try subst hhi
       try subst hm
       simp only [Option.map_some, Option.map_none, Sem.run_bind, Sem.run_pure, Result.andThen_ok]
       repeat (first | rw [b1 hm, Result.andThen_ok] | rw [b2 hhi, Result.andThen_ok] | rw [b3 hl, Result.andThen_ok]))
theorem R_slice {t e : TypeId} {x : Operand} {a : Option Addr} {len cap l hh m k : Nat} {lo hi mx : Option Operand} {a' : Option Addr} (hu : P.underlying t = some (.slice e)) (hs : ∀ w, (sizeOf e).run P w = .ok k w)
    (hx : ρ x = .slice a len cap) (hl : optI ρ lo l 0) (hhi : optI ρ hi hh len) (hm : optI ρ mx m cap) (hn : mx.isSome = true → hi.isSome = true) (h1 : l ≤ hh) (h2 : hh ≤ m) (h3 : m ≤ cap)
    (ha' : (if m = l then a else a.map (·.add (l * k))) = a') (h : K (.slice a' (hh - l) (m - l)) w) :
    Runs P ρ ⟨d, .slice t x lo hi mx, ty, pos, af, g⟩ w K := by
  subst ha'
  refine .value (w' := w) ?_ h
  simp [execOp, hx, Instr.sliceAt, Instr.slice, run_underlying hu, run_sliceBounds hl hhi hm hn h1 h2 h3, hs]
end
end Go.Proofs.YthjdhfoeckfmbaaGreat
namespace Go.Proofs.YthjdhfoeckfmbaaGreat
open Go
set_option linter.unusedVariables false
set_option linter.unusedSimpArgs false
set_option linter.unusedSectionVars false
variable [DD]
def envL : List (Nat × Value) → Env → Env
  | [], e => e
  | (d, v) :: r, e => upd (envL r e) d v
def AllEq (e : Env) : List (Nat × Value) → Prop
  | [] => True
  | (d, v) :: r => e d = v ∧ AllEq e r
theorem envL_self {e : Env} : ∀ {L : List (Nat × Value)}, AllEq e L → e = envL L e
  | [], _ => rfl
  | (d, v) :: r, h => by
    have hr := envL_self h.2
    show e = upd (envL r e) d v
    rw [← hr]
    exact (upd_self h.1).symm
section
variable {P : Program} {n : Nat} {ops : Array Oper} {M : Nat → Prop} {Q : Env → World → Prop} {e : Env} {w wc : World} {rest : List (Nat × Kd)}
theorem Lx_nil (h : ∀ w, Ext wc w → Q e w) : Lx P n ops M Q [] e wc := h
theorem Lx_q {i : Nat} {wk : Nat} {d : Nat} {op : Op} {ty : TypeId} {pos : String} {af : Array Edge} (ho : ops[i]? = some ⟨some d, op, ty, pos, af, none⟩) (hd : Nat.blt d n = true) (v : Value)
    (h : ∀ w, GrF M wk wc w → Runs P (evalE e) ⟨some d, op, ty, pos, af, none⟩ w (fun v' w' => v' = v ∧ Ext w w')) (k : Lx P n ops M Q rest (upd e d v) wc) : Lx P n ops M Q ((i, .q wk) :: rest) e wc :=
  ⟨_, ho, hd, v, by rw [if_pos (show wantE ops e ⟨some d, op, ty, pos, af, none⟩ = true from rfl)]; exact h, k⟩
theorem Lx_c {i : Nat} {mu : Nat} {d : Nat} {op : Op} {ty : TypeId} {pos : String} {af : Array Edge} (ho : ops[i]? = some ⟨some d, op, ty, pos, af, none⟩) (hd : Nat.blt d n = true)
    (h : ∀ w, Ext wc w → Runs P (evalE e) ⟨some d, op, ty, pos, af, none⟩ w (fun v w' => GrF M mu w w' ∧ Lx P n ops M Q rest (upd e d v) w')) : Lx P n ops M Q ((i, .c mu) :: rest) e wc :=
  ⟨_, ho, hd, fun w hw => by rw [if_pos (show wantE ops e ⟨some d, op, ty, pos, af, none⟩ = true from rfl)]; exact h w hw⟩
theorem Lx_cu {i : Nat} {mu : Nat} {op : Op} {ty : TypeId} {pos : String} {af : Array Edge} (ho : ops[i]? = some ⟨none, op, ty, pos, af, none⟩)
    (h : ∀ w, Ext wc w → Runs P (evalE e) ⟨none, op, ty, pos, af, none⟩ w (fun _ w' => GrF M mu w w' ∧ Lx P n ops M Q rest e w')) : Lx P n ops M Q ((i, .c mu) :: rest) e wc :=
  ⟨_, ho, rfl, fun w hw => by rw [if_pos (show wantE ops e ⟨none, op, ty, pos, af, none⟩ = true from rfl)]; exact h w hw⟩
abbrev gv (c : Bool) (v : Value) : Value := cond c v undef
theorem gv_t {c : Bool} {v : Value} (h : c = true) : gv c v = v := by subst h; rfl
theorem Lx_qg {i : Nat} {wk : Nat} {d : Nat} {op : Op} {ty : TypeId} {pos : String} {af : Array Edge} {j dj : Nat} {b : Bool} {oj : Oper} (c x : Bool)
    (ho : ops[i]? = some ⟨some d, op, ty, pos, af, some (j, b)⟩) (hj : ops[j]? = some oj) (hdj : oj.dst = some dj) (hx : e dj = gv c (.bool x)) (hd : Nat.blt d n = true) (a : Bool) (ha : a = (c && (x == b))) (v : Value)
    (h : a = true → ∀ w, GrF M wk wc w → Runs P (evalE e) ⟨some d, op, ty, pos, af, some (j, b)⟩ w (fun v' w' => v' = v ∧ Ext w w')) (k : Lx P n ops M Q rest (upd e d (gv a v)) wc) : Lx P n ops M Q ((i, .q wk) :: rest) e wc := by
  have hw : wantE ops e ⟨some d, op, ty, pos, af, some (j, b)⟩ = a := by
    simp only [wantE, hj, Option.bind_some, hdj, hx]
    subst ha
    cases c
    · rfl
    · rfl
  refine ⟨_, ho, hd, gv a v, ?_, k⟩
  rw [hw]
  cases a with
  | true => rw [if_pos rfl]; exact h rfl
  | false => rfl
end
def boxR (b : Nat) (t : TypeId) (cs : Chs) : Own where
  blk := some b
  q w := w.heap[b]? = some (.cells cs.flatten.toArray t (0, 0))
  loc w w' h hq := by rw [h b rfl]; exact hq
theorem boxR.at {b : Nat} {t : TypeId} {cs : Chs} {w : World} (h : (boxR b t cs).q w) : At w b 0 cs.flatten := At_of_row h
structure SlH where
  a : Option Addr
  b : Nat
  o : Nat
  c : Nat
  deriving Inhabited
def nilH : SlH := ⟨none, 0, 0, 0⟩
abbrev slV {α : Type} (h : SlH) (l : List α) : Value := .slice h.a l.length h.c
structure Sl {α : Type} (F : Nat → Prop) (enc : α → Chs) (k : Nat) (h : SlH) (l : List α) (w : World) : Prop where
  cap : l.length ≤ h.c
  max : h.c ≤ maxLen
  there : 0 < l.length → h.a = some ⟨h.b, h.o, none⟩ ∧ F h.b
  cells : ∀ i x, l[i]? = some x → At w h.b (h.o + i * k) (enc x).flatten
section
variable {α : Type} {F : Nat → Prop} {enc : α → Chs} {k : Nat} {h : SlH} {l : List α} {w w' : World}
theorem Sl.local (s : Sl F enc k h l w) (hb : ∀ b, F b → w'.heap[b]? = w.heap[b]?) : Sl F enc k h l w' :=
  ⟨s.cap, s.max, s.there, fun i x hx => (s.cells i x hx).of_block (hb h.b (s.there (by have := (List.getElem?_eq_some_iff.1 hx).1; omega)).2)⟩
theorem Sl.mono {F' : Nat → Prop} (s : Sl F enc k h l w) (hF : ∀ b, F b → F' b) : Sl F' enc k h l w :=
  ⟨s.cap, s.max, fun hl => ⟨(s.there hl).1, hF _ (s.there hl).2⟩, s.cells⟩
theorem Sl.len (s : Sl F enc k h l w) : l.length ≤ 9223372036854775807 := Nat.le_trans s.cap s.max
theorem Sl.nil (F : Nat → Prop) (enc : α → Chs) (k : Nat) (w : World) : Sl F enc k nilH [] w :=
  ⟨by simp, by simp [nilH, maxLen], by simp, by simp⟩
def slI (F : Nat → Prop) (enc : α → Chs) (k : Nat) (h : SlH) (l : List α) : Imm where
  F := F
  p := Sl F enc k h l
  loc w w' h hp := hp.local h
def deepI {β : Type} (F : Nat → Prop) (enc : β → Chs) (k : Nat) (h : α → SlH) (f : α → List β) (l : List α) : Imm where
  F := F
  p w := ∀ x ∈ l, Sl F enc k (h x) (f x) w
  loc w w' hb hp x hx := (hp x hx).local hb
def Old (w : World) : Nat → Prop := fun b => b < w.heap.size
theorem Ctx.sl {w0 : World} {M : Nat → Prop} {B : List Own} {I : List Imm} (H : Ctx w0 M w B I) (j : Nat) (hj : I[j]? = some (slI F enc k h l)) : Sl F enc k h l w := H.getImm j hj
theorem Ctx.slOld {w0 : World} {M : Nat → Prop} {B : List Own} {I : List Imm} (H : Ctx w0 M w B I) (j : Nat) (hj : I[j]? = some (slI F enc k h l)) : Sl (Old w) enc k h l w :=
  (H.sl j hj).mono fun b hb => (H.imm _ (List.mem_of_getElem? hj)).2 b hb
theorem Ctx.deepOld {β : Type} {enc : β → Chs} {h : α → SlH} {f : α → List β} {w0 : World} {M : Nat → Prop} {B : List Own} {I : List Imm} (H : Ctx w0 M w B I) (j : Nat) (hj : I[j]? = some (deepI F enc k h f l)) :
    ∀ x ∈ l, Sl (Old w) enc k (h x) (f x) w :=
  fun x hx => (H.getImm j hj x hx).mono fun b hb => (H.imm _ (List.mem_of_getElem? hj)).2 b hb
theorem Ctx.addSl {w0 : World} {M : Nat → Prop} {B : List Own} {I : List Imm} (H : Ctx w0 M w B I) (F : Nat → Prop) (s : Sl F enc k h l w) (hF : ∀ b, F b → b < w.heap.size ∧ ∀ o ∈ B, o.blk ≠ some b) : Ctx w0 M w B (slI F enc k h l :: I) :=
  H.addImm' (slI F enc k h l) s hF
def nth [Inhabited α] (l : List α) (i : Nat) : α := l.getD i default
theorem nth_some [Inhabited α] {l : List α} {i : Nat} (h : i < l.length) : l[i]? = some (nth l i) := by
  simp [nth, List.getElem?_eq_getElem h]
theorem nth_eq [Inhabited α] {l : List α} {i : Nat} (h : i < l.length) : nth l i = l[i] := by
  simp [nth, List.getElem?_eq_getElem h]
theorem nth_mem [Inhabited α] {l : List α} {i : Nat} (h : i < l.length) : nth l i ∈ l := by
  rw [nth_eq h]; exact List.getElem_mem h
theorem Sl.elem [Inhabited α] (s : Sl F enc k h l w) {i oo : Nat} (hi : i < l.length) (hoo : h.o + i * k = oo) : At w h.b oo (enc (nth l i)).flatten := by
  subst hoo; exact s.cells i _ (nth_some hi)
theorem own_sl {base : Nat} {t : TypeId} {v : Value} (hq : w.ownsRow base t k v l.length ((l.map fun x => (enc x).flatten).flatten)) (hk : ∀ x, (enc x).flatten.length = k) :
    ∃ h, v = slV h l ∧ Sl (fun b => v.ownBlock = some b) enc k h l w := by
  rcases hq.2 with ⟨rfl, h0⟩ | ⟨g, cap, cur, rfl, _, hg, hn, hc, hs, ht⟩
  · have : l = [] := List.eq_nil_of_length_eq_zero h0
    subst this
    exact ⟨nilH, rfl, by simp, by simp [nilH, maxLen], by simp, by simp⟩
  · refine ⟨⟨_, g, 0, cap⟩, rfl, hn, hc, fun _ => ⟨rfl, rfl⟩, fun i x hx => ?_⟩
    intro j v hv
    have hil : i < l.length := (List.getElem?_eq_some_iff.1 hx).1
    have hjl : j < k := by rw [← hk x]; exact (List.getElem?_eq_some_iff.1 hv).1
    rw [cell_of_row w g _ cur t _ hg]
    have e : ((l.map fun x => (enc x).flatten).flatten)[i * k + j]? = some v := by
      clear ht hs hc hn hg hq
      induction l generalizing i with
      | nil => simp at hil
      | cons y l ih =>
        simp only [List.map_cons, List.flatten_cons]
        cases i with
        | zero =>
          simp only [List.getElem?_cons_zero, Option.some.injEq] at hx
          subst hx
          rw [Nat.zero_mul, Nat.zero_add, List.getElem?_append_left (by rw [hk]; exact hjl)]
          exact hv
        | succ i =>
          have h1 : (i + 1) * k + j = k + (i * k + j) := by rw [Nat.add_mul]; omega
          rw [h1, List.getElem?_append_right (by rw [hk]; omega), hk, show k + (i * k + j) - k = i * k + j from by omega]
          exact ih i (by simpa using hx) (by simpa using hil)
    rw [← ht, List.getElem?_take] at e
    split at e
    · simpa [Nat.zero_add] using e
    · cases e
end
abbrev cellsOf {α : Type} (enc : α → Chs) (l : List α) : List Value := (l.map fun x => (enc x).flatten).flatten
theorem cellsOf_len {α : Type} {enc : α → Chs} {k : Nat} (hk : ∀ x, (enc x).flatten.length = k) : ∀ (l : List α), (cellsOf enc l).length = l.length * k
  | [] => by simp
  | y :: ys => by
    have := cellsOf_len hk ys
    simp only [cellsOf] at this
    simp only [cellsOf, List.map_cons, List.flatten_cons, List.length_append, hk, this, List.length_cons, Nat.add_mul]; omega
def OwnS {α : Type} (base : Nat) (t : TypeId) (size : Nat) (enc : α → Chs) (h : SlH) (l : List α) (w : World) : Prop :=
  w.ownsRow base t size (slV h l) l.length (cellsOf enc l) ∧ ∀ ad, h.a = some ad → ad = ⟨h.b, h.o, none⟩
def rowR {α : Type} (t : TypeId) (size : Nat) (enc : α → Chs) (h : SlH) (l : List α) : Own where
  blk := (slV h l).ownBlock
  q := OwnS 0 t size enc h l
  loc w w' hb hq := by
    refine ⟨⟨hq.1.1, ?_⟩, hq.2⟩
    rcases hq.1.2 with hn | ⟨g, cap, cur, hv, hb0, hg, r⟩
    · exact .inl hn
    · exact .inr ⟨g, cap, cur, hv, hb0, by rw [hb g (by rw [hv]; rfl)]; exact hg, r⟩
section
variable {α : Type} {enc : α → Chs} {k : Nat} {h : SlH} {l : List α} {w w' w0 : World} {t : TypeId} {M : Nat → Prop} {B : List Own} {I : List Imm}
theorem OwnS.of {base : Nat} {v : Value} {n : Nat} (hq : w.ownsRow base t k v n (cellsOf enc l)) (hn : n = l.length) : ∃ h, v = slV h l ∧ OwnS base t k enc h l w := by
  subst hn
  rcases hq.2 with ⟨hv, h0⟩ | ⟨g, cap, cur, hv, r⟩
  · have : l = [] := List.eq_nil_of_length_eq_zero h0
    subst this
    exact ⟨nilH, hv, by rw [← show v = slV nilH ([] : List α) from hv]; exact hq, by simp [nilH]⟩
  · exact ⟨⟨some ⟨g, 0, none⟩, g, 0, cap⟩, hv, by rw [← show v = slV ⟨some ⟨g, 0, none⟩, g, 0, cap⟩ l from hv]; exact hq, by simp⟩
theorem OwnS.base {base : Nat} (hq : OwnS base t k enc h l w) : OwnS 0 t k enc h l w := by
  refine ⟨⟨hq.1.1, ?_⟩, hq.2⟩
  rcases hq.1.2 with hn | ⟨g, cap, cur, hv, hb0, r⟩
  · exact .inl hn
  · exact .inr ⟨g, cap, cur, hv, Nat.zero_le _, r⟩
theorem OwnS.sl {base : Nat} (hq : OwnS base t k enc h l w) (hk : ∀ x, (enc x).flatten.length = k) : Sl (fun b => (slV h l).ownBlock = some b) enc k h l w := by
  rcases hq.1.2 with ⟨hv, h0⟩ | ⟨g, cap, cur, hv, _, hg, hn, hc, hs, ht⟩
  · have : l = [] := List.eq_nil_of_length_eq_zero h0
    subst this
    simp only [slV, Value.slice.injEq] at hv
    exact ⟨by simp, by rw [hv.2.2]; simp [maxLen], by simp, by simp⟩
  · simp only [slV, Value.slice.injEq, true_and] at hv
    obtain ⟨ha, hcc⟩ := hv
    have hb := hq.2 _ ha
    simp only [Addr.mk.injEq] at hb
    obtain ⟨hb1, hb2, _⟩ := hb
    have hq' : w.ownsRow base t k (.slice (some ⟨g, 0, none⟩) l.length cap) l.length (cellsOf enc l) := ⟨hq.1.1, .inr ⟨g, cap, cur, rfl, by assumption, hg, hn, hc, hs, ht⟩⟩
    obtain ⟨h', e, s⟩ := own_sl hq' hk
    simp only [slV, Value.slice.injEq, true_and] at e
    refine ⟨hcc ▸ hn, hcc ▸ hc, fun _ => ⟨by rw [ha, hb1, hb2], by rw [slV, ha]; simp [Value.ownBlock, hb1]⟩, fun i x hx => ?_⟩
    have hpos : 0 < l.length := by have := (List.getElem?_eq_some_iff.1 hx).1; omega
    have := (s.there hpos).1
    rw [← e.1] at this
    simp only [Option.some.injEq, Addr.mk.injEq] at this
    have hc' := s.cells i x hx
    rw [← this.1, ← this.2.1, hb1, hb2] at hc'
    exact hc'
theorem Ctx.addRow (H : Ctx w0 M w B I) (hx : Ext w w') (hq : OwnS w.heap.size t k enc h l w') : Ctx w0 M w' (rowR t k enc h l :: B) I :=
  H.addOwn hx _ hq.base fun b hb => (hq.1.lt b hb)
theorem Ctx.addNil (H : Ctx w0 M w B I) (t : TypeId) (k : Nat) (enc : α → Chs) : Ctx w0 M w (rowR t k enc nilH [] :: B) I :=
  H.addOwn (Gr.refl _ _) _ ⟨⟨by simp, .inl ⟨rfl, rfl⟩⟩, by simp [nilH]⟩ fun b hb => by simp [rowR, nilH, Value.ownBlock] at hb
theorem Ctx.rowSl (H : Ctx w0 M w B I) (j : Nat) (hj : B[j]? = some (rowR t k enc h l)) (hk : ∀ x, (enc x).flatten.length = k) : Sl (Old w) enc k h l w :=
  (OwnS.sl (H.getOwn j hj) hk).mono fun b hb => ((H.own _ (List.mem_of_getElem? hj)).2 b hb).1
theorem Ctx.retRow (H : Ctx w0 nob w B I) (j : Nat) (hj : B[j]? = some (rowR t k enc h l)) : OwnS w0.heap.size t k enc h l w := by
  have hq : OwnS 0 t k enc h l w := H.getOwn j hj
  refine ⟨⟨hq.1.1, ?_⟩, hq.2⟩
  rcases hq.1.2 with hn | ⟨g, cap, cur, hv, hb0, r⟩
  · exact .inl hn
  · refine .inr ⟨g, cap, cur, hv, ?_, r⟩
    have := ((H.own _ (List.mem_of_getElem? hj)).2 g (by simp only [rowR]; rw [hv]; rfl)).2
    rcases Nat.lt_or_ge g w0.heap.size with hlt | hge
    · exact (this hlt).elim
    · exact hge
theorem Ctx.freeze (H : Ctx w0 M w B I) (j : Nat) (hj : B[j]? = some (rowR t k enc h l)) (hk : ∀ x, (enc x).flatten.length = k) :
    Ctx w0 M w (B.eraseIdx j) (slI (fun b => (slV h l).ownBlock = some b) enc k h l :: I) := by
  have hjl : j < B.length := (List.getElem?_eq_some_iff.1 hj).1
  have hje : B[j] = rowR t k enc h l := (List.getElem?_eq_some_iff.1 hj).2
  refine (H.sub (List.eraseIdx_sublist ..) (fun i hi => hi)).addImm' _ (OwnS.sl (H.getOwn j hj) hk) fun b hb => ⟨((H.own _ (List.mem_of_getElem? hj)).2 b hb).1, fun o ho hob => ?_⟩
  obtain ⟨i, hi, hij, rfl⟩ := List.mem_eraseIdx_iff_getElem.1 ho
  have hpw := List.pairwise_iff_getElem.1 H.apart
  have hbk : (B[j]).blk = some b := by rw [hje]; exact hb
  rcases Nat.lt_or_gt_of_ne hij with hlt | hgt
  · exact hpw i j _ hjl hlt b hob hbk
  · exact hpw j i hjl _ hgt b hbk hob
end
section
variable {P : Program} {ρ : Operand → Value} {w0 w w' : World} {M : Nat → Prop} {B : List Own} {I : List Imm} {K : Value → World → Prop} {d : Option Tmp} {ty : TypeId} {pos : String} {af : Array Edge} {g : Option (Nat × Bool)}
theorem C_alloc (H : Ctx w0 M w B I) {t : TypeId} (z : Chs) (hz : ∀ w, (zeroValue t).run P w = .ok (.agg z.flatten.toArray) w)
    (h : ∀ b w', w.heap.size ≤ b → Ext w w' → Ctx w0 M w' (boxR b t z :: B) I → K (.pointer (some ⟨b, 0, none⟩)) w') : Runs P ρ ⟨d, .alloc t, ty, pos, af, g⟩ w K :=
  R_alloc hz (h _ _ (Nat.le_refl _) (Ext.alloc _ _) (H.addOwn (Ext.alloc _ _) _ (heap_alloc_new w _) fun b hb => by
    simp only [boxR, Option.some.injEq] at hb; subst hb; simp))
theorem C_alloc1 (H : Ctx w0 M w B I) {t : TypeId} {z : Value} (hz : ∀ w, (zeroValue t).run P w = .ok z w) (hc : z.cells = #[z])
    (h : ∀ b w', w.heap.size ≤ b → Ext w w' → Ctx w0 M w' (boxR b t [[z]] :: B) I → K (.pointer (some ⟨b, 0, none⟩)) w') : Runs P ρ ⟨d, .alloc t, ty, pos, af, g⟩ w K := by
  refine R_alloc hz ?_
  rw [hc]
  exact (h _ _ (Nat.le_refl _) (Ext.alloc _ _) (H.addOwn (Ext.alloc _ _) _ (heap_alloc_new w _) fun b hb => by
    simp only [boxR, Option.some.injEq] at hb; subst hb; simp))
theorem C_box (H : Ctx w0 M w B I) {t : TypeId} {x : Operand} (z : Chs) (hx : ρ x = aggOf z)
    (h : ∀ b w', w.heap.size ≤ b → Ext w w' → Ctx w0 M w' (boxR b t z :: B) I → K (.pointer (some ⟨b, 0, none⟩)) w') : Runs P ρ ⟨d, .box t x, ty, pos, af, g⟩ w K :=
  R_box hx (h _ _ (Nat.le_refl _) (Ext.alloc _ _) (H.addOwn (Ext.alloc _ _) _ (heap_alloc_new w _) fun b hb => by
    simp only [boxR, Option.some.injEq] at hb; subst hb; simp))
theorem Gr_setRow (w : World) (b : Nat) (cs : Array Value) : Gr (fun k => some b = some k) w (w.setRow b cs) :=
  ⟨rfl, rfl, rfl, by simp, fun k hk hn => setRow_other w b k cs fun e => hn (by rw [e]), fun _ => Nat.le_refl _⟩
theorem C_storeA (H : Ctx w0 M w B I) (i : Nat) {b : Nat} {tb : TypeId} {cs : Chs} (hi : B[i]? = some (boxR b tb cs)) {t : TypeId} {x y : Operand} {o m : Nat} (k : Nat) {sub : Chs} (cs' : Chs)
    (hs : ∀ w, (sizeOf t).run P w = .ok m w) (hx : ρ x = .pointer (some ⟨b, o, none⟩)) (hy : ρ y = aggOf sub) (ho : lenTo cs k = o) (hm : sub.flatten.length = m)
    (hsplit : ∃ mid post, cs = cs.take k ++ (mid ++ post) ∧ mid.flatten.length = m ∧ cs' = cs.take k ++ (sub ++ post)) (h1 : sub.flatten.all (·.oneCell') = true)
    (h : ∀ w', Gr (fun k => some b = some k) w w' → Ctx w0 M w' (B.set i (boxR b tb cs')) I → K undef w') : Runs P ρ ⟨d, .store t x y, ty, pos, af, g⟩ w K := by
  obtain ⟨mid, post, hcs, hmid, hcs'⟩ := hsplit
  have hb : w.heap[b]? = some (.cells cs.flatten.toArray tb (0, 0)) := H.getOwn i hi
  have hst := run_storeCells_at P b o tb sub.flatten 0 cs.flatten.toArray w hb (by
    rw [hcs]
    simp only [List.flatten_append, List.size_toArray, List.length_append, ← ho, lenTo, hm, hmid]
    omega) (fun v hv => List.all_eq_true.1 h1 v hv)
  have e : (cs.flatten.toArray.toList.take (o + 0) ++ sub.flatten ++ cs.flatten.toArray.toList.drop (o + 0 + sub.flatten.length)) = cs'.flatten := by
    rw [hcs']
    have e1 : cs.flatten = (cs.take k).flatten ++ (mid.flatten ++ post.flatten) := by
      conv => lhs; rw [hcs]
      simp only [List.flatten_append]
    rw [List.toList_toArray, Nat.add_zero, ← ho, lenTo, hm, ← hmid, e1, List.take_left', ← List.append_assoc (List.take k cs).flatten, List.drop_left']
    · simp [List.append_assoc]
    · simp
    · rfl
  rw [e] at hst
  refine .skip (w' := w.setRow b cs'.flatten.toArray) ?_ (h _ (Gr_setRow _ _ _) (H.upd i hi _ (Gr_setRow _ _ _) ?_ fun b' hb' => .inl hb'))
  · simp [execOp, hx, hy, Instr.storeAt, Instr.sureAddr, storeVar, Value.cells, hs, -List.length_flatten, hm, hst]
  · exact setRow_heap w b _ _ tb _ hb
theorem C_store1 (H : Ctx w0 M w B I) (i : Nat) {b : Nat} {tb : TypeId} {cs : Chs} (hi : B[i]? = some (boxR b tb cs)) {t : TypeId} {x y : Operand} {o : Nat} (k : Nat) {v old : Value} (cs' : Chs)
    (hs : ∀ w, (sizeOf t).run P w = .ok 1 w) (hx : ρ x = .pointer (some ⟨b, o, none⟩)) (hy : ρ y = v) (ho : lenTo cs k = o) (hk : cs[k]? = some [old]) (hcs : cs' = cs.set k [v]) (hc : v.cells = #[v]) (h1 : v.oneCell' = true)
    (h : ∀ w', Gr (fun k => some b = some k) w w' → Ctx w0 M w' (B.set i (boxR b tb cs')) I → K undef w') : Runs P ρ ⟨d, .store t x y, ty, pos, af, g⟩ w K := by
  have hb : w.heap[b]? = some (.cells cs.flatten.toArray tb (0, 0)) := H.getOwn i hi
  have hkl : k < cs.length := (List.getElem?_eq_some_iff.1 hk).1
  have hspl : cs = cs.take k ++ ([[old]] ++ cs.drop (k + 1)) := by
    have h1 : cs.drop k = [old] :: cs.drop (k + 1) := by
      rw [List.drop_eq_getElem_cons hkl, (List.getElem?_eq_some_iff.1 hk).2]
    conv => lhs; rw [← List.take_append_drop k cs, h1]
    rfl
  have hcs2 : cs' = cs.take k ++ ([[v]] ++ cs.drop (k + 1)) := by
    rw [hcs, List.set_eq_take_append_cons_drop, if_pos hkl]; rfl
  have hst := run_storeCells_at P b o tb [v] 0 cs.flatten.toArray w hb (by
    rw [hspl]
    simp only [List.flatten_append, List.size_toArray, List.length_append, ← ho, lenTo]
    simp) (fun u hu => by simp only [List.mem_singleton] at hu; subst hu; exact h1)
  have e : (cs.flatten.toArray.toList.take (o + 0) ++ [v] ++ cs.flatten.toArray.toList.drop (o + 0 + [v].length)) = cs'.flatten := by
    rw [hcs2]
    have e1 : cs.flatten = (cs.take k).flatten ++ ([old] ++ (cs.drop (k + 1)).flatten) := by
      conv => lhs; rw [hspl]
      simp only [List.flatten_append, List.flatten_cons, List.flatten_nil, List.append_nil]
    rw [List.toList_toArray, Nat.add_zero, ← ho, lenTo, e1, List.take_left', ← List.append_assoc (List.take k cs).flatten, List.drop_left']
    · simp [List.append_assoc]
    · simp
    · rfl
  rw [e] at hst
  refine .skip (w' := w.setRow b cs'.flatten.toArray) ?_ (h _ (Gr_setRow _ _ _) (H.upd i hi _ (Gr_setRow _ _ _) ?_ fun b' hb' => .inl hb'))
  · simp [execOp, hx, hy, Instr.storeAt, Instr.sureAddr, storeVar, hc, hs, hst]
  · exact setRow_heap w b _ _ tb _ hb
theorem C_appendN {α : Type} (H : Ctx w0 M w B I) (i : Nat) {e : TypeId} {size bytes : Nat} {enc : α → Chs} {hl0 : SlH} {l ys : List α} (hi : B[i]? = some (rowR e size enc hl0 l))
    {s x : Operand} {t : TypeId} {info : TypeInfo} {z : Value} (hu : P.underlying t = some (.slice e)) (hinf : P.info? e = some info) (hz : info.zero = some z) (hsz : info.size = size) (hby : info.bytes = bytes) (hzs : z.cells.size = size) (h0 : 0 < size)
    {F : Nat → Prop} {h : SlH} (hs : ρ s = slV hl0 l) (hx : ρ x = slV h ys) (hys : Sl F enc size h ys w) (hk : ∀ x, (enc x).flatten.length = size) (h1 : ∀ x, (enc x).flatten.all (·.oneCell') = true)
    (hlen : (l.length + ys.length) * bytes ≤ 140737488355328) (hby0 : 0 < bytes)
    (hK : ∀ h' w', Gr (fun k => (slV hl0 l).ownBlock = some k) w w' → Ctx w0 M w' (B.set i (rowR e size enc h' (l ++ ys))) I → (∀ b, (slV h' (l ++ ys)).ownBlock = some b → (slV hl0 l).ownBlock = some b ∨ w.heap.size ≤ b) → K (slV h' (l ++ ys)) w') :
    Runs P ρ ⟨d, .call { callee := .builtin .append, args := #[s, x], argTypes := #[t, t] }, ty, pos, af, g⟩ w K := by
  obtain ⟨v, hv⟩ : ∃ v, v = slV hl0 l := ⟨_, rfl⟩
  rw [← hv] at hs hK
  have hq : w.ownsRow 0 e size v l.length ((l.map fun x => (enc x).flatten).flatten) := by
    have := (show OwnS 0 e size enc hl0 l w from H.getOwn i hi).1
    rw [← hv] at this; exact this
  have hm : l.length + ys.length ≤ maxLen := by
    have := Nat.le_trans (Nat.le_mul_of_pos_right _ hby0) hlen
    simp only [maxLen]; omega
  have hcells : ∀ j u, ((ys.map fun x => (enc x).flatten).flatten)[j]? = some u → w.cell? ((⟨h.b, h.o, none⟩ : Addr).add j) = some u := by
    intro j u hu
    rw [add_lit]
    have hall := hys.cells
    clear hx hys hlen hm hK
    generalize h.o = o at hall
    induction ys generalizing j o with
    | nil => simp at hu
    | cons y ys ih =>
      simp only [List.map_cons, List.flatten_cons] at hu
      by_cases hj : j < size
      · rw [List.getElem?_append_left (by rw [hk]; exact hj)] at hu
        have := hall 0 y rfl j u hu
        simpa using this
      · rw [List.getElem?_append_right (by rw [hk]; omega), hk] at hu
        have := ih (j - size) hu (o + size) fun i' x' hx' => by
          have := hall (i' + 1) x' (by simpa using hx')
          rwa [show o + (i' + 1) * size = o + size + i' * size from by rw [Nat.add_mul]; omega] at this
        rwa [show o + size + (j - size) = o + j from by omega] at this
  have hl2 : ((ys.map fun x => (enc x).flatten).flatten).length = ys.length * size := by
    clear hx hys hlen hm hK hcells
    induction ys with
    | nil => simp
    | cons y ys ih => simp only [List.map_cons, List.flatten_cons, List.length_append, hk, ih, List.length_cons, Nat.add_mul]; omega
  have hone : ∀ u ∈ (ys.map fun x => (enc x).flatten).flatten, u.oneCell' = true := by
    intro u hu
    obtain ⟨c, hc, hu⟩ := List.mem_flatten.1 hu
    obtain ⟨y, _, rfl⟩ := List.mem_map.1 hc
    exact List.all_eq_true.1 (h1 y) u hu
  have hrun : ∃ v' w', (Builtin.append_ #[t, t] ty #[v, slV h ys]).run P w = .ok v' w' ∧ w'.ownsRow 0 e size v' (l ++ ys).length (((l ++ ys).map fun x => (enc x).flatten).flatten) ∧ w.grownBy w' v.ownBlock ∧
      (v'.ownBlock = v.ownBlock ∨ v'.ownBlock = some w.heap.size) := by
    rw [List.length_append, List.map_append, List.flatten_append]
    cases ha : h.a with
    | some ad =>
      have hcells' : ∀ j u, ((ys.map fun x => (enc x).flatten).flatten)[j]? = some u → w.cell? (ad.add j) = some u := by
        intro j u hu
        have hpos : 0 < ys.length := by
          cases ys with
          | nil => simp at hu
          | cons _ _ => simp
        have := (hys.there hpos).1
        rw [ha] at this
        rw [Option.some.inj this]
        exact hcells j u hu
      obtain ⟨v', w', hr, h2, h3, _, h5⟩ := run_append_own_at (P := P) w 0 t ty e info z size bytes hu hinf hz hsz hby hzs h0 v l.length _ hq ad ys.length h.c _ hl2 hcells' hone hm hlen (Nat.zero_le _)
      exact ⟨v', w', by rw [slV, ha]; exact hr, h2, h3, h5⟩
    | none =>
      have hy0 : ys = [] := by
        cases ys with
        | nil => rfl
        | cons y ys =>
          have := (hys.there (by simp)).1
          rw [ha] at this
          cases this
      subst hy0
      have hr : (Builtin.append_ #[t, t] ty #[v, slV h ([] : List α)]).run P w = .ok v w := by
        rw [slV, ha]
        rcases hq.2 with ⟨rfl, hn0⟩ | ⟨gg, cap, cur, rfl, _, _, hn, _⟩
        · exact run_append_nothing w t t ty e info hu hinf none 0 0 (Nat.le_refl _) _ (Src.ofNil w hu h.c)
        · exact run_append_nothing w t t ty e info hu hinf _ _ _ hn _ (Src.ofNil w hu h.c)
      exact ⟨v, w, hr, by simpa using hq, ⟨rfl, rfl, rfl, Nat.le_refl _, fun _ _ _ => rfl⟩, .inl rfl⟩
  obtain ⟨v', w', hr, hown, hgr, hbl⟩ := hrun
  have hG : Gr (fun k => v.ownBlock = some k) w w' := ⟨hgr.os, hgr.tape, hgr.output, hgr.size, fun b hb hn => hgr.block b hb fun e => hn e.symm, fun _ => sem_drawn _ _ hr⟩
  obtain ⟨h', rfl, hO⟩ := OwnS.of (l := l ++ ys) hown rfl
  have hG' : Gr (fun k => (rowR e size enc hl0 l).blk = some k) w w' := by simp only [rowR]; rw [← hv]; exact hG
  have hN : ∀ b, (slV h' (l ++ ys)).ownBlock = some b → (slV hl0 l).ownBlock = some b ∨ (w.heap.size ≤ b ∧ b < w'.heap.size) := by
    intro b hb
    rcases hbl with hbl | hbl
    · refine .inl ?_
      rw [← hv]; exact hbl.symm.trans hb
    · right
      have : b = w.heap.size := by
        have hb' : (slV h' (l ++ ys)).ownBlock = some b := hb
        rw [hbl] at hb'; simpa using hb'.symm
      subst this
      refine ⟨Nat.le_refl _, ?_⟩
      exact (hown.lt _ hb).2
  refine .value (v := slV h' (l ++ ys)) (w' := w') ?_ (hK h' w' hG (H.upd i hi (rowR e size enc h' (l ++ ys)) hG' hO hN) (fun b hb => (hN b hb).imp (fun h => by rw [hv]; exact h) And.left))
  simp [execOp, resolve, invoke, builtin, hs, hx, hr]
theorem C_append {α : Type} (H : Ctx w0 M w B I) (i : Nat) {e : TypeId} {size bytes : Nat} {enc : α → Chs} {hl0 : SlH} {l ys : List α} (hi : B[i]? = some (rowR e size enc hl0 l))
    {s x : Operand} {t : TypeId} {info : TypeInfo} {z : Value} (hu : P.underlying t = some (.slice e)) (hinf : P.info? e = some info) (hz : info.zero = some z) (hsz : info.size = size) (hby : info.bytes = bytes) (hzs : z.cells.size = size) (h0 : 0 < size)
    {F : Nat → Prop} {h : SlH} (hs : ρ s = slV hl0 l) (hx : ρ x = slV h ys) (hys : Sl F enc size h ys w) (hk : ∀ x, (enc x).flatten.length = size) (h1 : ∀ x, (enc x).flatten.all (·.oneCell') = true)
    (hlen : (l.length + ys.length) * bytes ≤ 140737488355328) (hby0 : 0 < bytes)
    (hK : ∀ h' w', Gr (fun k => (slV hl0 l).ownBlock = some k) w w' → Ctx w0 M w' (B.set i (rowR e size enc h' (l ++ ys))) I → K (slV h' (l ++ ys)) w') :
    Runs P ρ ⟨d, .call { callee := .builtin .append, args := #[s, x], argTypes := #[t, t] }, ty, pos, af, g⟩ w K :=
  C_appendN H i hi hu hinf hz hsz hby hzs h0 hs hx hys hk h1 hlen hby0 fun h' w' a b _ => hK h' w' a b
end
end Go.Proofs.YthjdhfoeckfmbaaGreat
namespace Go.Proofs.YthjdhfoeckfmbaaGreat
open Go
set_option linter.unusedVariables false
set_option linter.unusedSimpArgs false
set_option linter.unusedSectionVars false
structure Stamp where
  T : Int
  R : Int
  deriving DecidableEq, Inhabited
abbrev stampCh (s : Stamp) : Chs := [[.int .i64 s.T], [.int .i64 s.R]]
abbrev stampV (s : Stamp) : Value := aggOf (stampCh s)
abbrev ID := Vector UInt8 32
def byteV (b : UInt8) : Value := .int .u8 (b.toNat : Int)
abbrev encB (b : UInt8) : Chs := [[byteV b]]
def idCells (d : ID) : List Value := [byteV d[0], byteV d[1], byteV d[2], byteV d[3], byteV d[4], byteV d[5], byteV d[6], byteV d[7], byteV d[8], byteV d[9], byteV d[10], byteV d[11], byteV d[12], byteV d[13], byteV d[14], byteV d[15], byteV d[16], byteV d[17], byteV d[18], byteV d[19], byteV d[20], byteV d[21], byteV d[22], byteV d[23], byteV d[24], byteV d[25], byteV d[26], byteV d[27], byteV d[28], byteV d[29], byteV d[30], byteV d[31]]
abbrev idCh (d : ID) : Chs := [idCells d]
abbrev idV (d : ID) : Value := aggOf (idCh d)
structure Head where
  tm : Stamp
  data : ID
  deriving DecidableEq, Inhabited
abbrev headCh (x : Head) : Chs := [[.int .i64 x.tm.T], [.int .i64 x.tm.R], idCells x.data]
abbrev headV (x : Head) : Value := aggOf (headCh x)
structure RowS where
  node : Stamp
  par : Stamp
  tm : Stamp
  name : ByteArray
  heads : List Head
  hh : SlH
  deriving Inhabited
structure ItemS where
  node : Stamp
  tm : Stamp
  name : ByteArray
  sub : ID
  heads : List Head
  hh : SlH
  deriving Inhabited
abbrev itemCh (x : ItemS) : Chs := [[.int .i64 x.node.T], [.int .i64 x.node.R], [.int .i64 x.tm.T], [.int .i64 x.tm.R], [.string x.name], idCells x.sub, [slV x.hh x.heads]]
abbrev itemV (x : ItemS) : Value := aggOf (itemCh x)
structure OpS where
  kind : Int
  tm : Stamp
  node : Stamp
  par : Stamp
  name : ByteArray
  data : ID
  over : List Stamp
  oh : SlH
  deriving Inhabited
abbrev opCh (x : OpS) : Chs := [[.int .i64 x.kind], [.int .i64 x.tm.T], [.int .i64 x.tm.R], [.int .i64 x.node.T], [.int .i64 x.node.R], [.int .i64 x.par.T], [.int .i64 x.par.R], [.string x.name], idCells x.data, [slV x.oh x.over]]
abbrev opV (x : OpS) : Value := aggOf (opCh x)
structure Label where
  target : ID
  name : ByteArray
  msg : ByteArray
  deriving DecidableEq, Inhabited
abbrev labelCh (x : Label) : Chs := [idCells x.target, [.string x.name], [.string x.msg]]
abbrev labelV (x : Label) : Value := aggOf (labelCh x)
structure ChangeS where
  parents : List ID
  ph : SlH
  time : Int
  r : Int
  ops : List OpS
  oh : SlH
  tree : ID
  msg : ByteArray
  deriving Inhabited
abbrev changeCh (x : ChangeS) : Chs := [[slV x.ph x.parents], [.int .i64 x.time], [.int .i64 x.r], [slV x.oh x.ops], idCells x.tree, [.string x.msg]]
abbrev changeV (x : ChangeS) : Value := aggOf (changeCh x)
theorem _root_.Go.Calls.ret {P : Program} {f : FuncId} {args : Array Value} {w : World} {K K' : Value → World → Prop} (h : Calls P f args w (Ret K)) (hk : ∀ v w', K v w' → K' v w') : Calls P f args w (Ret K') :=
  h.mono fun _ _ ⟨v, h1, h2⟩ => ⟨v, h1, hk _ _ h2⟩
theorem wrapN (k : Nat) (h : k < 9223372036854775807) : IntKind.i64.wrap ((k : Int) + 1) = ((k + 1 : Nat) : Int) := by
  rw [IntWalk.i64_in _ (by omega)]; omega
theorem w64 (n : Int) (h : -9223372036854775808 ≤ n ∧ n ≤ 9223372036854775807) : IntKind.i64.wrap n = n := IntWalk.i64_in _ h
end Go.Proofs.YthjdhfoeckfmbaaGreat
namespace Go.Proofs.YthjdhfoeckfmbaaGreat
open Go
set_option linter.unusedVariables false
set_option linter.unusedSimpArgs false
set_option linter.unusedSectionVars false
variable [DD]
theorem foldl_set (vs : List Value) : ∀ (k off : Nat) (cur : Array Value), off + k + vs.length ≤ cur.size →
    ((vs.zipIdx k).foldl (fun cs (x : Value × Nat) => cs.setIfInBounds (off + x.2) x.1) cur).toList = cur.toList.take (off + k) ++ (vs ++ cur.toList.drop (off + k + vs.length)) := by
  induction vs with
  | nil => intro k off cur h; simp
  | cons v vs ih =>
    intro k off cur h
    simp only [List.length_cons] at h
    rw [List.zipIdx_cons, List.foldl_cons]
    rw [ih (k + 1) off _ (by simp; omega)]
    simp only [Array.toList_setIfInBounds, List.length_cons]
    rw [List.set_eq_take_append_cons_drop, if_pos (by simp; omega)]
    have h1 : (List.take (off + k) cur.toList ++ v :: List.drop (off + k + 1) cur.toList).take (off + (k + 1)) = List.take (off + k) cur.toList ++ [v] := by
      rw [List.take_append, List.take_of_length_le (by simp; omega)]
      congr 1
      have : off + (k + 1) - (List.take (off + k) cur.toList).length = 1 := by simp; omega
      rw [this]; simp
    have h2 : (List.take (off + k) cur.toList ++ v :: List.drop (off + k + 1) cur.toList).drop (off + (k + 1) + vs.length) = cur.toList.drop (off + k + (vs.length + 1)) := by
      rw [List.drop_append, List.drop_eq_nil_of_le (by simp; omega), List.nil_append]
      have : off + (k + 1) + vs.length - (List.take (off + k) cur.toList).length = vs.length + 1 := by simp; omega
      rw [this, List.drop_succ_cons, List.drop_drop]
      congr 1; omega
    rw [h1, h2]
    simp [List.append_assoc]
section
variable {α : Type} {enc : α → Chs} {val : α → Value} {size : Nat}
theorem fill_all (hv : ∀ x, (val x).cells.toList = (enc x).flatten) (hk : ∀ x, (enc x).flatten.length = size) : ∀ (ys : List α) (k : Nat) (done rest : List Value), done.length = k * size → rest.length = ys.length * size →
    Instr.fill (fun i => some (i * size, size)) (done ++ rest).toArray ((ys.zipIdx k).map fun p => (p.2, val p.1)) = some (done ++ cellsOf enc ys).toArray
  | [], k, done, rest, hd, hr => by
    have : rest = [] := List.eq_nil_of_length_eq_zero (by simpa using hr)
    subst this
    simp [Instr.fill]
  | y :: ys, k, done, rest, hd, hr => by
    have hsz : (val y).cells.size = size := by rw [← Array.length_toList, hv, hk]
    have hr' : rest.length = size + ys.length * size := by rw [hr, List.length_cons, Nat.add_mul]; omega
    rw [List.zipIdx_cons, List.map_cons, Instr.fill]
    simp only []
    rw [if_neg (by
      simp only [hsz, ne_eq, not_true, decide_false, Bool.false_or, decide_eq_true_eq, Bool.or_eq_true, List.size_toArray, List.length_append]
      omega)]
    have hf := foldl_set (val y).cells.toList 0 (k * size) (done ++ rest).toArray (by rw [Array.length_toList, hsz]; simp; omega)
    have e : ((val y).cells.zipIdx.foldl (fun cs (x : Value × Nat) => cs.setIfInBounds (k * size + x.2) x.1) (done ++ rest).toArray) = ((done ++ (enc y).flatten) ++ rest.drop size).toArray := by
      apply Array.ext'
      rw [← Array.foldl_toList, Array.toList_zipIdx, hf, hv]
      rw [List.toList_toArray, Nat.add_zero, hk, ← hd, List.take_left', List.append_assoc]
      · congr 2
        rw [List.drop_append, List.drop_eq_nil_of_le (by omega), List.nil_append]
        congr 1; omega
      · rfl
    have := fill_all hv hk ys (k + 1) (done ++ (enc y).flatten) (rest.drop size) (by rw [List.length_append, hd, hk, Nat.add_mul]; omega) (by rw [List.length_drop, hr']; omega)
    rw [show (fun (cs : Array Value) (x : Value × Nat) => match x with | (c, j) => cs.setIfInBounds (k * size + j) c) = (fun (cs : Array Value) (x : Value × Nat) => cs.setIfInBounds (k * size + x.2) x.1) from rfl, e, this]
    simp [cellsOf, List.append_assoc]
end
section
variable {α : Type} {enc : α → Chs} {val : α → Value} {P : Program} {ρ : Operand → Value} {w0 w w' : World} {M : Nat → Prop} {B : List Own} {I : List Imm} {K : Value → World → Prop} {d : Option Tmp} {ty : TypeId} {pos : String} {af : Array Edge} {g : Option (Nat × Bool)}
theorem C_buildSlice (H : Ctx w0 M w B I) {t e : TypeId} {n size : Nat} {parts : Array (Nat × Operand)} (ys : List α) {z : Value} (hu : P.underlying t = some (.slice e)) (hs : ∀ w, (sizeOf e).run P w = .ok size w) (hz : ∀ w, (zeroValue e).run P w = .ok z w) (hzs : z.cells.size = size) (h0 : 0 < size)
    (hv : ∀ x, (val x).cells.toList = (enc x).flatten) (hk : ∀ x, (enc x).flatten.length = size)
    (hp : (parts.map fun p => (p.1, ρ p.2)).toList = ys.zipIdx.map fun p => (p.2, val p.1)) (hn : ys.length = n) (hsmall : n * size ≤ 16777216)
    (h : ∀ b w', w.heap.size ≤ b → Ext w w' → Ctx w0 M w' (rowR e size enc ⟨some ⟨b, 0, none⟩, b, 0, n⟩ ys :: B) I → K (slV ⟨some ⟨b, 0, none⟩, b, 0, n⟩ ys) w') :
    Runs P ρ ⟨d, .buildSlice t n parts, ty, pos, af, g⟩ w K := by
  subst hn
  have hrun : (Instr.buildSlice t ys.length (parts.map fun p => (p.1, ρ p.2))).run P w = .ok (.slice (some ⟨w.heap.size, 0, none⟩) ys.length ys.length) (w.alloc (.cells (cellsOf enc ys).toArray e)) := by
    have hbase : ∃ base : List Value, base.length = ys.length * size ∧ (do
        let zero ← if ys.length * size = 0 then pure #[] else do pure (← zeroValue e).cells
        let some cells := Instr.fill (fun i => some (i * size, size)) ((Array.range (ys.length * size)).map (zero[· % zero.size]!)) (parts.map fun p => (p.1, ρ p.2)).toList
          | stuck "buildSlice: a part of the wrong size"
        pure (Value.slice (some (← newRow e cells)) ys.length ys.length) : Sem Value).run P w = (do
        let some cells := Instr.fill (fun i => some (i * size, size)) (([] : List Value) ++ base).toArray (parts.map fun p => (p.1, ρ p.2)).toList
          | stuck "buildSlice: a part of the wrong size"
        pure (Value.slice (some (← newRow e cells)) ys.length ys.length) : Sem Value).run P w := by
      by_cases hz0 : ys.length * size = 0
      · refine ⟨[], by simp [hz0], ?_⟩
        simp only [hz0, if_true, pure_bind]
        have e0 : ∀ f : Nat → Value, (Array.range 0).map f = #[] := fun f => by simp
        rw [e0]
        rfl
      · refine ⟨((Array.range (ys.length * size)).map (z.cells[· % z.cells.size]!)).toList, by simp, ?_⟩
        simp only [hz0, if_false, Sem.run_bind, hz, Result.andThen_ok, Sem.run_pure, List.nil_append, Array.toArray_toList]
    obtain ⟨base, hb1, hb2⟩ := hbase
    have hsm : ¬ (ys.length * size > 2 ^ 24) := by omega
    unfold Instr.buildSlice
    simp only [Sem.run_bind, run_underlying hu, Result.andThen_ok, hs, Sem.run_ite, if_neg hsm]
    simp only [Sem.run_bind, Sem.run_ite] at hb2
    refine Eq.trans hb2 ?_
    rw [hp, fill_all hv hk ys 0 [] base (by simp) hb1]
    simp [newRow]
  refine .value (v := slV ⟨some ⟨w.heap.size, 0, none⟩, w.heap.size, 0, ys.length⟩ ys) (w' := w.alloc (.cells (cellsOf enc ys).toArray e)) ?_ (h _ _ (Nat.le_refl _) (Ext.alloc _ _) ?_)
  · simp only [execOp, Sem.run_bind]
    have : (parts.map fun x => match x with | (i, x) => (i, ρ x)) = (parts.map fun p => (p.1, ρ p.2)) := rfl
    rw [this, hrun]
    rfl
  · refine H.addOwn (Ext.alloc _ _) _ ?_ fun b hb => ?_
    · refine ⟨⟨?_, .inr ⟨w.heap.size, ys.length, (cellsOf enc ys).toArray, rfl, Nat.zero_le _, heap_alloc_new w _, Nat.le_refl _, ?_, ?_, ?_⟩⟩, ?_⟩
      · exact cellsOf_len hk ys
      · have := Nat.le_trans (Nat.le_mul_of_pos_right ys.length h0) hsmall
        simp only [maxLen]; omega
      · simp [cellsOf_len hk ys]
      · rw [List.toList_toArray, ← cellsOf_len hk ys, List.take_length]
      · intro ad had; simp only [Option.some.injEq] at had; exact had.symm
    · simp only [rowR, slV, Value.ownBlock, Option.some.injEq] at hb
      subst hb
      simp
theorem R_build {t : TypeId} {parts : Array (Nat × Operand)} {vs : Array (Nat × Value)} {v : Value} (hp : (parts.map fun p => (p.1, ρ p.2)) = vs) (hb : ∀ w, (Instr.build t vs).run P w = .ok v w) (hK : K v w) :
    Runs P ρ ⟨d, .build t parts, ty, pos, af, g⟩ w K := by
  refine .value (w' := w) (v := v) ?_ hK
  have : (parts.map fun x => match x with | (i, x) => (i, ρ x)) = (parts.map fun p => (p.1, ρ p.2)) := rfl
  simp only [execOp, this, hp, Sem.run_bind, hb, Result.andThen_ok, Sem.run_pure]
theorem R_callL {k : FuncId} {l : List Operand} {vs : List Value} {at_ : Array TypeId} (hc : callable P k = true) (hf : ρ (.func k) = .func (.func k) #[] #[]) (hv : l.map ρ = vs)
    (h : Calls P k vs.toArray w (Ret K)) : Runs P ρ ⟨d, .call { callee := .value (.func k), args := l.toArray, argTypes := at_ }, ty, pos, af, g⟩ w K :=
  R_call hc hf (vs := vs.toArray) (by rw [List.map_toArray, hv]) (by rw [Array.append_empty]; exact h)
theorem R_callV {f : Operand} {k : FuncId} {cap : Array Value} {l : List Operand} {vs : List Value} {at_ : Array TypeId} (hc : callable P k = true) (hf : ρ f = .func (.func k) #[] cap) (hv : l.map ρ = vs)
    (h : Calls P k (vs.toArray ++ cap) w (Ret K)) : Runs P ρ ⟨d, .call { callee := .value f, args := l.toArray, argTypes := at_ }, ty, pos, af, g⟩ w K :=
  R_call hc hf (vs := vs.toArray) (by rw [List.map_toArray, hv]) h
theorem R_makeFuncL {k : FuncId} {l : List Operand} {vs : List Value} (hv : l.map ρ = vs) (h : K (.func (.func k) #[] vs.toArray) w) :
    Runs P ρ ⟨d, .makeFunc (.func k) #[] l.toArray, ty, pos, af, g⟩ w K :=
  R_makeFunc (vs := vs.toArray) (by rw [List.map_toArray, hv]) h
theorem R_buildL {t : TypeId} {l : List (Nat × Operand)} {vs : List (Nat × Value)} {v : Value} (hp : (l.map fun p => (p.1, ρ p.2)) = vs) (hb : ∀ w, (Instr.build t vs.toArray).run P w = .ok v w) (hK : K v w) :
    Runs P ρ ⟨d, .build t l.toArray, ty, pos, af, g⟩ w K :=
  R_build (vs := vs.toArray) (by rw [List.map_toArray, hp]) hb hK
theorem C_buildSliceL (H : Ctx w0 M w B I) {t e : TypeId} {n size : Nat} {l : List (Nat × Operand)} (ys : List α) {z : Value} (hu : P.underlying t = some (.slice e)) (hs : ∀ w, (sizeOf e).run P w = .ok size w) (hz : ∀ w, (zeroValue e).run P w = .ok z w) (hzs : z.cells.size = size) (h0 : 0 < size)
    (hv : ∀ x, (val x).cells.toList = (enc x).flatten) (hk : ∀ x, (enc x).flatten.length = size)
    (hp : (l.map fun p => (p.1, ρ p.2)) = ys.zipIdx.map fun p => (p.2, val p.1)) (hn : ys.length = n) (hsmall : n * size ≤ 16777216)
    (h : ∀ b w', w.heap.size ≤ b → Ext w w' → Ctx w0 M w' (rowR e size enc ⟨some ⟨b, 0, none⟩, b, 0, n⟩ ys :: B) I → K (slV ⟨some ⟨b, 0, none⟩, b, 0, n⟩ ys) w') :
    Runs P ρ ⟨d, .buildSlice t n l.toArray, ty, pos, af, g⟩ w K :=
  C_buildSlice H ys hu hs hz hzs h0 hv hk (by simpa using hp) hn hsmall h
end
end Go.Proofs.YthjdhfoeckfmbaaGreat
namespace Go.Proofs.YthjdhfoeckfmbaaGreat
open Go
set_option linter.unusedVariables false
set_option linter.unusedSimpArgs false
set_option linter.unusedSectionVars false
variable [DD]
theorem boxR_at {b : Nat} {t : TypeId} {cs : Chs} {w : World} (h : (boxR b t cs).q w) : At w b 0 cs.flatten := At_of_row h
theorem pk_and {x y : Bool} : (if x then gv x (.bool y) else .bool false) = Value.bool (x && y) := by cases x <;> rfl
theorem pk_or {x y : Bool} : (if x then .bool true else gv (!x) (.bool y)) = Value.bool (x || y) := by cases x <;> rfl
theorem pk_andA {A x y : Bool} (h : A = true) : (if x then gv (A && x) (.bool y) else .bool false) = Value.bool (x && y) := by subst h; cases x <;> rfl
theorem pk_orA {A x y : Bool} (h : A = true) : (if x then .bool true else gv (A && !x) (.bool y)) = Value.bool (x || y) := by subst h; cases x <;> rfl
theorem ga_t {x : Bool} : x = (true && (x == true)) := by cases x <;> rfl
theorem ga_f {x : Bool} : (!x) = (true && (x == false)) := by cases x <;> rfl
theorem gb_t {c x : Bool} : (c && x) = (c && (x == true)) := by cases x <;> rfl
theorem gb_f {c x : Bool} : (c && !x) = (c && (x == false)) := by cases x <;> rfl
theorem lst1 {ρ : Operand → Value} {a : Operand} {v : Value} (h : ρ a = v) : [a].map ρ = [v] := by simp [h]
theorem lst2 {ρ : Operand → Value} {a b : Operand} {v u : Value} (h : ρ a = v) (h2 : ρ b = u) : [a, b].map ρ = [v, u] := by simp [h, h2]
structure InMem (P : Program) (e : Env) (w : World) (a : Tmp) (t : TypeId) (cs : Chs) : Prop where
  run : ∀ tmps : Array Value, tmps.getD a undef = e a → ∃ ad, (asAddr (tmps.getD a undef)).run P w = .ok ad w ∧ (loadVar t ad).run P w = .ok (aggOf cs) w
theorem inMem {P : Program} {e : Env} {w : World} {a : Tmp} {t : TypeId} {b o n : Nat} {cs : Chs} (he : e a = .pointer (some ⟨b, o, none⟩)) (ha : ∀ w, (isAgg t).run P w = .ok true w) (hs : ∀ w, (sizeOf t).run P w = .ok n w) (hn : cs.flatten.length = n)
    (hc : At w b o cs.flatten) : InMem P e w a t cs := by
  refine ⟨fun tmps h => ?_⟩
  subst hn
  have := run_loadCells_list (P := P) w ⟨b, o, none⟩ cs.flatten (fun j v hv => by rw [add_lit]; exact hc j v hv)
  refine ⟨⟨b, o, none⟩, by rw [h, he]; simp [asAddr], ?_⟩
  simp [loadVar, ha, hs, -List.length_flatten, this]
section
variable {P : Program} {n : Nat} {e : Env} {w : World} {fn : Func} {K : Value → World → Prop}
theorem ret_c {a : Tmp} {t : TypeId} {cs : Chs} (hr : fn.results = #[.cell a t]) (hm : InMem P e w a t cs) (h : K (aggOf cs) w) : bodyQ P n fn K .ret e w := by
  intro ac ha
  obtain ⟨ad, h1, h1'⟩ := hm.run ac.tmps (ha.get a)
  refine ⟨_, ?_, h⟩
  simp [results, hr, -Array.getD_eq_getD_getElem?, h1, h1']
theorem ret_ct {a u : Tmp} {t : TypeId} {cs : Chs} {v : Value} (hr : fn.results = #[.cell a t, .tmp u]) (hm : InMem P e w a t cs) (he : e u = v) (h : K (.tuple #[aggOf cs, v]) w) : bodyQ P n fn K .ret e w := by
  intro ac ha
  obtain ⟨ad, h1, h1'⟩ := hm.run ac.tmps (ha.get a)
  have h2 := ha.get u
  rw [he] at h2
  refine ⟨_, ?_, h⟩
  simp [results, hr, -Array.getD_eq_getD_getElem?, h1, h1', h2]
end
theorem wrapP (k : Nat) (h : 1 ≤ k) (h2 : k ≤ 9223372036854775807) : IntKind.i64.wrap ((k : Int) - 1) = ((k - 1 : Nat) : Int) := by
  rw [IntWalk.i64_in _ (by omega)]; omega
def sbyte (s : ByteArray) (i : Nat) : UInt8 := s[i]?.getD 0
theorem sbyte_eq {s : ByteArray} {i : Nat} (h : i < s.size) : sbyte s i = s[i] := by simp [sbyte, h]
theorem R_index_s {P : Program} {ρ : Operand → Value} {w : World} {K : Value → World → Prop} {d : Option Tmp} {ty : TypeId} {pos : String} {af : Array Edge} {g : Option (Nat × Bool)} {t : TypeId} {x i : Operand} {s : ByteArray} {j : Int} {k : Nat} {kk : IntKind} (hu : P.underlying t = some .string) (hx : ρ x = .string s) (hi : ρ i = .int kk j) (hj : j = (k : Int)) (h1 : k < s.size)
    (h : K (.int .u8 ((sbyte s k).toNat : Int)) w) : Runs P ρ ⟨d, .index t x i, ty, pos, af, g⟩ w K := by
  subst hj
  exact R_index_str hu hx hi (by omega) (by omega) h
theorem u8_lt (b : UInt8) : 0 ≤ (b.toNat : Int) ∧ (b.toNat : Int) ≤ 255 := by have := b.toNat_lt; omega
def zeroId : ID := Vector.replicate 32 0
def rgChk (l : List Oper) (mf : Nat → Nat) (π : List (Nat × Kd)) : Bool :=
  Region.noSelect l.toArray && Nat.beq π.length l.length && chk l.toArray mf (Array.replicate l.length false) π
theorem W_rg {P : Program} {n : Nat} {Q : Exit → Env → World → Prop} {id : Nat} {l : List Oper} {e : Env} {w : World} (π : List (Nat × Kd)) (hc : (textOk l && rgChk l (fun _ => 0) π) = true)
    (h : Lx P n l.toArray nob (fun e w => Q .normal e w) π e w) : W P n (.region id l.toArray false) Q e w := by
  simp only [rgChk, Bool.and_eq_true] at hc
  exact W_lx nob _ π hc.1 hc.2.1.1 hc.2.1.2 hc.2.2 h
theorem W_rgd {P : Program} {n : Nat} {Q : Exit → Env → World → Prop} {id : Nat} {l : List Oper} {e : Env} {w : World} (hm : P.follows .mixedOrders = true) (π : List (Nat × Kd)) (hc : rgChk l (fun _ => 0) π = true)
    (h : Lx P n l.toArray nob (fun e w => Q .normal e w) π e w) : W P n (.region id l.toArray true) Q e w := by
  simp only [rgChk, Bool.and_eq_true] at hc
  exact W_lx_draw hm nob _ π hc.1.1 hc.1.2 hc.2 h
end Go.Proofs.YthjdhfoeckfmbaaGreat
namespace Go.Proofs.YthjdhfoeckfmbaaGreat
open Go
set_option linter.unusedVariables false
set_option linter.unusedSimpArgs false
set_option linter.unusedSectionVars false
variable [DD]
section
variable {P : Program} {w : World}
theorem part_1 {t : TypeId} {off : Nat} {cs : Chs} {kk : Nat} {v : Value} (ha : ∀ w, (isAgg t).run P w = .ok false w) (hsub : cs[kk]? = some [v]) (hoff : lenTo cs kk = off) :
    (part t cs.flatten.toArray off).run P w = .ok v w := by
  subst hoff
  have hk : kk < cs.length := (List.getElem?_eq_some_iff.1 hsub).1
  have e : cs.flatten = (cs.take kk).flatten ++ ([v] ++ (cs.drop (kk + 1)).flatten) := by
    have h1 : cs.drop kk = [v] :: cs.drop (kk + 1) := by
      rw [List.drop_eq_getElem_cons hk, (List.getElem?_eq_some_iff.1 hsub).2]
    have h2 : cs = cs.take kk ++ cs.drop kk := (List.take_append_drop kk cs).symm
    conv => lhs; rw [h2, h1]
    simp
  have : cs.flatten.toArray[lenTo cs kk]? = some v := by
    rw [List.getElem?_toArray, lenTo, e, List.getElem?_append_right (Nat.le_refl _)]
    simp
  simp only [part, Sem.run_bind, ha, Result.andThen_ok, Bool.false_eq_true, if_false, this, Sem.run_pure]
def EqV {α : Type} [DecidableEq α] (P : Program) (t : TypeId) (dep : Nat) (V : α → Value) : Prop := ∀ d w (a b : α), (Op.equalIn (d + dep) t (V a) (V b)).run P w = .ok (decide (a = b)) w
theorem eqv_int {t : TypeId} {k k' : IntKind} (h : P.underlying t = some (.int k')) : EqV P t 1 (fun n : Int => .int k n) := by
  intro d w a b
  rw [run_equalIn_int w d t k k' a b h]; rfl
theorem eqItems_bytes {e : TypeId} {d : Nat} (he : P.underlying e = some (.int .u8)) (ha : ∀ w, (isAgg e).run P w = .ok false w) (f g : Nat → UInt8) (xs ys : Array Value) : ∀ (is : List Nat), (∀ i ∈ is, xs[i]? = some (byteV (f i)) ∧ ys[i]? = some (byteV (g i))) →
    (Op.eqItems (d + 1) e 1 xs ys is).run P w = .ok (is.all fun i => f i == g i) w
  | [], _ => by simp [Op.eqItems]
  | i :: is, h => by
    have hi := h i (by simp)
    have ih := eqItems_bytes (d := d) he ha f g xs ys is fun j hj => h j (by simp [hj])
    simp only [Op.eqItems, Sem.run_bind, part, ha, Result.andThen_ok, Bool.false_eq_true, if_false, Nat.mul_one, hi.1, hi.2, Sem.run_pure]
    unfold byteV
    rw [run_equalIn_int w d e .u8 .u8 _ _ he]
    simp only [Result.andThen_ok, Sem.run_ite, List.all_cons]
    by_cases hb : f i = g i
    · rw [hb]; simp [ih]
    · have : ((((f i).toNat : Int)) == ((g i).toNat : Int)) = false := by
        rw [beq_eq_false_iff_ne]
        intro e2
        exact hb (UInt8.toNat_inj.1 (by exact_mod_cast e2))
      rw [this]
      simp [hb]
theorem idCells_get (d : ID) (i : Nat) (h : i < 32) : (idCells d)[i]? = some (byteV d[i]) := by
  have : i = 0 ∨ i = 1 ∨ i = 2 ∨ i = 3 ∨ i = 4 ∨ i = 5 ∨ i = 6 ∨ i = 7 ∨ i = 8 ∨ i = 9 ∨ i = 10 ∨ i = 11 ∨ i = 12 ∨ i = 13 ∨ i = 14 ∨ i = 15 ∨ i = 16 ∨ i = 17 ∨ i = 18 ∨ i = 19 ∨ i = 20 ∨ i = 21 ∨ i = 22 ∨ i = 23 ∨ i = 24 ∨ i = 25 ∨ i = 26 ∨ i = 27 ∨ i = 28 ∨ i = 29 ∨ i = 30 ∨ i = 31 := by omega
  rcases this with rfl | rfl | rfl | rfl | rfl | rfl | rfl | rfl | rfl | rfl | rfl | rfl | rfl | rfl | rfl | rfl | rfl | rfl | rfl | rfl | rfl | rfl | rfl | rfl | rfl | rfl | rfl | rfl | rfl | rfl | rfl | rfl <;> rfl
theorem idCells_eq (d : ID) : idCells d = d.toList.map byteV := by
  apply List.ext_getElem?
  intro i
  by_cases h : i < 32
  · rw [idCells_get d i h]
    simp [h]
  · rw [List.getElem?_eq_none (by show 32 ≤ i; omega), List.getElem?_eq_none (by simp; omega)]
theorem eqv_id {t e : TypeId} {i : TypeInfo} (hu : P.underlying t = some (.array 32 e)) (he : P.underlying e = some (.int .u8)) (hi : P.info? e = some i) (hs : i.size = 1) (ha : ∀ w, (isAgg e).run P w = .ok false w) : EqV P t 2 (fun d : ID => idV d) := by
  intro d w a b
  have hc : P.cellsOf e = 1 := by simp [Program.cellsOf, hi, hs]
  rw [show d + 2 = (d + 1) + 1 from rfl, run_equalIn_array w (d + 1) _ _ hu hi, hc]
  have h := eqItems_bytes (P := P) (w := w) (d := d) he ha (fun i => if h : i < 32 then a[i] else 0) (fun i => if h : i < 32 then b[i] else 0) (idCh a).flatten.toArray (idCh b).flatten.toArray (List.range 32) (fun i hi => by
    have h32 : i < 32 := List.mem_range.1 hi
    simp only [idCh, List.flatten_cons, List.flatten_nil, List.append_nil, List.getElem?_toArray, dif_pos h32]
    exact ⟨idCells_get a i h32, idCells_get b i h32⟩)
  rw [h]
  congr 1
  rw [Bool.eq_iff_iff]
  simp only [List.all_eq_true, List.mem_range, beq_iff_eq, decide_eq_true_eq]
  constructor
  · intro hh
    apply Vector.ext
    intro i hi
    have := hh i hi
    simpa [hi] using this
  · rintro rfl i hi
    rfl
theorem eqv_struct2 {α β γ : Type} [DecidableEq α] [DecidableEq β] [DecidableEq γ] {t : TypeId} {dep : Nat} {V : γ → Chs} {p : γ → α} {q : γ → β} {Vp : α → Value} {Vq : β → Value} {f1 f2 : Field}
    (hu : P.underlying t = some (.struct #[f1, f2])) (hst : P.stoodInHeld t = false) (h1 : f1.name ≠ "_") (h2 : f2.name ≠ "_")
    (hp1 : ∀ w x, (part f1.type (V x).flatten.toArray f1.offset).run P w = .ok (Vp (p x)) w) (hp2 : ∀ w x, (part f2.type (V x).flatten.toArray f2.offset).run P w = .ok (Vq (q x)) w)
    (e1 : EqV P f1.type dep Vp) (e2 : EqV P f2.type dep Vq) (hext : ∀ x y, p x = p y → q x = q y → x = y) : EqV P t (dep + 1) (fun x => aggOf (V x)) := by
  intro d w a b
  have hf : P.underlying t = some (.struct (P.fieldsOf t)) := by simp [Program.fieldsOf, hu]
  have hfs : (P.fieldsOf t).toList = [f1, f2] := by simp [Program.fieldsOf, hu]
  rw [show d + (dep + 1) = (d + dep) + 1 from rfl, run_equalIn_struct w (d + dep) t _ _ hf hst, hfs]
  simp only [Op.eqFields, if_pos h1, if_pos h2, Sem.run_bind, hp1, hp2, Result.andThen_ok]
  rw [e1 d w]
  simp only [Result.andThen_ok, Sem.run_ite]
  by_cases ha : p a = p b
  · simp only [ha, decide_true, Bool.not_true, Bool.false_eq_true, if_false, Sem.run_bind, hp1, hp2, Result.andThen_ok]
    rw [e2 d w]
    by_cases hb : q a = q b
    · have := hext a b ha hb
      subst this
      simp
    · have hn : a ≠ b := fun h => hb (by rw [h])
      simp [hb, hn]
  · have hn : a ≠ b := fun h => ha (by rw [h])
    simp [ha, hn]
theorem R_eqv {α : Type} [DecidableEq α] {t yt : TypeId} {dep : Nat} {cs : α → Chs} (E : EqV P t dep (fun x => aggOf (cs x))) (hd : Nat.ble dep 10000 = true) (hg : P.eqGuardType P.depth t = false) {ρ : Operand → Value} {K : Value → World → Prop} {d : Option Tmp} {ty : TypeId} {pos : String} {af : Array Edge} {g : Option (Nat × Bool)} {x y : Operand} {a b : α}
    (hx : ρ x = aggOf (cs a)) (hy : ρ y = aggOf (cs b)) (h : K (.bool (decide (a = b))) w) : Runs P ρ ⟨d, .binOp .eql t x y yt, ty, pos, af, g⟩ w K := by
  refine .value (v := .bool (decide (a = b))) (w' := w) ?_ h
  have hd' : dep ≤ 10000 := by simpa using hd
  have e := E (10000 - dep) w a b
  rw [Nat.sub_add_cancel hd'] at e
  simp only [execOp, hx, hy, Sem.run_bind, run_eqGuard_agg w _ t x y _ _ hg, Result.andThen_ok, run_eql_struct, e, Sem.run_pure]
theorem R_nev {α : Type} [DecidableEq α] {t yt : TypeId} {dep : Nat} {cs : α → Chs} (E : EqV P t dep (fun x => aggOf (cs x))) (hd : Nat.ble dep 10000 = true) (hg : P.eqGuardType P.depth t = false) {ρ : Operand → Value} {K : Value → World → Prop} {d : Option Tmp} {ty : TypeId} {pos : String} {af : Array Edge} {g : Option (Nat × Bool)} {x y : Operand} {a b : α}
    (hx : ρ x = aggOf (cs a)) (hy : ρ y = aggOf (cs b)) (h : K (.bool (!decide (a = b))) w) : Runs P ρ ⟨d, .binOp .neq t x y yt, ty, pos, af, g⟩ w K := by
  refine .value (v := .bool (!decide (a = b))) (w' := w) ?_ h
  have hd' : dep ≤ 10000 := by simpa using hd
  have e := E (10000 - dep) w a b
  rw [Nat.sub_add_cancel hd'] at e
  simp only [execOp, hx, hy, Sem.run_bind, run_eqGuard_agg w _ t x y _ _ hg, Result.andThen_ok, run_neq_struct, e, Sem.run_pure]
end
end Go.Proofs.YthjdhfoeckfmbaaGreat
namespace Go.Proofs.YthjdhfoeckfmbaaGreat
open Go
set_option linter.unusedVariables false
set_option linter.unusedSimpArgs false
set_option linter.unusedSectionVars false
variable [DD]
section
variable {α β : Type} [DecidableEq α]
def kvFind (k : α) : List (α × β) → Nat → Option (Nat × β)
  | [], _ => none
  | p :: r, i => if k = p.1 then some (i, p.2) else kvFind k r (i + 1)
def kvGet (kv : List (α × β)) (k : α) : Option β := (kvFind k kv 0).map (·.2)
def kvPut (k : α) (v : β) : List (α × β) → List (α × β)
  | [] => [(k, v)]
  | p :: r => if k = p.1 then (k, v) :: r else p :: kvPut k v r
theorem kvFind_shift (k : α) : ∀ (l : List (α × β)) (i : Nat), kvFind k l i = (kvFind k l 0).map fun p => (p.1 + i, p.2)
  | [], i => rfl
  | p :: r, i => by
    unfold kvFind
    split
    · simp
    · rw [kvFind_shift k r (i + 1), kvFind_shift k r (0 + 1)]
      cases kvFind k r 0 <;> simp
      omega
theorem kvGet_nil (k : α) : kvGet ([] : List (α × β)) k = none := rfl
theorem kvGet_cons (k : α) (p : α × β) (r : List (α × β)) : kvGet (p :: r) k = if k = p.1 then some p.2 else kvGet r k := by
  unfold kvGet
  conv => lhs; unfold kvFind
  split
  · rfl
  · rw [kvFind_shift k r (0 + 1)]
    cases kvFind k r 0 <;> rfl
theorem kvGet_put (k k' : α) (v : β) : ∀ kv : List (α × β), kvGet (kvPut k v kv) k' = if k' = k then some v else kvGet kv k'
  | [] => by simp [kvPut, kvGet_cons, kvGet_nil]
  | p :: r => by
    unfold kvPut
    split
    · rename_i h
      subst h
      simp only [kvGet_cons]
      split <;> simp_all
    · simp only [kvGet_cons, kvGet_put k k' v r]
      split <;> split <;> simp_all
structure KeyT (P : Program) (kt : TypeId) (key : α → Value) : Prop where
  wide : (match P.underlying kt with | some (.array _ _) | some (.struct _) => true | _ => false) = true
  check : ∀ em w a, (Instr.checkKey em 10000 kt (key a)).run P w = .ok () w
  eq : ∀ w a b, (Op.equal kt (key a) (key b)).run P w = .ok (decide (a = b)) w
  same : ∀ a, Instr.sameBits 10000 (key a) (key a) = true
def MapQ (r : Nat) (key : α → Value) (val : β → Value) (kv : List (α × β)) (w : World) : Prop :=
  ∃ es ck, w.heap[r]? = some (.map es ck) ∧ es.toList.map (fun e => (e.key, e.val)) = kv.map fun p => (key p.1, val p.2)
def mapO (r : Nat) (key : α → Value) (val : β → Value) (kv : List (α × β)) : Own where
  blk := some r
  q := MapQ r key val kv
  loc w w' h hq := by
    obtain ⟨es, ck, h1, h2⟩ := hq
    exact ⟨es, ck, by rw [h r rfl]; exact h1, h2⟩
variable {P : Program} {kt : TypeId} {key : α → Value} {val : β → Value}
theorem findAsking_kv (E : KeyT P kt key) (w : World) (k : α) : ∀ (es : List MapEntry) (kv : List (α × β)) (i : Nat), es.map (fun e => (e.key, e.val)) = kv.map (fun p => (key p.1, val p.2)) →
    (Instr.findAsking kt (key k) es i).run P w = .ok ((kvFind k kv i).map fun p => (p.1, val p.2)) w
  | [], [], i, _ => by simp [Instr.findAsking, kvFind]
  | [], _ :: _, _, h => by simp at h
  | _ :: _, [], _, h => by simp at h
  | e :: es, p :: kv, i, h => by
    simp only [List.map_cons, List.cons.injEq, Prod.mk.injEq] at h
    unfold Instr.findAsking kvFind
    simp only [Sem.run_bind, h.1.1, E.eq, Result.andThen_ok, Sem.run_ite, decide_eq_true_eq]
    split
    · simp [h.1.2]
    · exact findAsking_kv E w k es kv (i + 1) h.2
theorem findKey_kv (E : KeyT P kt key) (w : World) (k : α) {es : List MapEntry} {kv : List (α × β)} (h : es.map (fun e => (e.key, e.val)) = kv.map (fun p => (key p.1, val p.2))) :
    (Instr.findKey kt (key k) es).run P w = .ok ((kvFind k kv 0).map fun p => (p.1, val p.2)) w := by
  rw [run_findKey_eq (w := w) E.wide]
  exact findAsking_kv E w k es kv 0 h
theorem kvFind_put (k : α) (v : β) (es : List MapEntry) (f : MapEntry → MapEntry) (n : MapEntry) (hf : ∀ e, (f e).key = key k ∧ (f e).val = val v) (hn : n.key = key k ∧ n.val = val v) : ∀ (kv : List (α × β)), es.map (fun e => (e.key, e.val)) = kv.map (fun p => (key p.1, val p.2)) →
    (match kvFind k kv 0 with | some (i, _) => es.modify i f | none => es ++ [n]).map (fun (e : MapEntry) => (e.key, e.val)) = (kvPut k v kv).map (fun p => (key p.1, val p.2)) := by
  induction es with
  | nil =>
    intro kv h
    cases kv with
    | nil => simp [kvFind, kvPut, hn]
    | cons _ _ => simp at h
  | cons e es ih =>
    intro kv h
    cases kv with
    | nil => simp at h
    | cons p kv =>
      simp only [List.map_cons, List.cons.injEq, Prod.mk.injEq] at h
      unfold kvFind kvPut
      by_cases hk : k = p.1
      · simp only [if_pos hk]
        simp [hf, h.2]
      · simp only [if_neg hk]
        have := ih kv h.2
        rw [kvFind_shift k kv (0 + 1)]
        cases hq : kvFind k kv 0 with
        | none =>
          rw [hq] at this
          simp only [Option.map_none, List.cons_append, List.map_cons, h.1.1, h.1.2]
          simp only [] at this
          rw [this]
        | some q =>
          rw [hq] at this
          obtain ⟨i, u⟩ := q
          simp only [Option.map_some] at this ⊢
          rw [show i + (0 + 1) = i + 1 from rfl, List.modify_succ_cons, List.map_cons, List.map_cons, this, h.1.1, h.1.2]
end
section
variable {α β : Type} [DecidableEq α] {key : α → Value} {val : β → Value} {P : Program} {ρ : Operand → Value} {w0 w w' : World} {M : Nat → Prop} {B : List Own} {I : List Imm} {K : Value → World → Prop} {d : Option Tmp} {ty : TypeId} {pos : String} {af : Array Edge} {g : Option (Nat × Bool)}
theorem MapQ.local {r : Nat} {kv : List (α × β)} (h : MapQ r key val kv w) (hb : w'.heap[r]? = w.heap[r]?) : MapQ r key val kv w' := by
  obtain ⟨es, ck, h1, h2⟩ := h
  exact ⟨es, ck, by rw [hb]; exact h1, h2⟩
theorem MapQ.lt {r : Nat} {kv : List (α × β)} (h : MapQ r key val kv w) : r < w.heap.size := by
  obtain ⟨es, ck, h1, h2⟩ := h
  exact (Array.getElem?_eq_some_iff.1 h1).1
theorem C_makeMap (H : Ctx w0 M w B I) {t : TypeId} (key : α → Value) (val : β → Value)
    (h : ∀ r w', w.heap.size ≤ r → Ext w w' → Ctx w0 M w' (mapO r key val [] :: B) I → K (.map (some r)) w') : Runs P ρ ⟨d, .makeMap t none, ty, pos, af, g⟩ w K := by
  refine .value (v := .map (some w.heap.size)) (w' := w.alloc (.map #[] 0)) ?_ (h _ _ (Nat.le_refl _) (Ext.alloc _ _) (H.addOwn (Ext.alloc _ _) _ ⟨#[], 0, heap_alloc_new w _, rfl⟩ fun b hb => by
    simp only [mapO, Option.some.injEq] at hb; subst hb; simp))
  simp [execOp, Instr.makeMap]
theorem R_lookup {t kt e : TypeId} {m k : Operand} {r : Nat} {kv : List (α × β)} {kk : α} {z : β} (E : KeyT P kt key) (hu : P.underlying t = some (.map kt e)) (hz : ∀ w, (zeroValue e).run P w = .ok (val z) w) (hq : MapQ r key val kv w)
    (hm : ρ m = .map (some r)) (hk : ρ k = key kk) (h : K (val ((kvGet kv kk).getD z)) w) : Runs P ρ ⟨d, .lookup t m k false, ty, pos, af, g⟩ w K := by
  obtain ⟨es, ck, h1, h2⟩ := hq
  refine .value (v := val ((kvGet kv kk).getD z)) (w' := w) ?_ h
  simp only [execOp, hm, hk, Instr.lookup, Sem.run_bind, run_underlying hu, Result.andThen_ok, MapKept.run_getObj_map h1, Sem.run_pure, E.check, findKey_kv E w kk h2]
  unfold kvGet
  cases kvFind kk kv 0 <;> simp [hz]
theorem R_len_mapQ {x : Operand} {r : Nat} {kv : List (α × β)} {t ke e : TypeId} (hu : P.underlying t = some (.map ke e)) (hq : MapQ r key val kv w) (hx : ρ x = .map (some r)) (h : K (.int .i64 kv.length) w) :
    Runs P ρ ⟨d, .call { callee := .builtin .len, args := #[x], argTypes := #[t] }, ty, pos, af, g⟩ w K := by
  obtain ⟨es, ck, h1, h2⟩ := hq
  have : es.size = kv.length := by
    have := congrArg List.length h2
    simpa using this
  exact R_len_map hu hx h1 (by rw [this]; exact h)
theorem Gr_setMap (w : World) (r : Nat) (o : Obj) : Gr (fun k => some r = some k) w { w with heap := w.heap.setIfInBounds r o } :=
  ⟨rfl, rfl, rfl, by simp, fun k hk hn => by
    have : r ≠ k := fun e => hn (by rw [e])
    simp [this], fun _ => Nat.le_refl _⟩
theorem C_mapUpdate (H : Ctx w0 M w B I) (i : Nat) {r : Nat} {kv : List (α × β)} (hi : B[i]? = some (mapO r key val kv)) {t kt e : TypeId} {m k x : Operand} {kk : α} {v : β} (E : KeyT P kt key) (hu : P.underlying t = some (.map kt e))
    (hm : ρ m = .map (some r)) (hk : ρ k = key kk) (hx : ρ x = val v)
    (h : ∀ w', Gr (fun k => some r = some k) w w' → Ctx w0 M w' (B.set i (mapO r key val (kvPut kk v kv))) I → K undef w') : Runs P ρ ⟨d, .mapUpdate t m k x, ty, pos, af, g⟩ w K := by
  obtain ⟨es, ck, h1, h2⟩ := (show MapQ r key val kv w from H.getOwn i hi)
  have hlt : r < w.heap.size := (Array.getElem?_eq_some_iff.1 h1).1
  cases hf : kvFind kk kv 0 with
  | none =>
    refine .skip (w' := { w with heap := w.heap.setIfInBounds r (.map (es.push ⟨key kk, val v, ck⟩) (ck + 1)) }) ?_ (h _ (Gr_setMap _ _ _) (H.upd i hi _ (Gr_setMap _ _ _) ⟨es.push ⟨key kk, val v, ck⟩, ck + 1, (MapKept.heap_set h1).1, ?_⟩ fun b hb => .inl hb))
    · simp only [execOp, hm, hk, hx, Instr.mapUpdate, Sem.run_bind, run_underlying hu, Result.andThen_ok, MapKept.run_getObj_map h1, E.check, findKey_kv E w kk h2, hf, Option.map_none, MapKept.run_setObj_map _ h1, Sem.run_pure]
    · have := kvFind_put (key := key) (val := val) kk v es.toList (fun _ => ⟨key kk, val v, ck⟩) ⟨key kk, val v, ck⟩ (fun _ => ⟨rfl, rfl⟩) ⟨rfl, rfl⟩ kv h2
      rw [hf] at this
      simpa using this
  | some q =>
    obtain ⟨j, u⟩ := q
    have hes : ∀ e', es[j]? = some e' → e'.key = key kk := by
      intro e' he'
      have hj : (es.toList.map (fun e => (e.key, e.val)))[j]? = some (e'.key, e'.val) := by simp [he']
      rw [h2] at hj
      have key2 : ∀ (kv : List (α × β)) (j i : Nat) (u : β), kvFind kk kv i = some (j + i, u) → ∃ p, kv[j]? = some p ∧ p.1 = kk := by
        intro kv
        induction kv with
        | nil => intro j i u h; simp [kvFind] at h
        | cons p r ih =>
          intro j i u h
          unfold kvFind at h
          split at h
          · rename_i hk
            simp only [Option.some.injEq, Prod.mk.injEq] at h
            have : j = 0 := by omega
            subst this
            exact ⟨p, rfl, hk.symm⟩
          · rw [kvFind_shift] at h
            cases hq : kvFind kk r 0 with
            | none => rw [hq] at h; simp at h
            | some q =>
              rw [hq] at h
              simp only [Option.map_some, Option.some.injEq, Prod.mk.injEq] at h
              obtain ⟨p', h3, h4⟩ := ih q.1 0 q.2 (by rw [hq]; simp)
              have : j = q.1 + 1 := by omega
              subst this
              exact ⟨p', by simpa using h3, h4⟩
      obtain ⟨p, h3, h4⟩ := key2 kv j 0 u (by simpa using hf)
      simp only [List.getElem?_map, h3, Option.map_some, Option.some.injEq, Prod.mk.injEq] at hj
      rw [← hj.1, h4]
    have hst : (Instr.keyThatStays (((es[j]?).map (·.key)).getD (key kk)) (key kk)).run P w = .ok (key kk) w := by
      have : (((es[j]?).map (·.key)).getD (key kk)) = key kk := by
        cases he : es[j]? with
        | none => rfl
        | some e' => simpa using hes e' he
      rw [this]
      unfold Instr.keyThatStays
      rw [if_pos (E.same kk)]
      rfl
    refine .skip (w' := { w with heap := w.heap.setIfInBounds r (.map (es.modify j fun e => { e with key := key kk, val := val v }) ck) }) ?_ (h _ (Gr_setMap _ _ _) (H.upd i hi _ (Gr_setMap _ _ _) ⟨es.modify j fun e => { e with key := key kk, val := val v }, ck, (MapKept.heap_set h1).1, ?_⟩ fun b hb => .inl hb))
    · simp only [execOp, hm, hk, hx, Instr.mapUpdate, Sem.run_bind, run_underlying hu, Result.andThen_ok, MapKept.run_getObj_map h1, E.check, findKey_kv E w kk h2, hf, Option.map_some, hst, MapKept.run_setObj_map _ h1, Sem.run_pure]
    · have := kvFind_put (key := key) (val := val) kk v es.toList (fun e => { e with key := key kk, val := val v }) ⟨key kk, val v, ck⟩ (fun _ => ⟨rfl, rfl⟩) ⟨rfl, rfl⟩ kv h2
      rw [hf] at this
      rw [Array.toList_modify]
      exact this
end
abbrev boolV (b : Bool) : Value := .bool b
theorem Sl.ext {α : Type} {enc : α → Chs} {k : Nat} {h : SlH} {l : List α} {w w' : World} (s : Sl (Old w) enc k h l w) (hx : Ext w w') : Sl (Old w') enc k h l w' :=
  (s.local fun b hb => hx.block b hb (fun hn => hn)).mono fun b hb => Nat.lt_of_lt_of_le hb hx.size
theorem deep1 {α : Type} {p : α → Prop} {y : α} (h : p y) : ∀ x ∈ [y], p x := fun x hx => by
  rw [List.mem_singleton] at hx; rw [hx]; exact h
theorem boolT {p : Prop} [Decidable p] (h : p) : Value.bool true = Value.bool (decide p) := by rw [decide_eq_true h]
theorem boolF {p : Prop} [Decidable p] (h : ¬ p) : Value.bool false = Value.bool (decide p) := by rw [decide_eq_false h]
theorem boolE {p : Prop} [Decidable p] {b : Bool} (h : b = true ↔ p) : Value.bool b = Value.bool (decide p) := by
  congr 1
  rw [Bool.eq_iff_iff, h, decide_eq_true_eq]
section
variable {α β : Type} {enc : β → Chs} {k : Nat} {h : α → SlH} {f : α → List β} {w0 w w' : World} {M : Nat → Prop} {B : List Own} {I : List Imm}
theorem Ctx.deepSnoc (H : Ctx w0 M w B I) {S F2 : Nat → Prop} {acc : List α} {h2 : SlH} {l2 : List β} (j : Nat) (hj : I[j]? = some (deepI S enc k h f acc)) (i : Nat) (hi : I[i]? = some (slI F2 enc k h2 l2)) (x : α) (h1 : h x = h2) (h3 : f x = l2) :
    Ctx w0 M w B (deepI (fun b => S b ∨ F2 b) enc k h f (acc ++ [x]) :: I) := by
  refine H.addImm' _ ?_ ?_
  · intro y hy
    rcases List.mem_append.1 hy with hy | hy
    · exact (show Sl S enc k (h y) (f y) w from H.getImm j hj y hy).mono fun b hb => .inl hb
    · rw [List.mem_singleton] at hy
      subst hy h1 h3
      exact (H.sl i hi).mono fun b hb => .inr hb
  · rintro b (hb | hb)
    · exact ⟨(H.imm _ (List.mem_of_getElem? hj)).2 b hb, fun o ho hob => H.off o ho _ (List.mem_of_getElem? hj) b hob hb⟩
    · exact ⟨(H.imm _ (List.mem_of_getElem? hi)).2 b hb, fun o ho hob => H.off o ho _ (List.mem_of_getElem? hi) b hob hb⟩
theorem Ctx.deepNil (H : Ctx w0 M w B I) (enc : β → Chs) (k : Nat) (h : α → SlH) (f : α → List β) : Ctx w0 M w B (deepI nob enc k h f [] :: I) :=
  H.addImm' _ (fun _ hx => (nomatch hx)) fun _ hb => hb.elim
theorem Ctx.addRowDeep (H : Ctx w0 M w B I) (hx : Ext w w') {t : TypeId} {k' : Nat} {enc' : α → Chs} {hl : SlH} {l : List α} {S : Nat → Prop} (hq : OwnS w.heap.size t k' enc' hl l w') (hS : ∀ b, S b → w.heap.size ≤ b ∧ b < w'.heap.size ∧ (slV hl l).ownBlock ≠ some b)
    (hd : ∀ x ∈ l, Sl S enc k (h x) (f x) w') : Ctx w0 M w' (rowR t k' enc' hl l :: B) (deepI S enc k h f l :: I) :=
  (H.addRow hx hq).addImm' _ hd fun b hb => ⟨(hS b hb).2.1, fun o ho hob => by
    rcases List.mem_cons.1 ho with rfl | ho
    · exact (hS b hb).2.2 hob
    · have := ((H.own o ho).2 b hob).1
      have := (hS b hb).1
      omega⟩
theorem Ctx.retDeep (H : Ctx w0 M w B I) {t : TypeId} {k' : Nat} {enc' : α → Chs} {hl : SlH} {l : List α} {S : Nat → Prop} (i : Nat) (hi : B[i]? = some (rowR t k' enc' hl l)) (j : Nat) (hj : I[j]? = some (deepI S enc k h f l)) (hS : ∀ b, S b → w0.heap.size ≤ b) :
    ∀ b, S b → w0.heap.size ≤ b ∧ b < w.heap.size ∧ (slV hl l).ownBlock ≠ some b :=
  fun b hb => ⟨hS b hb, (H.imm _ (List.mem_of_getElem? hj)).2 b hb, fun hob => H.off _ (List.mem_of_getElem? hi) _ (List.mem_of_getElem? hj) b hob hb⟩
theorem Ctx.newRow (H : Ctx w0 nob w B I) {t : TypeId} {k' : Nat} {enc' : α → Chs} {hl : SlH} {l : List α} (i : Nat) (hi : B[i]? = some (rowR t k' enc' hl l)) : ∀ b, (slV hl l).ownBlock = some b → w0.heap.size ≤ b := fun b hb => by
  have := ((H.own _ (List.mem_of_getElem? hi)).2 b hb).2
  rcases Nat.lt_or_ge b w0.heap.size with hlt | hge
  · exact (this hlt).elim
  · exact hge
end
theorem callsCap0 {P : Program} {k : FuncId} {vs : Array Value} {w : World} {K : Ending → World → Prop} (h : Calls P k vs w K) : Calls P k (vs ++ #[]) w K := by
  rw [Array.append_empty]; exact h
theorem Sl.isNil {α : Type} {F : Nat → Prop} {enc : α → Chs} {k : Nat} {h : SlH} {l : List α} {w : World} (s : Sl F enc k h l w) (hn : h.a.isNone = true) : l = [] := by
  cases l with
  | nil => rfl
  | cons x l =>
    have := (s.there (by simp)).1
    rw [this] at hn
    cases hn
theorem andT {a b : Bool} (h : (a && b) = true) : a = true ∧ b = true := by cases a <;> cases b <;> simp_all
theorem andF {a b : Bool} (h : (a && b) = false) : a = false ∨ b = false := by cases a <;> cases b <;> simp_all
theorem orT {a b : Bool} (h : (a || b) = true) : a = true ∨ b = true := by cases a <;> cases b <;> simp_all
theorem orF {a b : Bool} (h : (a || b) = false) : a = false ∧ b = false := by cases a <;> cases b <;> simp_all
theorem notT {a : Bool} (h : (!a) = true) : a = false := by cases a <;> simp_all
theorem notF {a : Bool} (h : (!a) = false) : a = true := by cases a <;> simp_all
abbrev encI (n : Int) : Chs := [[.int .i64 n]]
abbrev intV (n : Int) : Value := .int .i64 n
end Go.Proofs.YthjdhfoeckfmbaaGreat
namespace Go.Proofs.YthjdhfoeckfmbaaGreat
open Go
set_option linter.unusedVariables false
set_option linter.unusedSimpArgs false
set_option linter.unusedSectionVars false
variable [DD]
def hSub (h : SlH) (k lo m : Nat) : SlH := ⟨if m = lo then h.a else h.a.map (·.add (lo * k)), h.b, h.o + lo * k, m - lo⟩
section
variable {α : Type} {F : Nat → Prop} {enc : α → Chs} {k : Nat} {h : SlH} {l l' : List α} {w w' w0 : World} {M : Nat → Prop} {B : List Own} {I : List Imm}
theorem Sl.sub (s : Sl F enc k h l w) (lo hi m : Nat) (h1 : lo ≤ hi) (h2 : hi ≤ l.length) (h3 : hi ≤ m) (h4 : m ≤ h.c) (hl : (l.take hi).drop lo = l') : Sl F enc k (hSub h k lo m) l' w := by
  subst hl
  have hlen : ((l.take hi).drop lo).length = hi - lo := by simp; omega
  refine ⟨by rw [hlen]; simp only [hSub]; omega, by simp only [hSub]; have := s.max; omega, fun hp => ?_, fun i x hx => ?_⟩
  · rw [hlen] at hp
    have := s.there (by omega)
    refine ⟨?_, this.2⟩
    simp only [hSub]
    rw [if_neg (by omega), this.1, Option.map_some, add_lit]
  · have hx' : l[lo + i]? = some x := by
      rw [List.getElem?_drop] at hx
      have hlt : lo + i < hi := by
        have := (List.getElem?_eq_some_iff.1 hx).1
        simp at this; omega
      rwa [List.getElem?_take_of_lt hlt] at hx
    have := s.cells (lo + i) x hx'
    simp only [hSub]
    rwa [Nat.add_mul, ← Nat.add_assoc] at this
theorem R_sliceS {P : Program} {ρ : Operand → Value} {K : Value → World → Prop} {d : Option Tmp} {ty : TypeId} {pos : String} {af : Array Edge} {g : Option (Nat × Bool)} {t e : TypeId} {x : Operand} {lo hi mx : Option Operand} {a b m : Nat} (l' : List α)
    (hu : P.underlying t = some (.slice e)) (hs : ∀ w, (sizeOf e).run P w = .ok k w) (hx : ρ x = slV h l) (hlo : optI ρ lo a 0) (hhi : optI ρ hi b l.length) (hm : optI ρ mx m h.c) (hn : mx.isSome = true → hi.isSome = true)
    (h1 : a ≤ b) (h2 : b ≤ l.length) (h3 : b ≤ m) (h4 : m ≤ h.c) (hl : (l.take b).drop a = l') (hK : K (slV (hSub h k a m) l') w) : Runs P ρ ⟨d, .slice t x lo hi mx, ty, pos, af, g⟩ w K := by
  subst hl
  have hlen : ((l.take b).drop a).length = b - a := by simp; omega
  refine R_slice hu hs hx hlo hhi hm hn h1 h3 h4 rfl ?_
  rw [slV, hlen] at hK
  exact hK
theorem Ctx.below (H : Ctx w0 nob w B I) (hb : RowKit.Below w0.heap.size w w') (hd : DD.D → w.drawn ≤ w'.drawn) (hF : ∀ i ∈ I, ∀ b, i.F b → b < w0.heap.size) : Ctx w0 nob w' [] I where
  gr := ⟨hb.os.trans H.gr.os, hb.tape.trans H.gr.tape, hb.output.trans H.gr.output, Nat.le_trans H.gr.size hb.size, fun k hk hn => (hb.block k hk).trans (H.gr.block k hk hn), fun d => Nat.le_trans (H.gr.drawn d) (hd d)⟩
  own := fun _ h => (nomatch h)
  imm := fun i hi => ⟨i.loc w w' (fun b hbb => hb.block b (hF i hi b hbb)) (H.imm i hi).1, fun b hbb => Nat.lt_of_lt_of_le ((H.imm i hi).2 b hbb) hb.size⟩
  apart := .nil
  off := fun _ h => (nomatch h)
theorem Ext.below (h : RowKit.Below w.heap.size w w') (hd : DD.D → w.drawn ≤ w'.drawn) : Ext w w' := ⟨h.os, h.tape, h.output, h.size, fun k hk _ => h.block k hk, hd⟩
theorem Ctx.startRow {t : TypeId} (hq : OwnS 0 t k enc h l w) : Ctx w (fun b => (slV h l).ownBlock = some b) w [rowR t k enc h l] [] where
  gr := Gr.refl _ _
  own := fun o ho => by
    rw [List.mem_singleton] at ho
    subst ho
    refine ⟨hq, fun b hb => ⟨?_, fun _ => hb⟩⟩
    rcases hq.1.2 with ⟨hn, _⟩ | ⟨g, cap, cur, hv, _, hg, _⟩
    · simp only [rowR] at hb
      rw [hn] at hb
      simp [Value.ownBlock] at hb
    · simp only [rowR] at hb
      rw [hv] at hb
      simp only [Value.ownBlock, Option.some.injEq] at hb
      subst hb
      exact (Array.getElem?_eq_some_iff.1 hg).1
  imm := fun _ h => (nomatch h)
  apart := List.pairwise_singleton ..
  off := fun _ _ _ h => (nomatch h)
theorem cellsOf_append (a b : List α) : cellsOf enc (a ++ b) = cellsOf enc a ++ cellsOf enc b := by simp [cellsOf]
theorem cellsOf_cons (a : α) (b : List α) : cellsOf enc (a :: b) = (enc a).flatten ++ cellsOf enc b := by simp [cellsOf]
theorem C_storeEl [Inhabited α] {P : Program} {ρ : Operand → Value} {K : Value → World → Prop} {d : Option Tmp} {ty : TypeId} {pos : String} {af : Array Edge} {g : Option (Nat × Bool)} (H : Ctx w0 M w B I) (i : Nat) {e : TypeId} (hi : B[i]? = some (rowR e k enc h l)) {t : TypeId} {x y : Operand} {v : Value} {j o m : Nat}
    (x' : α) (pre mid post sub : List Value) (hk : ∀ x, (enc x).flatten.length = k) (hj : j < l.length) (hs : ∀ w, (sizeOf t).run P w = .ok m w) (hx : ρ x = .pointer (some ⟨h.b, o, none⟩)) (hy : ρ y = v) (hc : v.cells.toList = sub) (ho : h.o + j * k + pre.length = o)
    (he : (enc (nth l j)).flatten = pre ++ (mid ++ post)) (he' : (enc x').flatten = pre ++ (sub ++ post)) (hmid : mid.length = m) (hsub : sub.length = m) (h1 : sub.all (·.oneCell') = true)
    (hK : ∀ w', Gr (fun b => (slV h l).ownBlock = some b) w w' → Ctx w0 M w' (B.set i (rowR e k enc h (l.set j x'))) I → K undef w') : Runs P ρ ⟨d, .store t x y, ty, pos, af, g⟩ w K := by
  have hq : OwnS 0 e k enc h l w := H.getOwn i hi
  rcases hq.1.2 with ⟨hn, hn2⟩ | ⟨gb, cap, cur, hv, _, hg, hlc, hcm, hcs, htk⟩
  · omega
  have hva : h.a = some ⟨gb, 0, none⟩ ∧ h.c = cap := by
    simp only [slV, Value.slice.injEq] at hv
    exact ⟨hv.1, hv.2.2⟩
  have hbo := hq.2 _ hva.1
  have hbb : gb = h.b ∧ 0 = h.o := by
    simp only [Addr.mk.injEq] at hbo
    exact ⟨hbo.1, hbo.2.1⟩
  obtain ⟨rfl, ho0⟩ := hbb
  have hle : (cellsOf enc l).length = l.length * k := cellsOf_len hk l
  have hsplit : l = l.take j ++ nth l j :: l.drop (j + 1) := by
    conv => lhs; rw [← List.take_append_drop j l, List.drop_eq_getElem_cons hj]
    rw [nth_eq hj]
  have hA : (cellsOf enc (l.take j)).length = j * k := by rw [cellsOf_len hk]; simp [Nat.min_eq_left (Nat.le_of_lt hj)]
  have hcells : cellsOf enc l = cellsOf enc (l.take j) ++ (pre ++ (mid ++ post)) ++ cellsOf enc (l.drop (j + 1)) := by
    conv => lhs; rw [hsplit]
    rw [cellsOf_append, cellsOf_cons, he]; simp [List.append_assoc]
  have hcells' : cellsOf enc (l.set j x') = cellsOf enc (l.take j) ++ (pre ++ (sub ++ post)) ++ cellsOf enc (l.drop (j + 1)) := by
    rw [List.set_eq_take_append_cons_drop, if_pos hj, cellsOf_append, cellsOf_cons, he']; simp [List.append_assoc]
  have hcur : cur.toList = cellsOf enc l ++ cur.toList.drop (l.length * k) := by
    have := List.take_append_drop (l.length * k) cur.toList
    rw [htk] at this
    exact this.symm
  have hoo : o = j * k + pre.length := by omega
  have hlen1 : j * k + (pre.length + (m + post.length)) ≤ l.length * k := by
    have := congrArg List.length hcells
    rw [hle] at this
    simp only [List.length_append, hA, hmid] at this
    omega
  have hsz : o + 0 + sub.length ≤ cur.size := by
    have : l.length * k ≤ cap * k := Nat.mul_le_mul_right k hlc
    rw [hcs, hsub]; omega
  have hst := run_storeCells_at P h.b o e sub 0 cur w hg hsz (fun u hu => List.all_eq_true.1 h1 u hu)
  have hnew : cur.toList.take (o + 0) ++ sub ++ cur.toList.drop (o + 0 + sub.length) = cellsOf enc (l.set j x') ++ cur.toList.drop (l.length * k) := by
    rw [hcells']
    generalize cur.toList.drop (l.length * k) = D at hcur
    rw [hcur, hcells, Nat.add_zero, hoo, hsub, ← hmid]
    have e1 : cellsOf enc (l.take j) ++ (pre ++ (mid ++ post)) ++ cellsOf enc (l.drop (j + 1)) ++ D = (cellsOf enc (l.take j) ++ pre) ++ (mid ++ (post ++ cellsOf enc (l.drop (j + 1)) ++ D)) := by simp [List.append_assoc]
    have e2 : j * k + pre.length = (cellsOf enc (l.take j) ++ pre).length := by rw [List.length_append, hA]
    rw [e1, e2, List.take_left', ← List.append_assoc (cellsOf enc (l.take j) ++ pre) mid, show (cellsOf enc (l.take j) ++ pre).length + mid.length = (cellsOf enc (l.take j) ++ pre ++ mid).length from by rw [@List.length_append _ (cellsOf enc (l.take j) ++ pre) mid], List.drop_left']
    · simp [List.append_assoc]
    · rfl
    · rfl
  rw [hnew] at hst
  have hgr : Gr (fun b => (slV h l).ownBlock = some b) w (w.setRow h.b (cellsOf enc (l.set j x') ++ cur.toList.drop (l.length * k)).toArray) :=
    ⟨rfl, rfl, rfl, by simp, fun b hb hn => setRow_other w h.b b _ fun e => hn (by rw [e, hv]; rfl), fun _ => Nat.le_refl _⟩
  have hlen' : (l.set j x').length = l.length := by simp
  have hle' : (cellsOf enc (l.set j x')).length = l.length * k := by rw [cellsOf_len hk, hlen']
  refine .skip (w' := _) ?_ (hK _ hgr (H.upd i hi (rowR e k enc h (l.set j x')) hgr ⟨⟨by rw [cellsOf_len hk], .inr ⟨h.b, cap, (cellsOf enc (l.set j x') ++ cur.toList.drop (l.length * k)).toArray, by rw [slV, hlen', hva.1, hva.2], Nat.zero_le _, setRow_heap w h.b _ _ e _ hg, by rw [hlen']; exact hlc, hcm, ?_, ?_⟩⟩, hq.2⟩ fun b hb => .inl (by
    simp only [rowR, slV, hva.1] at hb ⊢
    exact hb)))
  · have hvs : v.cells.size = m := by rw [← Array.length_toList, hc, hsub]
    simp [execOp, hx, hy, Instr.storeAt, Instr.sureAddr, storeVar, hs, hvs, hc, hst]
  · simp only [List.size_toArray, List.length_append, hle', List.length_drop, Array.length_toList, hcs]
    have : l.length * k ≤ cap * k := Nat.mul_le_mul_right k hlc
    omega
  · rw [List.toList_toArray, hlen', ← hle', List.take_left']
    rfl
end
theorem own_slV {α : Type} {h : SlH} {l l' : List α} : (slV h l).ownBlock = (slV h l').ownBlock := by
  cases hh : h.a <;> simp [slV, hh, Value.ownBlock]
theorem Ctx.updRow {α : Type} {w0 w w' : World} {M : Nat → Prop} {B : List Own} {I : List Imm} {t : TypeId} {k : Nat} {enc : α → Chs} {h : SlH} {l l' : List α} (H : Ctx w0 M w B I) (i : Nat) (hi : B[i]? = some (rowR t k enc h l))
    (hg : Gr (fun b => (slV h l).ownBlock = some b) w w') (hq : OwnS 0 t k enc h l' w') : Ctx w0 M w' (B.set i (rowR t k enc h l')) I :=
  H.upd i hi (rowR t k enc h l') hg hq fun b hb => .inl (by simp only [rowR] at hb ⊢; rw [own_slV (l' := l')]; exact hb)
theorem R_index_pure {α : Type} {P : Program} {ρ : Operand → Value} {w : World} {K : Value → World → Prop} {d : Option Tmp} {ty : TypeId} {pos : String} {af : Array Edge} {g : Option (Nat × Bool)} {h : SlH} {l : List α} {t e : TypeId} {x i : Operand} {oo size : Nat} {j : Int} {kk : IntKind} {F : Nat → Prop} {enc : α → Chs} {wz : World} (S : Sl F enc size h l wz) {n : Nat} (hn : n = l.length) (hu : P.underlying t = some (.slice e)) (hs : ∀ w, (sizeOf e).run P w = .ok size w)
    (hx : ρ x = .slice h.a n h.c) (hi : ρ i = .int kk j) (h0 : 0 ≤ j) (h1 : j < n) (hoo : h.o + j.toNat * size = oo) (hK : K (.pointer (some ⟨h.b, oo, none⟩)) w) :
    Runs P ρ ⟨d, .indexAddr t x i, ty, pos, af, g⟩ w K := by
  have ha := (S.there (by omega)).1
  exact R_index_slice (b := h.b) (o := h.o) (n := n) (c := h.c) hu hs (by rw [hx, ha]) hi h0 (by omega) hoo hK
theorem W_rgM {P : Program} {n : Nat} {Q : Exit → Env → World → Prop} {id : Nat} {l : List Oper} {e : Env} {w : World} (M : Nat → Prop) (mf : Nat → Nat) (π : List (Nat × Kd)) (hc : (textOk l && rgChk l mf π) = true)
    (h : Lx P n l.toArray M (fun e w => Q .normal e w) π e w) : W P n (.region id l.toArray false) Q e w := by
  simp only [rgChk, Bool.and_eq_true] at hc
  exact W_lx M mf π hc.1 hc.2.1.1 hc.2.1.2 hc.2.2 h
theorem W_rgdM {P : Program} {n : Nat} {Q : Exit → Env → World → Prop} {id : Nat} {l : List Oper} {e : Env} {w : World} (hm : P.follows .mixedOrders = true) (M : Nat → Prop) (mf : Nat → Nat) (π : List (Nat × Kd)) (hc : rgChk l mf π = true)
    (h : Lx P n l.toArray M (fun e w => Q .normal e w) π e w) : W P n (.region id l.toArray true) Q e w := by
  simp only [rgChk, Bool.and_eq_true] at hc
  exact W_lx_draw hm M mf π hc.1.1 hc.1.2 hc.2 h
theorem ret_n {P : Program} {n : Nat} {fn : Func} {K : Value → World → Prop} {e : Env} {w : World} (h : bodyQ P n fn K .ret e w) : bodyQ P n fn K .normal e w := h
theorem slV_len {α : Type} {h : SlH} {l l' : List α} (hl : l.length = l'.length) : slV h l = slV h l' := by simp only [slV, hl]
theorem two_eq {α β γ : Type} (f : α → β → γ) {a a' : α} {b b' : β} (h : a = a') (k : b = b') : f a b = f a' b' := by rw [h, k]
end Go.Proofs.YthjdhfoeckfmbaaGreat
namespace Go.Proofs.YthjdhfoeckfmbaaGreat
open Go
set_option linter.unusedVariables false
set_option linter.unusedSimpArgs false
set_option linter.unusedSectionVars false
variable [DD]
theorem conv_u8 (u : Nat) : IntKind.u8.wrap ((u : Nat) : Int) = ((UInt8.ofNat u).toNat : Int) := by
  simp only [IntKind.wrap, IntKind.signed, IntKind.bits]
  simp
theorem u64_in (n : Int) (h : 0 ≤ n ∧ n ≤ 18446744073709551615) : IntKind.u64.wrap n = n := by
  simp only [IntKind.wrap, IntKind.signed, IntKind.bits]
  simp
  omega
theorem bit_or8 (a b : UInt8) : bitI .u8 .or (a.toNat : Int) (b.toNat : Int) = some ((a ||| b).toNat : Int) := by
  simp only [bitI, Option.some.injEq]
  have ha := a.toNat_lt; have hb := b.toNat_lt
  have : (BitVec.ofInt IntKind.u8.bits (a.toNat : Int) ||| BitVec.ofInt IntKind.u8.bits (b.toNat : Int)).toNat = (a ||| b).toNat := by
    show (BitVec.ofInt 8 (a.toNat : Int) ||| BitVec.ofInt 8 (b.toNat : Int)).toNat = _
    rw [BitVec.toNat_or, UInt8.toNat_or]
    simp only [BitVec.toNat_ofInt]
    congr 1 <;> omega
  rw [this, conv_u8, UInt8.ofNat_toNat]
theorem bit_and8 (a b : UInt8) : bitI .u8 .and (a.toNat : Int) (b.toNat : Int) = some ((a &&& b).toNat : Int) := by
  simp only [bitI, Option.some.injEq]
  have ha := a.toNat_lt; have hb := b.toNat_lt
  have : (BitVec.ofInt IntKind.u8.bits (a.toNat : Int) &&& BitVec.ofInt IntKind.u8.bits (b.toNat : Int)).toNat = (a &&& b).toNat := by
    show (BitVec.ofInt 8 (a.toNat : Int) &&& BitVec.ofInt 8 (b.toNat : Int)).toNat = _
    rw [BitVec.toNat_and, UInt8.toNat_and]
    simp only [BitVec.toNat_ofInt]
    congr 1 <;> omega
  rw [this, conv_u8, UInt8.ofNat_toNat]
theorem shr_nat (u k : Nat) (hk : k ≤ 64) : ((u : Nat) : Int).fdiv (2 ^ min ((k : Nat) : Int).toNat IntKind.u64.bits) = ((u / 2 ^ k : Nat) : Int) := by
  rw [show min ((k : Nat) : Int).toNat IntKind.u64.bits = k from by simp [IntKind.bits]; omega]
  rw [Int.fdiv_eq_ediv_of_nonneg _ (by exact Int.pow_nonneg (by omega))]
  simp
section
variable {α : Type} {P : Program} {ρ : Operand → Value} {w0 w w' : World} {M : Nat → Prop} {B : List Own} {I : List Imm} {K : Value → World → Prop} {d : Option Tmp} {ty : TypeId} {pos : String} {af : Array Edge} {g : Option (Nat × Bool)}
theorem cellsOf_bytes (l : List UInt8) : cellsOf encB l = l.map byteV := by
  induction l with
  | nil => rfl
  | cons b l ih => rw [cellsOf_cons, ih]; rfl
theorem C_appendS (H : Ctx w0 M w B I) (i : Nat) {e : TypeId} {hl0 : SlH} {l : List UInt8} (hi : B[i]? = some (rowR e 1 encB hl0 l)) {s x : Operand} {t u : TypeId} {info : TypeInfo} {str : ByteArray} (hu : P.underlying t = some (.slice e)) (hus : P.underlying u = some .string) (hinf : P.info? e = some info) (hz : info.zero = some (.int .u8 0)) (hsz : info.size = 1) (hby : info.bytes = 1)
    (hs : ρ s = slV hl0 l) (hx : ρ x = .string str) (hlen : l.length + str.size ≤ 140737488355328)
    (hK : ∀ h' w', Gr (fun k => (slV hl0 l).ownBlock = some k) w w' → Ctx w0 M w' (B.set i (rowR e 1 encB h' (l ++ str.data.toList))) I → K (slV h' (l ++ str.data.toList)) w') :
    Runs P ρ ⟨d, .call { callee := .builtin .append, args := #[s, x], argTypes := #[t, u] }, ty, pos, af, g⟩ w K := by
  obtain ⟨v, hv⟩ : ∃ v, v = slV hl0 l := ⟨_, rfl⟩
  rw [← hv] at hs hK
  have hq : w.ownsRow 0 e 1 v l.length (cellsOf encB l) := by
    have := (show OwnS 0 e 1 encB hl0 l w from H.getOwn i hi).1
    rw [← hv] at this; exact this
  have hm : l.length + str.size ≤ maxLen := by simp only [maxLen]; omega
  obtain ⟨v', w', hr, hown, hgr, _⟩ := Lib.run_append_own_string (P := P) w 0 t u ty e info hu hus hinf hz hsz hby v l.length _ hq str hm hlen (Nat.zero_le _)
  have hcs : cellsOf encB l ++ Lib.strCells str = cellsOf encB (l ++ str.data.toList) := by
    rw [cellsOf_append, cellsOf_bytes str.data.toList]; rfl
  have hll : l.length + str.size = (l ++ str.data.toList).length := by
    rw [List.length_append, Array.length_toList]; rfl
  rw [hcs, hll] at hown
  have hbl : v'.ownBlock = v.ownBlock ∨ v'.ownBlock = some w.heap.size := by
    have hok : ∀ {v1 : Value} {w1 : World}, (Builtin.append_ #[t, u] ty #[v, .string str]).run P w = .ok v1 w1 → v' = v1 := fun h1 => by
      rw [hr] at h1; injection h1
    rcases hq.2 with ⟨rfl, h0⟩ | ⟨gb, cap, cur, rfl, _, hg, hnc, hcm, hcsz, htk⟩
    · by_cases hm0 : str.size = 0
      · left
        rcases hown.2 with ⟨rfl, _⟩ | ⟨gb, cap, cur, rfl, _, hg, _⟩
        · rfl
        · exfalso
          have hf := Lib.run_firstCells_string (P := P) w 1 str
          rw [hm0] at hf
          have : (Builtin.append_ #[t, u] ty #[.slice none 0 0, .string str]).run P w = .ok (.slice none 0 0) w := by
            simp [Builtin.append_, run_underlying hu, run_underlying hus, sizeOf, typeInfo, hinf, hsz, Builtin.lenOf, hm0, hf]
          have := hok this
          cases this
      · right
        have hr2 := run_append_nil_string (P := P) w t u ty e info (.int .u8 0) hu hus hinf hz str (by omega) (by omega) (by rw [hby]; omega)
        rw [hok hr2]; rfl
    · by_cases hroom : l.length + str.size ≤ cap
      · left
        have hr2 := Lib.run_append_room_string (P := P) w t u ty e info hu hus hinf hsz gb l.length cap cur hg str hroom (by omega)
        rw [hok hr2]; rfl
      · right
        have holds : ∀ j u, (cellsOf encB l)[j]? = some u → w.cell? ((⟨gb, 0, none⟩ : Addr).add j) = some u := hq.cells (g := gb) rfl
        have hr2 := Lib.run_append_grow_string (P := P) w t u ty e info (.int .u8 0) hu hus hinf hz ⟨gb, 0, none⟩ l.length cap (cellsOf encB l) (by rw [hsz]; simpa using hq.1) holds str (by omega) (by omega) (by rw [hby]; exact growslice_fits (by omega) (by omega))
        rw [hok hr2]; rfl
  have hG : Gr (fun k => v.ownBlock = some k) w w' := ⟨hgr.os, hgr.tape, hgr.output, hgr.size, fun b hb hn => hgr.block b hb fun e => hn e.symm, fun _ => sem_drawn _ _ hr⟩
  obtain ⟨h', rfl, hO⟩ := OwnS.of (l := l ++ str.data.toList) hown rfl
  have hG' : Gr (fun k => (rowR e 1 encB hl0 l).blk = some k) w w' := by simp only [rowR]; rw [← hv]; exact hG
  refine .value (v := slV h' (l ++ str.data.toList)) (w' := w') ?_ (hK h' w' hG (H.upd i hi (rowR e 1 encB h' (l ++ str.data.toList)) hG' hO ?_))
  · simp [execOp, resolve, invoke, builtin, hs, hx, hr]
  · intro b hb
    rcases hbl with hbl | hbl
    · refine .inl ?_
      simp only [rowR]; rw [← hv]; exact hbl.symm.trans hb
    · right
      have : b = w.heap.size := by
        have hb' : (slV h' (l ++ str.data.toList)).ownBlock = some b := hb
        rw [hbl] at hb'; simpa using hb'.symm
      subst this
      exact ⟨Nat.le_refl _, (hown.lt _ hb).2⟩
def idList (d : ID) : List UInt8 := [d[0], d[1], d[2], d[3], d[4], d[5], d[6], d[7], d[8], d[9], d[10], d[11], d[12], d[13], d[14], d[15], d[16], d[17], d[18], d[19], d[20], d[21], d[22], d[23], d[24], d[25], d[26], d[27], d[28], d[29], d[30], d[31]]
theorem idList_len (d : ID) : (idList d).length = 32 := rfl
theorem idList_eq (d : ID) : idList d = d.toList := by
  apply List.ext_getElem (by simp [idList_len])
  intro i h1 h2
  have h : i < 32 := h1
  have : i = 0 ∨ i = 1 ∨ i = 2 ∨ i = 3 ∨ i = 4 ∨ i = 5 ∨ i = 6 ∨ i = 7 ∨ i = 8 ∨ i = 9 ∨ i = 10 ∨ i = 11 ∨ i = 12 ∨ i = 13 ∨ i = 14 ∨ i = 15 ∨ i = 16 ∨ i = 17 ∨ i = 18 ∨ i = 19 ∨ i = 20 ∨ i = 21 ∨ i = 22 ∨ i = 23 ∨ i = 24 ∨ i = 25 ∨ i = 26 ∨ i = 27 ∨ i = 28 ∨ i = 29 ∨ i = 30 ∨ i = 31 := by omega
  rcases this with rfl | rfl | rfl | rfl | rfl | rfl | rfl | rfl | rfl | rfl | rfl | rfl | rfl | rfl | rfl | rfl | rfl | rfl | rfl | rfl | rfl | rfl | rfl | rfl | rfl | rfl | rfl | rfl | rfl | rfl | rfl | rfl <;> simp [idList]
theorem Sl_box {b : Nat} {t : TypeId} {d : ID} (h : (boxR b t [idCells d]).q w) : Sl (fun k => some b = some k) encB 1 ⟨some ⟨b, 0, none⟩, b, 0, 32⟩ (idList d) w := by
  refine ⟨by rw [idList_len]; exact Nat.le_refl _, by simp [maxLen], fun _ => ⟨rfl, rfl⟩, fun i x hx => ?_⟩
  have hat := At_of_row h
  intro j v hv
  have hj : j = 0 := by
    have := (List.getElem?_eq_some_iff.1 hv).1
    simp at this; omega
  subst hj
  simp only [List.flatten_cons, List.flatten_nil, List.append_nil, List.getElem?_cons_zero, Option.some.injEq] at hv
  subst hv
  have h1 : [idCells d].flatten[i]? = some (byteV x) := by
    rw [List.flatten_cons, List.flatten_nil, List.append_nil, show idCells d = (idList d).map byteV from rfl, List.getElem?_map, hx]; rfl
  have := hat i (byteV x) h1
  simpa using this
theorem R_slice_arr {t e : TypeId} {x : Operand} {b o n : Nat} (hu : P.underlying t = some (.array n e)) (hs : ∀ w, (sizeOf e).run P w = .ok 1 w) (hx : ρ x = .pointer (some ⟨b, o, none⟩)) (hn : 0 < n)
    (hK : K (.slice (some ⟨b, o, none⟩) n n) w) : Runs P ρ ⟨d, .slice t x none none none, ty, pos, af, g⟩ w K := by
  refine .value (v := .slice (some ⟨b, o, none⟩) n n) (w' := w) ?_ hK
  have hn0 : ¬ n = 0 := by omega
  simp [execOp, hx, Instr.sliceAt, run_underlying hu, Instr.sliceBounds, hs, Instr.sureAddr, hn0, add_lit]
theorem R_max2L {l : List Operand} {a b : Int} {k : IntKind} {at_ : Array TypeId} (hl : l.map ρ = [.int k a, .int k b]) (h : K (.int k (max a b)) w) :
    Runs P ρ ⟨d, .call { callee := .builtin .max, args := l.toArray, argTypes := at_ }, ty, pos, af, g⟩ w K := by
  match l with
  | [x, y] =>
    simp only [List.map_cons, List.map_nil, List.cons.injEq, and_true] at hl
    exact R_max2 hl.1 hl.2 h
  | [] => simp at hl
  | [_] => simp at hl
  | _ :: _ :: _ :: _ => simp at hl
theorem R_min2L {l : List Operand} {a b : Int} {k : IntKind} {at_ : Array TypeId} (hl : l.map ρ = [.int k a, .int k b]) (h : K (.int k (min a b)) w) :
    Runs P ρ ⟨d, .call { callee := .builtin .min, args := l.toArray, argTypes := at_ }, ty, pos, af, g⟩ w K := by
  match l with
  | [x, y] =>
    simp only [List.map_cons, List.map_nil, List.cons.injEq, and_true] at hl
    exact R_min2 hl.1 hl.2 h
  | [] => simp at hl
  | [_] => simp at hl
  | _ :: _ :: _ :: _ => simp at hl
end
theorem Sl.as {α : Type} {F : Nat → Prop} {enc : α → Chs} {k : Nat} {w : World} (h : SlH) (l : List α) (s : Sl F enc k h l w) : Sl F enc k h l w := s
theorem Ctx.pick {w0 w : World} {M : Nat → Prop} {B : List Own} {I : List Imm} (H : Ctx w0 M w B I) {B' : List Own} {I' : List Imm} (is : List Nat) (hnd : is.Nodup) (hB : is.map (fun i => B[i]?) = B'.map some) (hI : ∀ i ∈ I', i ∈ I) : Ctx w0 M w B' I' := by
  have hget : ∀ (k : Nat) (hk : k < B'.length), ∃ (i : Nat), ∃ (hi : i < is.length), is[i]'hi = is[i]'hi ∧ i = k ∧ B[is[i]'hi]? = some (B'[k]'hk) := by
    intro k hk
    have hl : is.length = B'.length := by simpa using congrArg List.length hB
    have := congrArg (fun l => l[k]?) hB
    simp only [List.getElem?_map, List.getElem?_eq_getElem hk, List.getElem?_eq_getElem (hl ▸ hk), Option.map_some, Option.some.injEq] at this
    exact ⟨k, hl ▸ hk, rfl, rfl, this⟩
  have hmem : ∀ o ∈ B', o ∈ B := by
    intro o ho
    obtain ⟨k, hk, rfl⟩ := List.getElem_of_mem ho
    obtain ⟨i, hi, _, _, h⟩ := hget k hk
    exact List.mem_of_getElem? h
  refine ⟨H.gr, fun o ho => H.own o (hmem o ho), fun i hi => H.imm i (hI i hi), ?_, fun o ho i hi => H.off o (hmem o ho) i (hI i hi)⟩
  rw [List.pairwise_iff_getElem]
  intro a b ha hb hab blk hba hbb
  obtain ⟨i, hi, _, rfl, h1⟩ := hget a ha
  obtain ⟨j, hj, _, rfl, h2⟩ := hget b hb
  have hne : is[i] ≠ is[j] := fun e => by
    have := (List.getElem_inj hnd).1 e
    omega
  obtain ⟨l1, e1⟩ := List.getElem?_eq_some_iff.1 h1
  obtain ⟨l2, e2⟩ := List.getElem?_eq_some_iff.1 h2
  have hp := List.pairwise_iff_getElem.1 H.apart
  rcases Nat.lt_or_gt_of_ne hne with hlt | hgt
  · exact hp _ _ l1 l2 hlt blk (by rw [e1]; exact hba) (by rw [e2]; exact hbb)
  · exact hp _ _ l2 l1 hgt blk (by rw [e2]; exact hbb) (by rw [e1]; exact hba)
end Go.Proofs.YthjdhfoeckfmbaaGreat
namespace Go.Proofs.YthjdhfoeckfmbaaGreat
open Go
set_option linter.unusedVariables false
set_option linter.unusedSimpArgs false
set_option linter.unusedSectionVars false
variable [DD]
section
variable {w0 w w' : World} {M M' : Nat → Prop} {B : List Own} {I : List Imm}
theorem Ctx.restart (H : Ctx w0 M w B I) (hM : ∀ o ∈ B, ∀ b, o.blk = some b → M' b) : Ctx w M' w B I :=
  ⟨Gr.refl _ _, fun o ho => ⟨(H.own o ho).1, fun b hb => ⟨((H.own o ho).2 b hb).1, fun _ => hM o ho b hb⟩⟩, H.imm, H.apart, H.off⟩
theorem Ctx.apart2 (H : Ctx w0 M w B I) {i j : Nat} (hij : i ≠ j) {o o' : Own} (hi : B[i]? = some o) (hj : B[j]? = some o') : ∀ b, o.blk = some b → o'.blk ≠ some b := by
  intro b hb hb'
  obtain ⟨li, ei⟩ := List.getElem?_eq_some_iff.1 hi
  obtain ⟨lj, ej⟩ := List.getElem?_eq_some_iff.1 hj
  have hp := List.pairwise_iff_getElem.1 H.apart
  rcases Nat.lt_or_gt_of_ne hij with h | h
  · exact hp i j li lj h b (by rw [ei]; exact hb) (by rw [ej]; exact hb')
  · exact hp j i lj li h b (by rw [ej]; exact hb') (by rw [ei]; exact hb)
end
section
variable {α : Type} {w0 w w' : World} {M : Nat → Prop} {B : List Own} {I : List Imm} {b : Nat} {tb te : TypeId} {cs : Chs} {k : Nat} {enc : α → Chs} {h h0 : SlH} {l l0 : List α}
end
def boxI (F : Nat → Prop) (b : Nat) (hF : F b) (t : TypeId) (cs : Chs) : Imm where
  F := F
  p := (boxR b t cs).q
  loc w w' h hq := (boxR b t cs).loc w w' (fun c hc => by
    simp only [boxR, Option.some.injEq] at hc
    subst hc; exact h _ hF) hq
theorem boxR_lt {b : Nat} {t : TypeId} {cs : Chs} {w : World} (h : (boxR b t cs).q w) : b < w.heap.size := (Array.getElem?_eq_some_iff.1 (show w.heap[b]? = some _ from h)).1
theorem Ctx.ownGr {w0 w w1 : World} {M : Nat → Prop} {B : List Own} {I : List Imm} (H : Ctx w0 M w B I) (i j : Nat) (hij : i ≠ j) {o o' : Own} (hi : B[i]? = some o) (hj : B[j]? = some o') {M1 : Nat → Prop} (hg : Gr M1 w w1) (hM : ∀ b, M1 b → o'.blk = some b) : o.q w1 :=
  o.loc w w1 (fun b hb => hg.block b ((H.own o (List.mem_of_getElem? hi)).2 b hb).1 fun h => H.apart2 hij hi hj b hb (hM b h)) (H.getOwn i hi)
section
variable {P : Program} {n : Nat} {ops : Array Oper} {M : Nat → Prop} {Q : Env → World → Prop} {e : Env} {w wc : World} {rest : List (Nat × Kd)}
theorem Lx_qT {i : Nat} {wk : Nat} {d : Nat} {op : Op} {ty : TypeId} {pos : String} {af : Array Edge} {j dj : Nat} {b : Bool} {oj : Oper}
    (ho : ops[i]? = some ⟨some d, op, ty, pos, af, some (j, b)⟩) (hj : ops[j]? = some oj) (hdj : oj.dst = some dj) (hx : e dj = .bool b) (hd : Nat.blt d n = true) (v : Value)
    (h : ∀ w, GrF M wk wc w → Runs P (evalE e) ⟨some d, op, ty, pos, af, some (j, b)⟩ w (fun v' w' => v' = v ∧ Ext w w')) (k : Lx P n ops M Q rest (upd e d v) wc) : Lx P n ops M Q ((i, .q wk) :: rest) e wc := by
  have hw : wantE ops e ⟨some d, op, ty, pos, af, some (j, b)⟩ = true := by
    simp only [wantE, hj, Option.bind_some, hdj, hx]
    cases b <;> rfl
  exact ⟨_, ho, hd, v, by rw [if_pos hw]; exact h, k⟩
theorem Lx_cT {i : Nat} {mu : Nat} {d : Nat} {op : Op} {ty : TypeId} {pos : String} {af : Array Edge} {j dj : Nat} {b : Bool} {oj : Oper}
    (ho : ops[i]? = some ⟨some d, op, ty, pos, af, some (j, b)⟩) (hj : ops[j]? = some oj) (hdj : oj.dst = some dj) (hx : e dj = .bool b) (hd : Nat.blt d n = true)
    (h : ∀ w, Ext wc w → Runs P (evalE e) ⟨some d, op, ty, pos, af, some (j, b)⟩ w (fun v w' => GrF M mu w w' ∧ Lx P n ops M Q rest (upd e d v) w')) : Lx P n ops M Q ((i, .c mu) :: rest) e wc := by
  have hw : wantE ops e ⟨some d, op, ty, pos, af, some (j, b)⟩ = true := by
    simp only [wantE, hj, Option.bind_some, hdj, hx]
    cases b <;> rfl
  exact ⟨_, ho, hd, fun w hw' => by rw [if_pos hw]; exact h w hw'⟩
end
theorem boolK {b : Bool} (h : b = true) : Value.bool b = Value.bool true := congrArg Value.bool h
end Go.Proofs.YthjdhfoeckfmbaaGreat
namespace Go.Proofs.YthjdhfoeckfmbaaGreat
open Go Go.ChangeShapes Go.WideShapes Go.RowKit
set_option linter.unusedVariables false
set_option linter.unusedSimpArgs false
set_option linter.unusedSectionVars false
variable [DD]
structure Rd (P : Program) (W : World) (R : Nat) (t : TypeId) {α : Type} (en : α → List Value) (ok : α → Prop) : Prop where
  out : ∀ {H : Type} {enc : TypeId × Value → H} {fuel : Nat} {cs : List Value} {x : DataW H × List MemPlace}, DataW.trod enc P W 0 (fun _ => true) true fuel t cs = some x → (∀ k ∈ x.1.weights P t, k ≤ R) → ∃ a, cs = en a ∧ ok a
section
variable {P : Program} {W : World} {R : Nat} {t : TypeId}
theorem Rd_int {k : IntKind} (h : P.underlying t = some (.int k)) : Rd P W R t (fun n : Int => [.int k n]) (fun n => (Lit.int k n).wf = true) :=
  ⟨fun h1 _ => by
    obtain ⟨n, h2, _, h3⟩ := DataW.trod_int h h1
    exact ⟨n, h2, h3⟩⟩
theorem Rd_str (h : P.underlying t = some .string) : Rd P W R t (fun s : ByteArray => [.string s]) (fun s => s.size ≤ R) :=
  ⟨fun h1 hw => by
    obtain ⟨s, h2, hx, h3⟩ := DataW.trod_string h h1
    refine ⟨s, h2, ?_⟩
    subst hx
    have := hw s.data.toList.length (by simp [DataW.weights])
    simpa using this⟩
theorem list_of_lt {α : Type} {p : Nat → α → Prop} : ∀ {n : Nat}, (∀ i, i < n → ∃ x, p i x) → ∃ l : List α, l.length = n ∧ ∀ i x, l[i]? = some x → p i x
  | 0, _ => ⟨[], rfl, fun i x h => by simp at h⟩
  | n + 1, h => by
    obtain ⟨l, h1, h2⟩ := list_of_lt (n := n) fun i hi => h i (by omega)
    obtain ⟨x, hx⟩ := h n (by omega)
    refine ⟨l ++ [x], by simp [h1], fun i y hy => ?_⟩
    by_cases hi : i < l.length
    · rw [List.getElem?_append_left hi] at hy; exact h2 i y hy
    · have : i = l.length := by
        have := (List.getElem?_eq_some_iff.1 hy).1
        simp at this; omega
      subst this
      rw [List.getElem?_append_right (Nat.le_refl _)] at hy
      simp at hy
      subst hy; rw [h1]; exact hx
theorem spot_none {W : World} {a : Addr} {v : Value} (h : W.cell? a = some v) : a = ⟨a.block, a.off, none⟩ := by
  unfold World.cell? at h
  split at h
  · split at h
    · cases h
    · rename_i hs
      cases a with
      | mk b o s => cases s with
        | none => rfl
        | some _ => simp at hs
  · cases h
theorem weightsAll_mem {H : Type} {e : TypeId} {d : DataW H} : ∀ {l : List (DataW H)}, d ∈ l → ∀ k ∈ d.weights P e, k ∈ DataW.weightsAll P e l
  | x :: r, h, k, hk => by
    unfold DataW.weightsAll
    rw [List.mem_append]
    rcases List.mem_cons.1 h with rfl | h
    · exact .inl hk
    · exact .inr (weightsAll_mem h k hk)
theorem Rd_slice {e : TypeId} {n bytes : Nat} {α : Type} {en : α → Chs} {ok : α → Prop} (hu : P.underlying t = some (.slice e)) (hn : P.cellsOf e = n) (hb : P.bytesOf e = bytes) (h0 : 0 < n) (hl : ∀ a, (en a).flatten.length = n) (E : Rd P W R e (fun a => (en a).flatten) ok) :
    Rd P W R t (fun x : SlH × List α => [slV x.1 x.2]) (fun x => Sl (Old W) en n x.1 x.2 W ∧ x.2.length * bytes ≤ R ∧ ∀ a ∈ x.2, ok a) := by
  refine ⟨fun {H enc fuel cs x} h1 hw => ?_⟩
  rcases Deep.open_slice hu h1 with ⟨rfl, rfl⟩ | ⟨a, len, cap, m, k, D, Pl, rfl, _, h2, h3, h4, rfl, h5⟩
  · exact ⟨(nilH, []), rfl, Sl.nil _ _ _ _, by simp, fun _ h => (nomatch h)⟩
  · have h4 : m = cap := h4
    subst h4
    rw [hn] at h5
    have hwe : ∀ i, i < m → ∀ q ∈ (D i).weights P e, q ≤ R := by
      intro i hi q hq
      refine hw q ?_
      unfold DataW.weights
      rw [hu]
      refine List.mem_cons_of_mem _ (List.mem_append.2 ?_)
      by_cases hil : i < len
      · exact .inl (weightsAll_mem (List.mem_map.2 ⟨i, List.mem_range.2 hil, rfl⟩) q hq)
      · exact .inr (weightsAll_mem (List.mem_map.2 ⟨i - len, List.mem_range.2 (by omega), by rw [show len + (i - len) = i from by omega]⟩) q hq)
    obtain ⟨l, hl1, hl2⟩ := list_of_lt (n := len) (p := fun i (x : α) => W.cells? 0 (a.add (i * n)) n = some (en x).flatten ∧ ok x) fun i hi => by
      obtain ⟨cs', h6, h7⟩ := h5 i (by omega)
      obtain ⟨y, h8, h9⟩ := E.out h7 (hwe i (by omega))
      exact ⟨y, by rw [h6, h8], h9⟩
    have cellAt : ∀ i x, l[i]? = some x → ∀ j v, (en x).flatten[j]? = some v → W.cell? ((a.add (i * n)).add j) = some v := by
      intro i x hx j v hv
      obtain ⟨h6, _⟩ := hl2 i x hx
      obtain ⟨_, _, h7⟩ := World.cells?_some h6
      have hj := (List.getElem?_eq_some_iff.1 hv).1
      rw [h7 j (by rw [hl] at hj; exact hj)]; exact hv
    have haddr : 0 < len → a = ⟨a.block, a.off, none⟩ := by
      intro hp
      have h0l : 0 < l.length := by omega
      have hx : l[0]? = some l[0] := List.getElem?_eq_getElem h0l
      have hf : 0 < (en l[0]).flatten.length := by rw [hl]; exact h0
      have := cellAt 0 _ hx 0 _ (List.getElem?_eq_getElem hf)
      rw [Nat.zero_mul] at this
      exact spot_none this
    refine ⟨(⟨some a, a.block, a.off, m⟩, l), by simp [slV, hl1], ⟨by rw [hl1]; exact h2, h3, fun hp => ?_, fun i x hx => ?_⟩, ?_, fun y hy => ?_⟩
    · have e1 := haddr (by rw [← hl1]; exact hp)
      refine ⟨congrArg some e1, ?_⟩
      have hx : l[0]? = some l[0] := List.getElem?_eq_getElem hp
      have hf : 0 < (en l[0]).flatten.length := by rw [hl]; exact h0
      have := cellAt 0 _ hx 0 _ (List.getElem?_eq_getElem hf)
      rw [Nat.zero_mul] at this
      exact World.block_lt_of_cell? W _ this
    · intro j v hv
      have hil : i < l.length := (List.getElem?_eq_some_iff.1 hx).1
      have := cellAt i x hx j v hv
      rw [haddr (by omega), add_lit, add_lit] at this
      exact this
    · have := hw ((((List.range len).map D).length + ((List.range (m - len)).map fun j => D (len + j)).length) * P.bytesOf e) (by unfold DataW.weights; rw [hu]; exact List.mem_cons_self ..)
      rw [hb] at this
      simp only [List.length_map, List.length_range] at this
      rw [hl1]
      have h6 : len * bytes ≤ (len + (m - len)) * bytes := Nat.mul_le_mul_right _ (by omega)
      omega
    · obtain ⟨i, hi, rfl⟩ := List.getElem_of_mem hy
      exact (hl2 i _ (List.getElem?_eq_getElem hi)).2
theorem cut1 {cs : List Value} {a : Nat} : cs = cs.take a ++ cs.drop a := (List.take_append_drop a cs).symm
theorem weightsEach_get {H : Type} : ∀ {ts : List TypeId} {ds : List (DataW H)} {i : Nat} {u : TypeId} {d : DataW H}, ts[i]? = some u → ds[i]? = some d → ∀ k ∈ d.weights P u, k ∈ DataW.weightsEach P ts ds
  | [], _, _, _, _, h, _, _, _ => by simp at h
  | _ :: _, [], _, _, _, _, h, _, _ => by simp at h
  | t :: ts, d :: ds, 0, u, d', h, h', k, hk => by
    simp at h h'
    subst h h'
    unfold DataW.weightsEach
    exact List.mem_append.2 (.inl hk)
  | t :: ts, d :: ds, i + 1, u, d', h, h', k, hk => by
    unfold DataW.weightsEach
    exact List.mem_append.2 (.inr (weightsEach_get (by simpa using h) (by simpa using h') k hk))
theorem struct_part {H : Type} {enc : TypeId × Value → H} {fuel : Nat} {cs : List Value} {x : DataW H × List MemPlace} {fs : Array Field} (hu : P.underlying t = some (.struct fs)) (h : DataW.trod enc P W 0 (fun _ => true) true fuel t cs = some x) (hw : ∀ k ∈ x.1.weights P t, k ≤ R)
    {i : Nat} {f : Field} (hf : fs[i]? = some f) {α : Type} {en : α → List Value} {ok : α → Prop} (E : Rd P W R f.type en ok) : ∃ a, (cs.drop f.offset).take (P.cellsOf f.type) = en a ∧ ok a := by
  obtain ⟨xs, n, _, rfl, hl, hlen, hp⟩ := DataW.trod_struct hu h
  have h1 := hp i f hf
  have hi : i < xs.length := by rw [hlen]; exact (Array.getElem?_eq_some_iff.1 hf).1
  rw [List.getElem?_eq_getElem hi] at h1
  refine E.out h1 fun k hk => hw k ?_
  unfold DataW.weights
  rw [hu]
  exact weightsEach_get (i := i) (u := f.type) (d := xs[i].1) (by simp [hf]) (by simp [List.getElem?_eq_getElem hi]) k hk
theorem struct_len {H : Type} {enc : TypeId × Value → H} {fuel : Nat} {cs : List Value} {x : DataW H × List MemPlace} {fs : Array Field} (hu : P.underlying t = some (.struct fs)) (h : DataW.trod enc P W 0 (fun _ => true) true fuel t cs = some x) : cs.length = P.cellsOf t := by
  obtain ⟨xs, n, _, rfl, hl, _⟩ := DataW.trod_struct hu h
  exact hl
theorem cutL {cs : List Value} {a b : Nat} (h : cs.length = a + b) : (cs.drop a).take b = cs.drop a := List.take_of_length_le (by simp; omega)
end
def i64ok (n : Int) : Prop := (Lit.int .i64 n).wf = true
def Stamp.wf (s : Stamp) : Prop := i64ok s.T ∧ i64ok s.R
section
variable {P : Program} {W : World} {R : Nat} {t : TypeId}
theorem Rd_stamp {f0 f1 : Field} (hu : P.underlying t = some (.struct #[f0, f1])) (hc : P.cellsOf t = 2) (o0 : f0.offset = 0) (o1 : f1.offset = 1) (c0 : P.cellsOf f0.type = 1) (c1 : P.cellsOf f1.type = 1)
    (h0 : P.underlying f0.type = some (.int .i64)) (h1 : P.underlying f1.type = some (.int .i64)) : Rd P W R t (fun s : Stamp => (stampCh s).flatten) Stamp.wf := by
  refine ⟨fun h hw => ?_⟩
  have hl := struct_len hu h
  obtain ⟨a, ha, oka⟩ := struct_part hu h hw (i := 0) (f := f0) rfl (Rd_int h0)
  obtain ⟨b, hb, okb⟩ := struct_part hu h hw (i := 1) (f := f1) rfl (Rd_int h1)
  rw [o0, c0, List.drop_zero] at ha
  rw [o1, c1, cutL (by omega)] at hb
  refine ⟨⟨a, b⟩, ?_, oka, okb⟩
  rename_i cs _
  rw [cut1 (cs := cs) (a := 1), ha, hb]; rfl
theorem Rd_byte (h : P.underlying t = some (.int .u8)) : Rd P W R t (fun b : UInt8 => (encB b).flatten) (fun _ => True) :=
  ⟨fun h1 _ => by
    obtain ⟨n, h2, _, h3⟩ := DataW.trod_int h h1
    have h5 : 0 ≤ n ∧ n ≤ 255 := by simpa [Lit.wf, IntKind.min, IntKind.max, IntKind.signed, IntKind.bits] using h3
    refine ⟨UInt8.ofNat n.toNat, ?_, trivial⟩
    rw [h2]
    show [Value.int .u8 n] = [byteV _]
    unfold byteV
    congr 2
    rw [UInt8.toNat_ofNat', Nat.mod_eq_of_lt (by omega)]
    omega⟩
theorem Rd_id {e : TypeId} (hu : P.underlying t = some (.array 32 e)) (hc : P.cellsOf t = 32) (ce : P.cellsOf e = 1) (he : P.underlying e = some (.int .u8)) : Rd P W R t (fun d : ID => (idCh d).flatten) (fun _ => True) := by
  refine ⟨fun {H enc fuel cs x} h hw => ?_⟩
  obtain ⟨xs, m, _, rfl, hl, hlen, hp⟩ := DataW.trod_array hu h
  rw [hc] at hl
  have one : ∀ i (hi : i < 32), ∃ b : UInt8, cs[i]? = some (byteV b) := by
    intro i hi
    have h1 := hp i hi
    rw [ce, Nat.mul_one, List.getElem?_eq_getElem (by omega)] at h1
    obtain ⟨n, h2, _, h3⟩ := DataW.trod_int he h1
    have h4 : cs[i]? = some (.int .u8 n) := by
      have := congrArg (fun l => l[0]?) h2
      simpa [List.getElem?_take, List.getElem?_drop] using this
    have h5 : 0 ≤ n ∧ n ≤ 255 := by simpa [Lit.wf, IntKind.min, IntKind.max, IntKind.signed, IntKind.bits] using h3
    refine ⟨UInt8.ofNat n.toNat, ?_⟩
    rw [h4]
    unfold byteV
    congr 2
    rw [UInt8.toNat_ofNat', Nat.mod_eq_of_lt (by omega)]
    omega
  obtain ⟨l, hl1, hl2⟩ := list_of_lt (n := 32) (p := fun i (b : UInt8) => cs[i]? = some (byteV b)) one
  refine ⟨⟨l.toArray, by simp [hl1]⟩, ?_, trivial⟩
  rw [List.flatten_cons, List.flatten_nil, List.append_nil, idCells_eq]
  apply List.ext_getElem?
  intro i
  by_cases hi : i < 32
  · rw [hl2 i l[i] (List.getElem?_eq_getElem (by omega))]
    simp [hl1, hi]
  · rw [List.getElem?_eq_none (by omega), List.getElem?_eq_none (by simp [hl1]; omega)]
def Head.wf (x : Head) : Prop := x.tm.wf
def RowS.wf (W : World) (R : Nat) (r : RowS) : Prop := r.node.wf ∧ r.par.wf ∧ r.tm.wf ∧ r.name.size ≤ R ∧ Sl (Old W) headCh 34 r.hh r.heads W ∧ r.heads.length * 48 ≤ R ∧ ∀ x ∈ r.heads, x.wf
end
section
variable {P : Program} {W : World} {R : Nat} {t : TypeId} {H : Type} {enc : TypeId × Value → H}
theorem Rd.arg1 {α : Type} {en : α → Value} {ok : α → Prop} (E : Rd P W R t (fun a => [en a]) ok) {v : Value} {d : DataW H} {ps : List MemPlace} (h : DataW.Trod enc P W 0 (fun _ => true) true t v d ps) (hv : v.cells.toList = [v]) (hw : ∀ k ∈ d.weights P t, k ≤ R) : ∃ a, v = en a ∧ ok a := by
  obtain ⟨fuel, h⟩ := h
  obtain ⟨a, h1, h2⟩ := E.out h hw
  rw [hv] at h1
  exact ⟨a, by simpa using h1, h2⟩
theorem Rd.argA {α : Type} {en : α → Chs} {ok : α → Prop} (E : Rd P W R t (fun a => (en a).flatten) ok) {v : Value} {d : DataW H} {ps : List MemPlace} (h : DataW.Trod enc P W 0 (fun _ => true) true t v d ps) (hv : ∃ cs, v = .agg cs) (hw : ∀ k ∈ d.weights P t, k ≤ R) : ∃ a, v = aggOf (en a) ∧ ok a := by
  obtain ⟨fuel, h⟩ := h
  obtain ⟨a, h1, h2⟩ := E.out h hw
  obtain ⟨cs, rfl⟩ := hv
  refine ⟨a, ?_, h2⟩
  have h1 : cs.toList = (en a).flatten := h1
  rw [aggOf, ← h1]
end
theorem Ext.keptBut {W W' : World} (h : Ext W W') (may : MemPlace → Prop) : W.keptBut W' may := by
  refine ⟨h.os, h.output, fun i hi => ?_⟩
  rw [h.block i hi (fun hn => hn)]
  cases hb : W.heap[i]? with
  | none => trivial
  | some o => cases o <;> simp
theorem frozen_block {W W' : World} {a : Addr} (h : W'.heap[a.block]? = W.heap[a.block]?) : W'.frozen? a = W.frozen? a := by
  unfold World.frozen?; rw [h]
section
variable {P : Program} {H : Type} {enc : TypeId × Value → H} {W W' : World}
theorem Ext.same (h : Ext W W') {p : MemPlace} (hp : p.block < W.heap.size) : W.sameAt W' p := by
  cases p with
  | cell b off => exact World.cell?_of_block (a := ⟨b, off, none⟩) (h.block b hp (fun hn => hn))
  | map b => exact h.block b hp (fun hn => hn)
theorem trodAll_ext (h : Ext W W') {sp : Nat → Bool} : ∀ {ts : List TypeId} {vs : List Value} {ds : List (DataW H)} {ps : List MemPlace}, DataW.TrodAll enc P W 0 sp true ts vs ds ps → (∀ p ∈ ps, p.block < W.heap.size) → DataW.TrodAll enc P W' 0 sp true ts vs ds ps
  | [], [], [], _, h1, _ => h1
  | _ :: _, _ :: _, _ :: _, _, ⟨p, q, ⟨fuel, h1⟩, h2, e⟩, hs =>
    ⟨p, q, ⟨fuel, DataW.trod_carry _ _ _ _ h1 fun x hx => h.same (hs x (by rw [e]; exact List.mem_append_left _ hx))⟩, trodAll_ext h h2 (fun x hx => hs x (by rw [e]; exact List.mem_append_right _ hx)), e⟩
theorem post_law {f : Func} {s : ChangeSpec} {apart fresh handsOn again : Bool} {args : Array Value} {ds gs : List (DataW H)} {before : List MemPlace} {bt : TypeId} (hv : s.vars = []) (hl : laidOutB P = true) (hm : mapsRowed P = true)
    (hz : ((List.range P.types.size).all fun t => match P.underlying t with | some (.slice e) => decide (0 < P.cellsOf e) | _ => true) = true) (hts : f.params.toList.all (fun t => decide (t < P.types.size)) = true)
    (hr : f.resultTypes = #[bt]) (hb : P.underlying bt = some .bool) (hW : DataW.Whole enc P f.params.toList s.vars apart W args.toList ds gs before)
    (hres : (s.fn H (ds ++ gs)).results = [.lit (.bool true)]) (harg : (s.fn H (ds ++ gs)).args = ds) (hvar : (s.fn H (ds ++ gs)).vars = []) (hx : Ext W W') : s.post enc P f apart fresh handsOn again W args (.bool true) W' := by
  have hlt := hW.lt
  have hW0 := hW
  obtain ⟨p, q, hA, hV, rfl, hfz, hnd⟩ := hW
  have hV0 := hV
  rw [hv] at hV
  obtain ⟨rfl, rfl⟩ := trodVars_none hV
  have hold : ∀ p' ∈ p ++ [], (fun b => decide (b < W.heap.size)) p'.block = true := fun p' hp => by simpa using hlt p' hp
  have hargs : ∀ sp : Nat → Bool, (∀ p' ∈ p ++ [], sp p'.block = true) → DataW.TrodAll enc P W' 0 sp true f.params.toList args.toList (s.fn H (ds ++ [])).args p := fun sp hsp => by
    rw [harg]
    refine trodAll_ext hx ?_ fun x h => hlt x (by simpa using h)
    exact hA.respare (kids_rows hl hm) (fun t e h => slices_full_of P hz t e h) (fun t ht => of_decide_eq_true (List.all_eq_true.1 hts t ht)) fun x h => hsp x (by simpa using h)
  have hvars : ∀ sp : Nat → Bool, DataW.TrodVars enc P W' sp s.vars (s.fn H (ds ++ [])).vars [] := fun sp => by rw [hv, hvar]; rfl
  have hresT : ∀ (b : Nat) (sp : Nat → Bool) (hd : Bool), DataW.TrodAll enc P W' b sp hd f.resultTypes.toList ((Value.bool true).resultList f.resultTypes.size) (s.fn H (ds ++ [])).results [] := fun b sp hd => by
    rw [hr, hres]
    exact trodAll_cons_mk (p := []) (p' := []) (shut_bool hb _) trodAll_mk0
  refine ⟨ds, [], p ++ [], [], p, [], hW0, hresT _ _ _, hargs _ hold, hvars _, World.keptBut_mono (fun x hx' => ⟨hx', .inr (by simpa using hx')⟩) (hx.keptBut (· ∈ p ++ [])), fun _ => ⟨?_, _, _, ([] ++ p) ++ [], ⟨[] ++ p, [], trodAll_append (hargs _ (fun _ _ => rfl)) (hresT _ _ _), hvars _, rfl, ?_, ?_⟩, ?_⟩⟩
  · intro j t r h1 h2
    rw [hr] at h1 h2
    cases j with
    | zero =>
      simp at h1 h2
      subst h1
      have : r = .bool true := by simpa [Value.resultList] using h2.symm
      subst this
      exact okWide_bool_mk hb _
    | succ j => simp at h1
  · intro b off hp
    have hlt' := hlt _ (show MemPlace.cell b off ∈ p ++ [] by simpa using hp)
    rw [frozen_block (hx.block b hlt' (fun hn => hn))]
    exact hfz b off (by simpa using hp)
  · intro ha
    simpa using hnd ha
  · intro x hx' _
    simpa using hx'
end
end Go.Proofs.YthjdhfoeckfmbaaGreat
namespace Go.Proofs.YthjdhfoeckfmbaaGreat
open Go Go.ChangeShapes Go.WideShapes Go.RowKit
set_option linter.unusedVariables false
set_option linter.unusedSimpArgs false
set_option linter.unusedSectionVars false
variable [DD]
theorem split_cs {cs : List Value} (a b c : Nat) (h : a + b = c) : (cs.drop a).take b ++ cs.drop c = cs.drop a := by
  subst h
  rw [← List.drop_drop, List.take_append_drop]
section
variable {P : Program} {W : World} {R : Nat} {t : TypeId}
def OpS.wf (W : World) (R : Nat) (o : OpS) : Prop := i64ok o.kind ∧ o.tm.wf ∧ o.node.wf ∧ o.par.wf ∧ o.name.size ≤ R ∧ True ∧ Sl (Old W) stampCh 2 o.oh o.over W ∧ o.over.length * 16 ≤ R ∧ ∀ x ∈ o.over, x.wf
theorem Rd_op {f0 f1 f2 f3 f4 f5 f6 : Field} (hu : P.underlying t = some (.struct #[f0, f1, f2, f3, f4, f5, f6])) (hc : P.cellsOf t = 41) (o : f0.offset = 0 ∧ f1.offset = 1 ∧ f2.offset = 3 ∧ f3.offset = 5 ∧ f4.offset = 7 ∧ f5.offset = 8 ∧ f6.offset = 40)
    (c : P.cellsOf f0.type = 1 ∧ P.cellsOf f1.type = 2 ∧ P.cellsOf f2.type = 2 ∧ P.cellsOf f3.type = 2 ∧ P.cellsOf f4.type = 1 ∧ P.cellsOf f5.type = 32 ∧ P.cellsOf f6.type = 1)
    (h0 : P.underlying f0.type = some (.int .i64)) (h1 : Rd P W R f1.type (fun s : Stamp => (stampCh s).flatten) Stamp.wf) (h2 : Rd P W R f2.type (fun s : Stamp => (stampCh s).flatten) Stamp.wf) (h3 : Rd P W R f3.type (fun s : Stamp => (stampCh s).flatten) Stamp.wf)
    (h4 : P.underlying f4.type = some .string) (h5 : Rd P W R f5.type (fun d : ID => (idCh d).flatten) (fun _ => True)) (h6 : Rd P W R f6.type (fun x : SlH × List Stamp => [slV x.1 x.2]) (fun x => Sl (Old W) stampCh 2 x.1 x.2 W ∧ x.2.length * 16 ≤ R ∧ ∀ a ∈ x.2, a.wf)) :
    Rd P W R t (fun r : OpS => (opCh r).flatten) (OpS.wf W R) := by
  refine ⟨fun h hw => ?_⟩
  have hl := struct_len hu h
  obtain ⟨a0, e0, k0⟩ := struct_part hu h hw (i := 0) (f := f0) rfl (Rd_int h0)
  obtain ⟨a1, e1, k1⟩ := struct_part hu h hw (i := 1) (f := f1) rfl h1
  obtain ⟨a2, e2, k2⟩ := struct_part hu h hw (i := 2) (f := f2) rfl h2
  obtain ⟨a3, e3, k3⟩ := struct_part hu h hw (i := 3) (f := f3) rfl h3
  obtain ⟨a4, e4, k4⟩ := struct_part hu h hw (i := 4) (f := f4) rfl (Rd_str h4)
  obtain ⟨a5, e5, k5⟩ := struct_part hu h hw (i := 5) (f := f5) rfl h5
  obtain ⟨a6, e6, k6⟩ := struct_part hu h hw (i := 6) (f := f6) rfl h6
  obtain ⟨o0, o1, o2, o3, o4, o5, o6⟩ := o
  obtain ⟨c0, c1, c2, c3, c4, c5, c6⟩ := c
  rw [o0, c0] at e0
  rw [o1, c1] at e1
  rw [o2, c2] at e2
  rw [o3, c3] at e3
  rw [o4, c4] at e4
  rw [o5, c5] at e5
  rw [o6, c6, cutL (by omega)] at e6
  refine ⟨⟨a0, a1, a2, a3, a4, a5, a6.2, a6.1⟩, ?_, k0, k1, k2, k3, k4, k5, k6⟩
  rename_i cs _
  have s : cs = (cs.drop 0).take 1 ++ ((cs.drop 1).take 2 ++ ((cs.drop 3).take 2 ++ ((cs.drop 5).take 2 ++ ((cs.drop 7).take 1 ++ ((cs.drop 8).take 32 ++ cs.drop 40))))) := by
    rw [split_cs 8 32 40 rfl, split_cs 7 1 8 rfl, split_cs 5 2 7 rfl, split_cs 3 2 5 rfl, split_cs 1 2 3 rfl, split_cs 0 1 1 rfl, List.drop_zero]
  rw [s, e0, e1, e2, e3, e4, e5, e6]; rfl
def Label.wf (R : Nat) (l : Label) : Prop := True ∧ l.name.size ≤ R ∧ l.msg.size ≤ R
def ChangeS.wf (W : World) (R : Nat) (c : ChangeS) : Prop :=
  (Sl (Old W) idCh 32 c.ph c.parents W ∧ c.parents.length * 32 ≤ R ∧ ∀ x ∈ c.parents, True) ∧ i64ok c.time ∧ i64ok c.r ∧ (Sl (Old W) opCh 41 c.oh c.ops W ∧ c.ops.length * 128 ≤ R ∧ ∀ x ∈ c.ops, x.wf W R) ∧ True ∧ c.msg.size ≤ R
theorem Rd_change {f0 f1 f2 f3 f4 f5 : Field} (hu : P.underlying t = some (.struct #[f0, f1, f2, f3, f4, f5])) (hc : P.cellsOf t = 37) (o : f0.offset = 0 ∧ f1.offset = 1 ∧ f2.offset = 2 ∧ f3.offset = 3 ∧ f4.offset = 4 ∧ f5.offset = 36)
    (c : P.cellsOf f0.type = 1 ∧ P.cellsOf f1.type = 1 ∧ P.cellsOf f2.type = 1 ∧ P.cellsOf f3.type = 1 ∧ P.cellsOf f4.type = 32 ∧ P.cellsOf f5.type = 1)
    (h0 : Rd P W R f0.type (fun x : SlH × List ID => [slV x.1 x.2]) (fun x => Sl (Old W) idCh 32 x.1 x.2 W ∧ x.2.length * 32 ≤ R ∧ ∀ a ∈ x.2, True)) (h1 : P.underlying f1.type = some (.int .i64)) (h2 : P.underlying f2.type = some (.int .i64))
    (h3 : Rd P W R f3.type (fun x : SlH × List OpS => [slV x.1 x.2]) (fun x => Sl (Old W) opCh 41 x.1 x.2 W ∧ x.2.length * 128 ≤ R ∧ ∀ a ∈ x.2, a.wf W R)) (h4 : Rd P W R f4.type (fun d : ID => (idCh d).flatten) (fun _ => True)) (h5 : P.underlying f5.type = some .string) :
    Rd P W R t (fun r : ChangeS => (changeCh r).flatten) (ChangeS.wf W R) := by
  refine ⟨fun h hw => ?_⟩
  have hl := struct_len hu h
  obtain ⟨a0, e0, k0⟩ := struct_part hu h hw (i := 0) (f := f0) rfl h0
  obtain ⟨a1, e1, k1⟩ := struct_part hu h hw (i := 1) (f := f1) rfl (Rd_int h1)
  obtain ⟨a2, e2, k2⟩ := struct_part hu h hw (i := 2) (f := f2) rfl (Rd_int h2)
  obtain ⟨a3, e3, k3⟩ := struct_part hu h hw (i := 3) (f := f3) rfl h3
  obtain ⟨a4, e4, k4⟩ := struct_part hu h hw (i := 4) (f := f4) rfl h4
  obtain ⟨a5, e5, k5⟩ := struct_part hu h hw (i := 5) (f := f5) rfl (Rd_str h5)
  obtain ⟨o0, o1, o2, o3, o4, o5⟩ := o
  obtain ⟨c0, c1, c2, c3, c4, c5⟩ := c
  rw [o0, c0] at e0
  rw [o1, c1] at e1
  rw [o2, c2] at e2
  rw [o3, c3] at e3
  rw [o4, c4] at e4
  rw [o5, c5, cutL (by omega)] at e5
  refine ⟨⟨a0.2, a0.1, a1, a2, a3.2, a3.1, a4, a5⟩, ?_, k0, k1, k2, k3, k4, k5⟩
  rename_i cs _
  have s : cs = (cs.drop 0).take 1 ++ ((cs.drop 1).take 1 ++ ((cs.drop 2).take 1 ++ ((cs.drop 3).take 1 ++ ((cs.drop 4).take 32 ++ cs.drop 36)))) := by
    rw [split_cs 4 32 36 rfl, split_cs 3 1 4 rfl, split_cs 2 1 3 rfl, split_cs 1 1 2 rfl, split_cs 0 1 1 rfl, List.drop_zero]
  rw [s, e0, e1, e2, e3, e4, e5]; rfl
end
end Go.Proofs.YthjdhfoeckfmbaaGreat
namespace Go.Proofs.YthjdhfoeckfmbaaGreat
open Go Go.ChangeShapes Go.WideShapes Go.RowKit
set_option linter.unusedVariables false
set_option linter.unusedSimpArgs false
set_option linter.unusedSectionVars false
variable [DD]
section
variable {P : Program} {W : World} {R : Nat} {t : TypeId}
def ItemS.wf (W : World) (R : Nat) (x : ItemS) : Prop := x.node.wf ∧ x.tm.wf ∧ x.name.size ≤ R ∧ True ∧ Sl (Old W) headCh 34 x.hh x.heads W ∧ x.heads.length * 48 ≤ R ∧ ∀ a ∈ x.heads, a.wf
end
end Go.Proofs.YthjdhfoeckfmbaaGreat
namespace Go.Proofs.YthjdhfoeckfmbaaGreat
open Go
set_option linter.unusedVariables false
set_option linter.unusedSimpArgs false
set_option linter.unusedSectionVars false
variable [DD]
structure RdS where
  b : List UInt8
  bh : SlH
  bad : Bool
def RdS.st (r : RdS) : List UInt8 × Bool := (r.b, r.bad)
abbrev rdCh (r : RdS) : Chs := [[slV r.bh r.b], [.bool r.bad]]
abbrev RdQ (T : TypeId) (b : Nat) (S : Nat → Prop) (r : RdS) (w : World) : Prop := Ctx w (fun c => c = b) w [boxR b T (rdCh r)] [slI S encB 1 r.bh r.b]
section
variable {w0 w w' : World} {M : Nat → Prop} {B : List Own} {I : List Imm} {T : TypeId} {b : Nat} {S : Nat → Prop} {r r' : RdS}
theorem Ctx.rdStart (H : Ctx w0 M w [boxR b T (rdCh r)] I) : Ctx w (fun c => c = b) w [boxR b T (rdCh r)] I :=
  H.restart fun o ho c hc => by
    simp only [List.mem_cons, List.not_mem_nil, or_false] at ho
    subst ho
    simp only [boxR, Option.some.injEq] at hc
    exact hc.symm
theorem Ctx.immSet (H : Ctx w0 M w B I) (j : Nat) {i0 : Imm} (hj : I[j]? = some i0) (i : Imm) (hF : ∀ c, i.F c → i0.F c) (hp : i.p w) : Ctx w0 M w B (I.set j i) := by
  have key : ∀ x ∈ I.set j i, x = i ∨ x ∈ I := fun x hx => (List.mem_or_eq_of_mem_set hx).elim .inr .inl
  have h0 := List.mem_of_getElem? hj
  refine ⟨H.gr, H.own, fun x hx => ?_, H.apart, fun o ho x hx c hc hF' => ?_⟩
  · rcases key x hx with rfl | hx
    · exact ⟨hp, fun c hc => (H.imm _ h0).2 c (hF c hc)⟩
    · exact H.imm x hx
  · rcases key x hx with rfl | hx
    · exact H.off o ho _ h0 c hc (hF c hF')
    · exact H.off o ho x hx c hc hF'
theorem Ctx.rdUpd (H : Ctx w0 M w B I) (i j : Nat) (hi : B[i]? = some (boxR b T (rdCh r))) (hj : I[j]? = some (slI S encB 1 r.bh r.b)) (hg : Gr (fun c => c = b) w w') (hQ : RdQ T b S r' w') :
    Ctx w0 M w' (B.set i (boxR b T (rdCh r'))) (I.set j (slI S encB 1 r'.bh r'.b)) := by
  have h1 := H.upd i hi (boxR b T (rdCh r')) (hg.mono fun c hc => congrArg some hc.symm) (hQ.getOwn 0 rfl) (fun c hc => .inl hc)
  exact h1.immSet j hj _ (fun _ h => h) (hQ.getImm 0 rfl)
theorem Ctx.rdRow {α : Type} {t : TypeId} {k : Nat} {enc : α → Chs} {h : SlH} {l : List α} (H : Ctx w0 M w B I) (i j : Nat) (hi : B[i]? = some (boxR b T (rdCh r))) (hj : I[j]? = some (slI S encB 1 r.bh r.b)) (hg : Gr (fun c => c = b) w w') (hQ : RdQ T b S r' w')
    (hq : OwnS w.heap.size t k enc h l w') : Ctx w0 M w' (rowR t k enc h l :: B.set i (boxR b T (rdCh r'))) (I.set j (slI S encB 1 r'.bh r'.b)) := by
  have h1 := H.rdUpd i j hi hj hg hQ
  have hmi := List.mem_of_getElem? hi
  have hmj := List.mem_of_getElem? hj
  have hB : ∀ o ∈ B.set i (boxR b T (rdCh r')), ∀ c, o.blk = some c → c < w.heap.size := fun o ho c hc =>
    (List.mem_or_eq_of_mem_set ho).elim (fun h => ((H.own o h).2 c hc).1) (fun h => by subst h; exact ((H.own _ hmi).2 c hc).1)
  have hI : ∀ x ∈ I.set j (slI S encB 1 r'.bh r'.b), ∀ c, x.F c → c < w.heap.size := fun x hx c hc =>
    (List.mem_or_eq_of_mem_set hx).elim (fun h => (H.imm x h).2 c hc) (fun h => by subst h; exact (H.imm _ hmj).2 c hc)
  refine ⟨h1.gr, fun o ho => ?_, h1.imm, .cons (fun o ho c hc hc' => ?_) h1.apart, fun o ho x hx c hc hF => ?_⟩
  · rcases List.mem_cons.1 ho with rfl | ho
    · exact ⟨hq.base, fun c hc => ⟨(hq.1.lt c hc).2, fun hlt => by have := (hq.1.lt c hc).1; have := H.gr.size; omega⟩⟩
    · exact h1.own o ho
  · have := (hq.1.lt c hc).1
    have := hB o ho c hc'
    omega
  · rcases List.mem_cons.1 ho with rfl | ho
    · have := (hq.1.lt c hc).1
      have := hI x hx c hF
      omega
    · exact h1.off o ho x hx c hc hF
theorem Ctx.addRd (H : Ctx w0 M w B I) (hx : Ext w w') (hb : w.heap.size ≤ b) (hS : ∀ c, S c → w.heap.size ≤ c) (hQ : RdQ T b S r w') : Ctx w0 M w' (boxR b T (rdCh r) :: B) (slI S encB 1 r.bh r.b :: I) := by
  have h1 := H.addOwn hx (boxR b T (rdCh r)) (hQ.getOwn 0 rfl) (fun c hc => by
    have : b = c := by simpa [boxR] using hc
    subst this
    exact ⟨hb, boxR_lt (hQ.getOwn 0 rfl)⟩)
  refine h1.addImm' _ (hQ.getImm 0 rfl) fun c hc => ⟨(hQ.imm _ (by simp)).2 c hc, fun o ho ho' => ?_⟩
  rcases List.mem_cons.1 ho with rfl | ho
  · exact hQ.off _ (by simp) _ (by simp) c ho' hc
  · have := ((H.own o ho).2 c ho').1
    have := hS c hc
    omega
theorem Ctx.retRowM {α : Type} {t : TypeId} {k : Nat} {enc : α → Chs} {h : SlH} {l : List α} {cs : Chs} (H : Ctx w0 (fun c => c = b) w B I) (i j : Nat) (hij : i ≠ j) (hi : B[i]? = some (boxR b T cs)) (hj : B[j]? = some (rowR t k enc h l)) : OwnS w0.heap.size t k enc h l w := by
  have hq : OwnS 0 t k enc h l w := H.getOwn j hj
  refine ⟨⟨hq.1.1, ?_⟩, hq.2⟩
  rcases hq.1.2 with hn | ⟨g, cap, cur, hv, hb0, r⟩
  · exact .inl hn
  · refine .inr ⟨g, cap, cur, hv, ?_, r⟩
    have hgb : (rowR t k enc h l).blk = some g := by simp only [rowR]; rw [hv]; rfl
    have := ((H.own _ (List.mem_of_getElem? hj)).2 g hgb).2
    rcases Nat.lt_or_ge g w0.heap.size with hlt | hge
    · have := this hlt
      subst this
      exact absurd hgb (H.apart2 hij hi hj _ rfl)
    · exact hge
theorem Ctx.boxNew' (H : Ctx w0 nob w B I) (i : Nat) {cs : Chs} (hi : B[i]? = some (boxR b T cs)) : w0.heap.size ≤ b := by
  rcases Nat.lt_or_ge b w0.heap.size with hlt | hge
  · exact (((H.own _ (List.mem_of_getElem? hi)).2 b rfl).2 hlt).elim
  · exact hge
end
end Go.Proofs.YthjdhfoeckfmbaaGreat
namespace Go.Proofs.YthjdhfoeckfmbaaGreat
open Go
set_option linter.unusedVariables false
set_option linter.unusedSimpArgs false
set_option linter.unusedSectionVars false
variable [DD]
section
variable {α : Type} {P : Program} {ρ : Operand → Value} {w0 w w' : World} {M : Nat → Prop} {B : List Own} {I : List Imm} {K : Value → World → Prop} {d : Option Tmp} {ty : TypeId} {pos : String} {af : Array Edge} {g : Option (Nat × Bool)} {F : Nat → Prop} {h : SlH} {l : List UInt8}
theorem R_conv_bs {s t e : TypeId} {x : Operand} (hs : P.underlying s = some (.slice e)) (he : P.underlying e = some (.int .u8)) (ht : P.underlying t = some .string) (S : Sl F encB 1 h l w) (hx : ρ x = slV h l) (hK : K (.string ⟨l.toArray⟩) w) :
    Runs P ρ ⟨d, .convert s t x, ty, pos, af, g⟩ w K := by
  refine .value (v := .string ⟨l.toArray⟩) (w' := w) ?_ hK
  rcases l.eq_nil_or_concat with rfl | ⟨l', b, rfl⟩
  · simp only [execOp, hx, Sem.run_bind]
    by_cases ha : h.a = none
    · rw [show (slV h ([] : List UInt8)) = .slice none 0 h.c from by simp [slV, ha], run_convert_bytes_string w s t e none 0 _ hs he ht]
      rfl
    · obtain ⟨a, ha⟩ := Option.ne_none_iff_exists'.1 ha
      have := run_convert_bytes_back (P := P) w s t e a h.c [] hs he ht (fun j hj => by simp at hj)
      rw [show (slV h ([] : List UInt8)) = .slice (some a) ([] : List UInt8).length h.c from by simp [slV, ha], this]
      rfl
  · obtain ⟨ha, hF⟩ := S.there (by simp)
    have := run_convert_bytes_back (P := P) w s t e ⟨h.b, h.o, none⟩ h.c (l'.concat b) hs he ht (fun j hj => by
      have := (S.cells j _ (List.getElem?_eq_getElem hj)) 0 (byteV _) rfl
      rw [add_lit]
      simpa [byteV] using this)
    simp only [execOp, hx, Sem.run_bind]
    rw [show (slV h (l'.concat b)) = .slice (some ⟨h.b, h.o, none⟩) (l'.concat b).length h.c from by simp [slV, ha], this]
    rfl
def idPut (d : ID) (l : List UInt8) : ID := Vector.ofFn fun i => l.getD i.1 d[i.1]
theorem idPut_nil (d : ID) : idPut d [] = d := by
  apply Vector.ext
  intro i hi
  simp [idPut]
theorem idPut_cells (d : ID) {l : List UInt8} (hl : l.length = 32) : idCells (idPut d l) = l.map byteV := by
  rw [idCells_eq]
  refine congrArg (List.map byteV) ?_
  apply List.ext_getElem
  · simp [hl]
  · intro i h1 h2
    simp [idPut, List.getElem?_eq_getElem h2]
theorem C_copyCells (H : Ctx w0 M w B I) (i : Nat) {b : Nat} {tb : TypeId} {cs : List Value} (hcs : cs.length = 32) (hi : B[i]? = some (boxR b tb [cs])) (S : Sl F encB 1 h l w) (hl : l.length = 32) {ops : List Operand} {t t2 e : TypeId} (hu : P.underlying t = some (.slice e)) (hz : ∀ w, (sizeOf e).run P w = .ok 1 w)
    (hx : ops.map ρ = [.slice (some ⟨b, 0, none⟩) 32 32, slV h l])
    (hK : ∀ w', Gr (fun k => some b = some k) w w' → Ctx w0 M w' (B.set i (boxR b tb [l.map byteV])) I → K (.int .i64 l.length) w') :
    Runs P ρ ⟨d, .call { callee := .builtin .copy, args := ops.toArray, argTypes := #[t, t2] }, ty, pos, af, g⟩ w K := by
  have hb : w.heap[b]? = some (.cells [cs].flatten.toArray tb (0, 0)) := H.getOwn i hi
  have hst := run_storeCells_at P b 0 tb (l.map byteV) 0 [cs].flatten.toArray w hb (by simp [hl, hcs]) (fun u hu => by
    obtain ⟨y, _, rfl⟩ := List.mem_map.1 hu; rfl)
  obtain ⟨ha, _⟩ := S.there (by omega)
  have hld := run_loadCells_list (P := P) w ⟨h.b, h.o, none⟩ (l.map byteV) (fun j u hj => by
    rw [List.getElem?_map] at hj
    obtain ⟨y, hy, rfl⟩ := Option.map_eq_some_iff.1 hj
    rw [add_lit]
    simpa using S.cells j y hy 0 (byteV y) rfl)
  rw [List.length_map, hl] at hld
  have e1 : ([cs].flatten.toArray.toList.take (0 + 0) ++ l.map byteV ++ [cs].flatten.toArray.toList.drop (0 + 0 + (l.map byteV).length)) = [l.map byteV].flatten := by
    simp [hl, hcs]
  rw [e1] at hst
  refine .value (v := .int .i64 l.length) (w' := w.setRow b [l.map byteV].flatten.toArray) ?_ (hK _ (Gr_setRow _ _ _) (H.upd i hi _ (Gr_setRow _ _ _) ?_ fun b' hb' => .inl hb'))
  · have hargs : ops.toArray.map ρ = #[.slice (some ⟨b, 0, none⟩) 32 32, .slice (some ⟨h.b, h.o, none⟩) l.length h.c] := by rw [List.map_toArray, hx, ← ha]
    simp only [execOp, resolve, invoke, builtin, hargs, Sem.run_bind, Sem.run_pure, Result.andThen_ok]
    simp [Builtin.copy_, run_underlying hu, Builtin.lenOf, Builtin.firstCells, hz, ha, hl, hld, hst, goInt]
  · exact setRow_heap w b _ _ tb _ hb
theorem R_copyNone {a : Option Addr} {n c : Nat} {ops : List Operand} {t t2 e : TypeId} (hu : P.underlying t = some (.slice e)) (hz : ∀ w, (sizeOf e).run P w = .ok 1 w)
    (hx : ops.map ρ = [.slice a n c, slV h ([] : List UInt8)]) (hK : K (.int .i64 ((0 : Nat) : Int)) w) :
    Runs P ρ ⟨d, .call { callee := .builtin .copy, args := ops.toArray, argTypes := #[t, t2] }, ty, pos, af, g⟩ w K := by
  refine .value (v := .int .i64 ((0 : Nat) : Int)) (w' := w) ?_ hK
  have hl0 : ∀ (x : Addr), (loadCells x 0).run P w = .ok #[] w := fun x => by simpa using run_loadCells_list (P := P) w x [] (by simp)
  have hargs : ∃ a2 c2, ops.toArray.map ρ = #[.slice a n c, .slice a2 0 c2] := ⟨h.a, h.c, by rw [List.map_toArray, hx]; rfl⟩
  obtain ⟨a2, c2, hargs⟩ := hargs
  simp only [execOp, resolve, invoke, builtin, hargs, Sem.run_bind, Sem.run_pure, Result.andThen_ok]
  cases a2 <;> cases a <;> simp [Builtin.copy_, run_underlying hu, Builtin.lenOf, Builtin.firstCells, hz, hl0, goInt, storeCells]
theorem C_copyId (H : Ctx w0 M w B I) (i : Nat) {b : Nat} {tb : TypeId} {v : ID} (hi : B[i]? = some (boxR b tb [idCells v])) (S : Sl F encB 1 h l w) (hl : l.length = 32 ∨ l = []) {ops : List Operand} {t t2 e : TypeId} (hu : P.underlying t = some (.slice e)) (hz : ∀ w, (sizeOf e).run P w = .ok 1 w)
    (hx : ops.map ρ = [.slice (some ⟨b, 0, none⟩) 32 32, slV h l])
    (hK : ∀ w', Gr (fun k => some b = some k) w w' → Ctx w0 M w' (B.set i (boxR b tb [idCells (idPut v l)])) I → K (.int .i64 ((l.length : Nat) : Int)) w') :
    Runs P ρ ⟨d, .call { callee := .builtin .copy, args := ops.toArray, argTypes := #[t, t2] }, ty, pos, af, g⟩ w K := by
  rcases hl with hl | rfl
  · refine C_copyCells H i (cs := idCells v) rfl hi S hl hu hz hx fun w' hg H' => ?_
    have := hK w' hg
    rw [idPut_cells v hl] at this
    exact this H'
  · refine R_copyNone hu hz hx ?_
    have := hK w (Gr.refl _ _)
    rw [idPut_nil] at this
    have hset : B.set i (boxR b tb [idCells v]) = B := by
      apply List.ext_getElem?
      intro j
      rw [List.getElem?_set]
      split
      · subst_vars
        split
        · exact hi.symm
        · rename_i hn; rw [List.getElem?_eq_none (by omega)]
      · rfl
    rw [hset] at this
    exact this H
end
theorem Ctx.boxOld {w0 w : World} {M : Nat → Prop} {B : List Own} {I : List Imm} {b : Nat} {t : TypeId} {d : ID} (H : Ctx w0 M w B I) (i : Nat) (hi : B[i]? = some (boxR b t [idCells d])) : Sl (Old w) encB 1 ⟨some ⟨b, 0, none⟩, b, 0, 32⟩ (idList d) w :=
  (Sl_box (H.getOwn i hi)).mono fun k hk => ((H.own _ (List.mem_of_getElem? hi)).2 k hk).1
theorem callsCat {P : Program} {k : FuncId} {a c : Value} {w : World} {K : Ending → World → Prop} (h : Calls P k #[a, c] w K) : Calls P k (#[a] ++ #[c]) w K := by simpa using h
theorem bit_or64 {a b : Nat} (ha : a < 18446744073709551616) (hb : b < 18446744073709551616) : bitI .u64 .or ((a : Nat) : Int) ((b : Nat) : Int) = some (((a ||| b : Nat)) : Int) := by
  simp only [bitI, Option.some.injEq]
  have h1 : (BitVec.ofInt IntKind.u64.bits ((a : Nat) : Int) ||| BitVec.ofInt IntKind.u64.bits ((b : Nat) : Int)).toNat = a ||| b := by
    show (BitVec.ofInt 64 ((a : Nat) : Int) ||| BitVec.ofInt 64 ((b : Nat) : Int)).toNat = _
    rw [BitVec.toNat_or, BitVec.ofInt_natCast, BitVec.ofInt_natCast, BitVec.toNat_ofNat, BitVec.toNat_ofNat, Nat.mod_eq_of_lt (by simpa using ha), Nat.mod_eq_of_lt (by simpa using hb)]
  rw [h1]
  have : a ||| b < 2 ^ 64 := Nat.or_lt_two_pow (by simpa using ha) (by simpa using hb)
  exact u64_in _ (by omega)
theorem shl_nat {a b : Nat} (hb : b ≤ 64) (h : a * 2 ^ b < 18446744073709551616) : IntKind.u64.wrap (((a : Nat) : Int) * 2 ^ min ((b : Nat) : Int).toNat IntKind.u64.bits) = ((a * 2 ^ b : Nat) : Int) := by
  rw [show min ((b : Nat) : Int).toNat IntKind.u64.bits = b from by simp [IntKind.bits]; omega]
  have e : ((a : Nat) : Int) * 2 ^ b = ((a * 2 ^ b : Nat) : Int) := by simp
  rw [e]
  exact u64_in _ (by omega)
theorem conv_864 (b : UInt8) : IntKind.u64.wrap (b.toNat : Int) = (b.toNat : Int) := by
  have := b.toNat_lt
  exact u64_in _ (by omega)
end Go.Proofs.YthjdhfoeckfmbaaGreat
namespace Go.Proofs.YthjdhfoeckfmbaaGreat
open Go
set_option linter.unusedVariables false
set_option linter.unusedSimpArgs false
set_option linter.unusedSectionVars false
variable [DD]
section
variable {P : Program} {ρ : Operand → Value} {w : World} {K : Value → World → Prop} {d : Option Tmp} {ty : TypeId} {pos : String} {af : Array Edge} {g : Option (Nat × Bool)} {F F2 : Nat → Prop} {h h2 : SlH} {l l2 : List UInt8}
theorem loadB : ∀ (l : List UInt8) (b o : Nat) (acc : List UInt8), (∀ j x, l[j]? = some x → w.cell? ⟨b, o + j, none⟩ = some (byteV x)) → (Extern.Bytes.loadBytes ⟨b, o, none⟩ l.length ⟨acc.toArray⟩).run P w = .ok ⟨(acc ++ l).toArray⟩ w
  | [], b, o, acc, _ => by simp [Extern.Bytes.loadBytes, Sem.run_pure]
  | x :: l, b, o, acc, h => by
    have ih := loadB l b (o + 1) (acc ++ [x]) fun j y hy => by
      have := h (j + 1) y (by simpa using hy)
      rwa [show o + (j + 1) = o + 1 + j from by omega] at this
    have h0 : w.cell? ⟨b, o, none⟩ = some (.int .u8 (x.toNat : Int)) := by simpa [byteV] using h 0 x rfl
    have e : (ByteArray.mk acc.toArray).push ((x.toNat : Int).toNat).toUInt8 = ⟨(acc ++ [x]).toArray⟩ := by
      apply ByteArray.ext
      simp [ByteArray.push]
    rw [List.length_cons, Extern.Bytes.loadBytes]
    simp only [Sem.run_bind, run_load, h0, Result.andThen, add_lit, e]
    rw [ih]
    simp
theorem run_bytesOf_sl (S : Sl F encB 1 h l w) : (Extern.Bytes.bytesOf (slV h l)).run P w = .ok ⟨l.toArray⟩ w := by
  cases ha : h.a with
  | none =>
    have : l = [] := S.isNil (by rw [ha]; rfl)
    subst this
    show (Extern.Bytes.bytesOf (.slice h.a 0 h.c)).run P w = _
    rw [ha]
    rfl
  | some a =>
    show (Extern.Bytes.bytesOf (.slice h.a l.length h.c)).run P w = _
    rw [ha]
    rcases l.eq_nil_or_concat with rfl | ⟨l', y, rfl⟩
    · rfl
    · have e := (S.there (by simp)).1
      rw [ha] at e
      injection e with e
      subst e
      exact loadB _ h.b h.o [] fun j x hx => by simpa using S.cells j x hx 0 (byteV x) rfl
theorem run_compare_sl (S : Sl F encB 1 h l w) (S2 : Sl F2 encB 1 h2 l2 w) : (Extern.BytealgCompare.compare #[slV h l, slV h2 l2]).run P w = .ok (.int .i64 (Lib.compareBytes l l2)) w := by
  change Sem.run P (do pure (goInt (Extern.BytealgCompare.cmp (← Extern.Bytes.bytesOf (slV h l)) (← Extern.Bytes.bytesOf (slV h2 l2))))) w = _
  simp only [Sem.run_bind, Sem.run_pure, run_bytesOf_sl S, run_bytesOf_sl S2, Result.andThen]
  rw [Lib.cmp_eq]
  rfl
theorem R_callX {k : FuncId} {fn : Func} {e : Array Value → Sem Value} {v : Value} {ls : List Operand} {vs : List Value} {at_ : Array TypeId} (hf : P.funcs[k]? = some fn) (hname : (fn.name == "runtime.NumGoroutine") = false)
    (hb : fn.body.isNone = true) (hn : Extern.findNext fn = none) (he : Extern.find fn = some e) (hfn : ρ (.func k) = .func (.func k) #[] #[]) (hv : ls.map ρ = vs) (hr : (e vs.toArray).run P w = .ok v w) (hK : K v w) :
    Runs P ρ ⟨d, .call { callee := .value (.func k), args := ls.toArray, argTypes := at_ }, ty, pos, af, g⟩ w K := by
  refine .value (v := v) (w' := w) ?_ hK
  have hargs : ls.toArray.map ρ = vs.toArray := by rw [List.map_toArray, hv]
  simp only [execOp, resolve, hfn, Deferred.ofValue, hargs]
  simp only [Sem.run_bind, Sem.run_pure, Result.andThen_ok, invoke, Array.append_empty, Array.empty_append]
  rw [run_callFunc_extern hf hname hb hn he, hr]
  rfl
theorem R_compare {k : FuncId} {fn : Func} {ls : List Operand} {at_ : Array TypeId} (hf : P.funcs[k]? = some fn) (hname : (fn.name == "runtime.NumGoroutine") = false)
    (hb : fn.body.isNone = true) (hn : Extern.findNext fn = none) (he : Extern.find fn = some Extern.BytealgCompare.compare) (hfn : ρ (.func k) = .func (.func k) #[] #[]) (hv : ls.map ρ = [slV h l, slV h2 l2]) (S : Sl F encB 1 h l w) (S2 : Sl F2 encB 1 h2 l2 w) (hK : K (.int .i64 (Lib.compareBytes l l2)) w) :
    Runs P ρ ⟨d, .call { callee := .value (.func k), args := ls.toArray, argTypes := at_ }, ty, pos, af, g⟩ w K :=
  R_callX hf hname hb hn he hfn hv (run_compare_sl S S2) hK
end
end Go.Proofs.YthjdhfoeckfmbaaGreat
namespace Go.Proofs.YthjdhfoeckfmbaaGreat
open Go
set_option linter.unusedVariables false
set_option linter.unusedSimpArgs false
set_option linter.unusedSectionVars false
variable [DD]
def chkF (ops : Array Oper) (mf : Nat → Nat) (πa πb : List (Nat × Kd)) : Array Bool → List (Nat × Kd) → Bool
  | listed, [] => match πa, πb with
    | (a, .c ma) :: ra, (b, .c mb) :: rb => Region.ready .any ops listed == [a, b] && Nat.beq (mf a) ma && Nat.beq (mf b) mb && Nat.beq ra.length rb.length && chk ops mf (listed.setIfInBounds a true) ra && chk ops mf (listed.setIfInBounds b true) rb
    | _, _ => false
  | listed, (k, .c m) :: rest => Region.ready .any ops listed == [k] && Nat.beq (mf k) m && chkF ops mf πa πb (listed.setIfInBounds k true) rest
  | listed, (k, .q wk) :: rest =>
    (Region.ready .any ops listed).contains k && Nat.beq (mf k) 0 && freeOk ops mf listed k wk (waits ops listed k) && chkF ops mf πa πb (listed.setIfInBounds k true) rest
section
variable {P : Program} {n : Nat} {ops : Array Oper} {M : Nat → Prop} {mf : Nat → Nat} {Q : Env → World → Prop}
theorem Lx_step (hsel : Region.noSelect ops = true) {k mu : Nat} {rest : List (Nat × Kd)} {listed : Array Bool} {e : Env} {wc w : World} {a : Act} (hm : mf k = mu) (hc : chk ops mf (listed.setIfInBounds k true) rest = true)
    (h : Lx P n ops M Q ((k, .c mu) :: rest) e wc) (ha : Agr n a e) (hw : Ext wc w) :
    rOp P ops k (fun a' w' => GrF M (mf k) w w' ∧ AnyR P ops (fun a w => ∃ e', Agr n a e' ∧ Q e' w) mf M rest.length (listed.setIfInBounds k true) a' w') a w := by
  obtain ⟨o, ho, hd, h⟩ := h
  have h1 := h w hw
  unfold rOp
  simp only [ho]
  rw [wantE_eq ha]
  split
  · rename_i hwant
    rw [if_pos hwant] at h1
    rw [← ha.eval] at h1
    exact h1.mono fun v w' hk => ⟨by rw [hm]; exact hk.1, Lx_sound hsel rest _ _ _ _ hc hk.2 (ha.putE hd v)⟩
  · rename_i hwant
    rw [if_neg hwant] at h1
    exact ⟨Gr.refl _ _, Lx_sound hsel rest _ _ _ _ hc h1 (ha.putE hd _)⟩
theorem Lx_soundF (hsel : Region.noSelect ops = true) (πa πb : List (Nat × Kd)) : ∀ (π : List (Nat × Kd)) (listed : Array Bool) (e : Env) (wc : World) (a : Act), chkF ops mf πa πb listed π = true →
    Lx P n ops M (fun e w => Lx P n ops M Q πa e w ∧ Lx P n ops M Q πb e w) π e wc → Agr n a e → AnyR P ops (fun a w => ∃ e', Agr n a e' ∧ Q e' w) mf M (π.length + πa.length) listed a wc
  | [], listed, e, wc, a, hc, h, ha => by
    unfold chkF at hc
    split at hc
    · rename_i ka ma ra kb mb rb
      simp only [Bool.and_eq_true, beq_iff_eq] at hc
      obtain ⟨⟨⟨⟨⟨hr, hma⟩, hmb⟩, hl⟩, hca⟩, hcb⟩ := hc
      have hma := Nat.eq_of_beq_eq_true hma
      have hmb := Nat.eq_of_beq_eq_true hmb
      have hl := Nat.eq_of_beq_eq_true hl
      rw [show ([] : List (Nat × Kd)).length + ((ka, Kd.c ma) :: ra).length = ra.length + 1 from by simp]
      refine ⟨fun h0 => (by rw [h0] at hr; cases hr), fun i hi w hw => ?_⟩
      rw [hr] at hi
      have hb := h w hw
      rcases List.mem_cons.1 hi with rfl | hi
      · exact Lx_step hsel hma hca hb.1 ha (Gr.refl _ _)
      · obtain rfl := List.mem_singleton.1 hi
        have := Lx_step hsel hmb hcb hb.2 ha (Gr.refl _ _)
        rw [← hl] at this
        exact this
    · cases hc
  | (k, .c mu) :: rest, listed, e, wc, a, hc, h, ha => by
    simp only [chkF, Bool.and_eq_true, beq_iff_eq] at hc
    obtain ⟨⟨hr, hm⟩, hc'⟩ := hc
    have hm := Nat.eq_of_beq_eq_true hm
    obtain ⟨o, ho, hd, h⟩ := h
    rw [List.length_cons, Nat.add_right_comm]
    refine ⟨fun h0 => (by rw [h0] at hr; cases hr), fun i hi w hw => ?_⟩
    rw [hr] at hi
    obtain rfl : i = k := by simpa using hi
    have h1 := h w hw
    unfold rOp
    simp only [ho]
    rw [wantE_eq ha]
    split
    · rename_i hwant
      rw [if_pos hwant] at h1
      rw [← ha.eval] at h1
      exact h1.mono fun v w' hk => ⟨by rw [hm]; exact hk.1, Lx_soundF hsel πa πb rest _ _ _ _ hc' hk.2 (ha.putE hd v)⟩
    · rename_i hwant
      rw [if_neg hwant] at h1
      exact ⟨Gr.refl _ _, Lx_soundF hsel πa πb rest _ _ _ _ hc' h1 (ha.putE hd _)⟩
  | (k, .q wk) :: rest, listed, e, wc, a, hc, h, ha => by
    simp only [chkF, Bool.and_eq_true, beq_iff_eq] at hc
    obtain ⟨⟨⟨hr, hm⟩, hfree⟩, hc'⟩ := hc
    have hm := Nat.eq_of_beq_eq_true hm
    obtain ⟨o, ho, hd, v, hq, h⟩ := h
    have IH := Lx_soundF hsel πa πb rest _ _ _ _ hc' h (ha.putE hd v)
    rw [List.length_cons, Nat.add_right_comm]
    simp only [freeOk, waitsOk, Bool.and_eq_true] at hfree
    refine AnyR_first (wk := wk) (waits ops listed k) ho hsel (rest.length + πa.length) listed a wc ?_ ?_ hm (by simpa using hr) ?_ IH
    · intro i hi
      have hh := List.all_eq_true.1 hfree.1 i hi
      simp only [Bool.and_eq_true, Bool.not_eq_true', Array.any_eq_true', Bool.or_eq_true, beq_iff_eq, List.contains_iff_mem, Nat.blt_eq] at hh
      obtain ⟨h1, h2, e, he, hb, hon⟩ := hh
      refine ⟨h1, ops[i], by simp [h2], e, ?_, hb, hon⟩
      simpa [h2] using he
    · intro i oi hoi hik hun hno
      have hi : i < ops.size := (Array.getElem?_eq_some_iff.1 hoi).1
      have hh := List.all_eq_true.1 hfree.2 i (List.mem_range.2 hi)
      have hoi' : ops.getD i default = oi := by simp [hoi]
      have hok' : ops.getD k default = o := by simp [ho]
      rw [hoi', hok'] at hh
      simp only [Bool.or_eq_true, beq_iff_eq, hik, false_or, hun, Bool.false_eq_true, Bool.and_eq_true, List.contains_iff_mem] at hh
      rcases hh with hh | ⟨hap, hw⟩
      · exact absurd hh hno
      · exact ⟨hap, Nat.le_of_ble_eq_true hw⟩
    · unfold Quiet
      rw [wantE_eq ha, ha.eval]
      split
      · rename_i hwant; rw [if_pos hwant] at hq; exact hq
      · rename_i hwant; rw [if_neg hwant] at hq; exact hq
theorem W_forkd {Q : Exit → Env → World → Prop} {id : Nat} {l : List Oper} {e : Env} {w : World} (hm : P.follows .mixedOrders = true) (M : Nat → Prop) (mf : Nat → Nat) (π πa πb : List (Nat × Kd))
    (hc : (Region.noSelect l.toArray && Nat.beq (π.length + πa.length) l.length && chkF l.toArray mf πa πb (Array.replicate l.length false) π) = true)
    (h : Lx P n l.toArray M (fun e w => Lx P n l.toArray M (fun e w => Q .normal e w) πa e w ∧ Lx P n l.toArray M (fun e w => Q .normal e w) πb e w) π e w) : W P n (.region id l.toArray true) Q e w := by
  simp only [Bool.and_eq_true] at hc
  obtain ⟨⟨hsel, hlen⟩, hc⟩ := hc
  constructor
  intro a ha
  have hs := Lx_soundF (mf := mf) hsel πa πb π _ e w a hc h ha
  have hl : π.length + πa.length = l.length := Nat.eq_of_beq_eq_true hlen
  refine wp_region_any hm ?_
  have := wpAny_of_AnyR (Q' := fun x a' w' => ∃ e', Agr n a' e' ∧ Q x e' w') (fun a w ⟨e', h1, h2⟩ => ⟨e', h1, h2⟩) _ _ _ _ _ (Ext.drew w) hs
  rw [hl] at this
  simpa using this
end
end Go.Proofs.YthjdhfoeckfmbaaGreat
namespace Go.Proofs.YthjdhfoeckfmbaaGreat
open Go
set_option linter.unusedVariables false
set_option linter.unusedSimpArgs false
set_option linter.unusedSectionVars false
variable [DD]
theorem freeze_heap (w : World) (p : Addr) (n b : Nat) (hb : b ≠ p.block) : (w.freeze p n).heap[b]? = w.heap[b]? := by
  unfold World.freeze
  split
  · rfl
  · simp [Array.getElem?_modify, Ne.symm hb]
theorem freeze_cell (w : World) (p : Addr) (n : Nat) (a : Addr) : (w.freeze p n).cell? a = w.cell? a := by
  unfold World.freeze
  split
  · rfl
  · unfold World.cell?
    simp only [Array.getElem?_modify]
    by_cases h : p.block = a.block
    · rw [if_pos h]
      cases hx : w.heap[a.block]? with
      | none => rfl
      | some o => cases o <;> rfl
    · rw [if_neg h]
theorem Gr_freeze (w : World) (p : Addr) (n : Nat) : Gr (fun k => k = p.block) w (w.freeze p n) := by
  refine ⟨?_, ?_, ?_, ?_, fun k hk hn => freeze_heap w p n k hn, fun _ => ?_⟩ <;> (unfold World.freeze; split <;> simp)
section
variable {P : Program} {ρ : Operand → Value} {w0 w w' : World} {M : Nat → Prop} {B : List Own} {I : List Imm} {K : Value → World → Prop} {d : Option Tmp} {ty : TypeId} {pos : String} {af : Array Edge} {g : Option (Nat × Bool)}
theorem Ctx.ownImm (H : Ctx w0 M w B I) (j : Nat) {o : Own} (hj : B[j]? = some o) (i : Imm) (hF : ∀ b, i.F b → o.blk = some b) (hp : i.p w) : Ctx w0 M w (B.eraseIdx j) (i :: I) := by
  have hjl : j < B.length := (List.getElem?_eq_some_iff.1 hj).1
  have hje : B[j] = o := (List.getElem?_eq_some_iff.1 hj).2
  refine (H.sub (List.eraseIdx_sublist ..) (fun i hi => hi)).addImm' _ hp fun b hb => ⟨((H.own _ (List.mem_of_getElem? hj)).2 b (hF b hb)).1, fun o' ho hob => ?_⟩
  obtain ⟨i', hi, hij, rfl⟩ := List.mem_eraseIdx_iff_getElem.1 ho
  have hpw := List.pairwise_iff_getElem.1 H.apart
  have hbk : (B[j]).blk = some b := by rw [hje]; exact hF b hb
  rcases Nat.lt_or_gt_of_ne hij with hlt | hgt
  · exact hpw i' j _ hjl hlt b hob hbk
  · exact hpw j i' hjl _ hgt b hbk hob
def slO (h : SlH) (l : List UInt8) : Own where
  blk := (slV h l).ownBlock
  q := Sl (fun z => (slV h l).ownBlock = some z) encB 1 h l
  loc w w' hb s := s.local hb
theorem C_convBB (H : Ctx w0 M w B I) (i : Nat) {e : TypeId} {h : SlH} {l : List UInt8} (hi : B[i]? = some (rowR e 1 encB h l)) {t : TypeId} {x : Operand} (ht : P.underlying t = some (.slice e)) (he : P.underlying e = some (.int .u8))
    (hx : ρ x = slV h l) (hl : 0 < l.length)
    (hK : ∀ w', Gr (fun k => (slV h l).ownBlock = some k) w w' → Ctx w0 M w' (B.eraseIdx i) (slI (fun z => (slV h l).ownBlock = some z) encB 1 h l :: I) → K (slV h l) w') : Runs P ρ ⟨d, .convert t t x, ty, pos, af, g⟩ w K := by
  have S : Sl (fun z => (slV h l).ownBlock = some z) encB 1 h l w := OwnS.sl (H.getOwn i hi) (fun _ => rfl)
  obtain ⟨ha, hb⟩ := S.there hl
  obtain ⟨w1, hw1, hg, hcell⟩ : ∃ w1, (convert t t (slV h l)).run P w = .ok (slV h l) w1 ∧ Gr (fun k => k = h.b) w w1 ∧ ∀ a, w1.cell? a = w.cell? a := by
    rw [show slV h l = .slice (some ⟨h.b, h.o, none⟩) l.length h.c from by simp [slV, ha]]
    cases hs : w.shape? h.b with
    | none => exact ⟨w, by simp [convert, run_underlying ht, run_underlying he, markStringish, hs], Gr.refl _ _, fun _ => rfl⟩
    | some p => exact ⟨w.freeze ⟨h.b, p.2, none⟩ 1, by simp [convert, run_underlying ht, run_underlying he, markStringish, hs], Gr_freeze w ⟨h.b, p.2, none⟩ 1, fun a => freeze_cell w ⟨h.b, p.2, none⟩ 1 a⟩
  have hg' : Gr (fun k => (slV h l).ownBlock = some k) w w1 := hg.mono fun k hk => by subst hk; exact hb
  have S1 : Sl (fun z => (slV h l).ownBlock = some z) encB 1 h l w1 := ⟨S.cap, S.max, S.there, fun i x hx j v hv => by rw [hcell]; exact S.cells i x hx j v hv⟩
  have H1 := H.upd i hi (slO h l) hg' S1 (fun b hb => .inl hb)
  have hil : i < B.length := (List.getElem?_eq_some_iff.1 hi).1
  have H2 := H1.ownImm i (o := slO h l) (by simp [hil]) (slI (fun z => (slV h l).ownBlock = some z) encB 1 h l) (fun _ h => h) S1
  rw [List.eraseIdx_set_eq] at H2
  refine .value (v := slV h l) (w' := w1) ?_ (hK w1 hg' H2)
  simp only [execOp, hx, Sem.run_bind, hw1, Result.andThen_ok, Sem.run_pure]
end
end Go.Proofs.YthjdhfoeckfmbaaGreat
namespace Go.Proofs.YthjdhfoeckfmbaaGreat
open Go
set_option linter.unusedVariables false
set_option linter.unusedSimpArgs false
set_option linter.unusedSectionVars false
variable [DD]
section
variable {P : Program} {n : Nat} {Q : Exit → Env → World → Prop} {e : Env} {w : World} {ops : Array Oper} {rest : List Oper} {d : Nat} {op : Op} {ty : TypeId} {pos : String} {af : Array Edge} {j dj : Nat} {b : Bool} {oj : Oper}
theorem wantT {dd : Option Tmp} (hj : ops[j]? = some oj) (hdj : oj.dst = some dj) (hx : e dj = .bool b) : wantE ops e ⟨dd, op, ty, pos, af, some (j, b)⟩ = true := by
  simp only [wantE, hj, Option.bind_some, hdj, hx]
  cases b <;> rfl
theorem O_vT (hj : ops[j]? = some oj) (hdj : oj.dst = some dj) (hx : e dj = .bool b) (hd : Nat.blt d n = true)
    (h : Runs P (evalE e) ⟨some d, op, ty, pos, af, some (j, b)⟩ w (fun v w' => O P n ops Q rest (upd e d v) w')) : O P n ops Q (⟨some d, op, ty, pos, af, some (j, b)⟩ :: rest) e w :=
  ⟨hd, by rw [if_pos (wantT hj hdj hx)]; exact h⟩
theorem O_k (hd : Nat.blt d n = true) (v : Value) (h : Runs P (evalE e) ⟨some d, op, ty, pos, af, none⟩ w (fun v' w' => v' = v ∧ Ext w w')) (k : ∀ w', Ext w w' → O P n ops Q rest (upd e d v) w') :
    O P n ops Q (⟨some d, op, ty, pos, af, none⟩ :: rest) e w :=
  O_v hd (h.mono fun _ w' hk => hk.1 ▸ k w' hk.2)
theorem O_kT (hj : ops[j]? = some oj) (hdj : oj.dst = some dj) (hx : e dj = .bool b) (hd : Nat.blt d n = true) (v : Value) (h : Runs P (evalE e) ⟨some d, op, ty, pos, af, some (j, b)⟩ w (fun v' w' => v' = v ∧ Ext w w'))
    (k : ∀ w', Ext w w' → O P n ops Q rest (upd e d v) w') : O P n ops Q (⟨some d, op, ty, pos, af, some (j, b)⟩ :: rest) e w :=
  O_vT hj hdj hx hd (h.mono fun _ w' hk => hk.1 ▸ k w' hk.2)
theorem O_g (c x : Bool) (hj : ops[j]? = some oj) (hdj : oj.dst = some dj) (hx : e dj = gv c (.bool x)) (hd : Nat.blt d n = true) (a : Bool) (ha : a = (c && (x == b))) (v : Value)
    (h : a = true → Runs P (evalE e) ⟨some d, op, ty, pos, af, some (j, b)⟩ w (fun v' w' => v' = v ∧ Ext w w')) (k : ∀ w', Ext w w' → O P n ops Q rest (upd e d (gv a v)) w') :
    O P n ops Q (⟨some d, op, ty, pos, af, some (j, b)⟩ :: rest) e w := by
  have hw : wantE ops e ⟨some d, op, ty, pos, af, some (j, b)⟩ = a := by
    simp only [wantE, hj, Option.bind_some, hdj, hx]
    subst ha
    cases c
    · rfl
    · rfl
  refine ⟨hd, ?_⟩
  rw [hw]
  cases a with
  | true => rw [if_pos rfl]; exact (h rfl).mono fun _ w' hk => hk.1 ▸ k w' hk.2
  | false => exact k w (Gr.refl _ _)
end
section
variable {P : Program} {ρ : Operand → Value} {w0 w w' : World} {M : Nat → Prop} {B : List Own} {I : List Imm} {K : Value → World → Prop} {d : Option Tmp} {ty : TypeId} {pos : String} {af : Array Edge} {g : Option (Nat × Bool)}
end
end Go.Proofs.YthjdhfoeckfmbaaGreat
namespace Go.Proofs.YthjdhfoeckfmbaaGreat
open Go
set_option linter.unusedVariables false
set_option linter.unusedSimpArgs false
set_option linter.unusedSectionVars false
variable [DD]
section
variable {P : Program} {n : Nat} {ops : Array Oper} {M : Nat → Prop} {Q : Env → World → Prop} {e : Env} {w wc : World} {rest : List (Nat × Kd)}
variable {i wk d : Nat} {op : Op} {ty : TypeId} {pos : String} {af : Array Edge} {j dj : Nat} {oj : Oper} {x : Bool}
theorem Lx_qt (ho : ops[i]? = some ⟨some d, op, ty, pos, af, some (j, true)⟩) (hj : ops[j]? = some oj) (hdj : oj.dst = some dj) (hx : e dj = .bool x) (hd : Nat.blt d n = true) (v : Value)
    (h : x = true → ∀ w, GrF M wk wc w → Runs P (evalE e) ⟨some d, op, ty, pos, af, some (j, true)⟩ w (fun v' w' => v' = v ∧ Ext w w')) (k : Lx P n ops M Q rest (upd e d (gv x v)) wc) : Lx P n ops M Q ((i, .q wk) :: rest) e wc :=
  Lx_qg true x ho hj hdj hx hd x ga_t v h k
theorem Lx_qf (ho : ops[i]? = some ⟨some d, op, ty, pos, af, some (j, false)⟩) (hj : ops[j]? = some oj) (hdj : oj.dst = some dj) (hx : e dj = .bool x) (hd : Nat.blt d n = true) (v : Value)
    (h : (!x) = true → ∀ w, GrF M wk wc w → Runs P (evalE e) ⟨some d, op, ty, pos, af, some (j, false)⟩ w (fun v' w' => v' = v ∧ Ext w w')) (k : Lx P n ops M Q rest (upd e d (gv (!x) v)) wc) : Lx P n ops M Q ((i, .q wk) :: rest) e wc :=
  Lx_qg true x ho hj hdj hx hd (!x) ga_f v h k
theorem Lx_gt (c x : Bool) (ho : ops[i]? = some ⟨some d, op, ty, pos, af, some (j, true)⟩) (hj : ops[j]? = some oj) (hdj : oj.dst = some dj) (hx : e dj = gv c (.bool x)) (hd : Nat.blt d n = true) (v : Value)
    (h : (c && x) = true → ∀ w, GrF M wk wc w → Runs P (evalE e) ⟨some d, op, ty, pos, af, some (j, true)⟩ w (fun v' w' => v' = v ∧ Ext w w')) (k : Lx P n ops M Q rest (upd e d (gv (c && x) v)) wc) : Lx P n ops M Q ((i, .q wk) :: rest) e wc :=
  Lx_qg c x ho hj hdj hx hd (c && x) gb_t v h k
theorem Lx_gf (c x : Bool) (ho : ops[i]? = some ⟨some d, op, ty, pos, af, some (j, false)⟩) (hj : ops[j]? = some oj) (hdj : oj.dst = some dj) (hx : e dj = gv c (.bool x)) (hd : Nat.blt d n = true) (v : Value)
    (h : (c && !x) = true → ∀ w, GrF M wk wc w → Runs P (evalE e) ⟨some d, op, ty, pos, af, some (j, false)⟩ w (fun v' w' => v' = v ∧ Ext w w')) (k : Lx P n ops M Q rest (upd e d (gv (c && !x) v)) wc) : Lx P n ops M Q ((i, .q wk) :: rest) e wc :=
  Lx_qg c x ho hj hdj hx hd (c && !x) gb_f v h k
theorem Lx_mv {y : Operand} {v : Value} (ho : ops[i]? = some ⟨some d, .move y, ty, pos, af, none⟩) (hd : Nat.blt d n = true) (hv : evalE e y = v) (k : Lx P n ops M Q rest (upd e d v) wc) : Lx P n ops M Q ((i, .q wk) :: rest) e wc :=
  Lx_q ho hd v (fun w hw => R_move hv ⟨rfl, Gr.refl _ _⟩) k
end
section
variable {P : Program} {n : Nat} {ops : Array Oper} {Q : Exit → Env → World → Prop} {e : Env} {w : World} {rest : List Oper} {d : Nat} {ty : TypeId} {pos : String} {af : Array Edge}
theorem O_mv {y : Operand} {v : Value} (hd : Nat.blt d n = true) (hv : evalE e y = v) (h : O P n ops Q rest (upd e d v) w) : O P n ops Q (⟨some d, .move y, ty, pos, af, none⟩ :: rest) e w :=
  O_v hd (R_move hv h)
theorem O_as {y : Operand} {v : Value} (hd : Nat.blt d n = true) (hv : evalE e y = v) (h : O P n ops Q rest (upd e d v) w) : O P n ops Q (⟨some d, .assign y, ty, pos, af, none⟩ :: rest) e w :=
  O_v hd (R_assign hv h)
theorem O_ex {y : Operand} {k : Nat} {vs : Array Value} {v : Value} (hd : Nat.blt d n = true) (hx : evalE e y = .tuple vs) (hi : vs[k]? = some v) (h : O P n ops Q rest (upd e d v) w) : O P n ops Q (⟨some d, .extract y k, ty, pos, af, none⟩ :: rest) e w :=
  O_v hd (R_extract hx hi h)
end
theorem qk {v : Value} {w : World} : v = v ∧ Ext w w := ⟨rfl, Gr.refl _ _⟩
theorem Ctx.bx {w0 w : World} {M : Nat → Prop} {B : List Own} {I : List Imm} (H : Ctx w0 M w B I) (i : Nat) {b : Nat} {t : TypeId} {cs : Chs} (hi : B[i]? = some (boxR b t cs)) (k m off oo : Nat) (sub : Chs) (hs : (cs.drop k).take m = sub) (ho : lenTo cs k = off) (hoo : 0 + off = oo) : At w b oo sub.flatten :=
  (boxR_at (H.getOwn i hi)).chunks k m off oo sub hs ho hoo
theorem memN {I : List Imm} : ∀ i ∈ ([] : List Imm), i ∈ I := fun _ h => (nomatch h)
theorem C_storeW {P : Program} {ρ : Operand → Value} {w0 w : World} {M : Nat → Prop} {B : List Own} {I : List Imm} {K : Value → World → Prop} {d : Option Tmp} {ty : TypeId} {pos : String} {af : Array Edge} {g : Option (Nat × Bool)}
    (H : Ctx w0 M w B I) (i : Nat) {b : Nat} {tb : TypeId} {cs : Chs} (hi : B[i]? = some (boxR b tb cs)) {t : TypeId} {x y : Operand} {m : Nat} {sub : Chs}
    (hs : ∀ w, (sizeOf t).run P w = .ok m w) (hx : ρ x = .pointer (some ⟨b, 0, none⟩)) (hy : ρ y = aggOf sub) (hm : sub.flatten.length = m) (hc : cs.flatten.length = m) (h1 : sub.flatten.all (·.oneCell') = true)
    (h : ∀ w', Gr (fun k => some b = some k) w w' → Ctx w0 M w' (B.set i (boxR b tb sub)) I → K undef w') : Runs P ρ ⟨d, .store t x y, ty, pos, af, g⟩ w K :=
  C_storeA H i hi 0 (sub := sub) sub hs hx hy rfl hm ⟨cs, [], by simp, hc, by simp⟩ h1 h
end Go.Proofs.YthjdhfoeckfmbaaGreat
namespace Go.Proofs.YthjdhfoeckfmbaaGreat
open Go
set_option linter.unusedVariables false
set_option linter.unusedSimpArgs false
set_option linter.unusedSectionVars false
def cmpInt (a b : Int) : Int := if a < b then -1 else if b < a then 1 else 0
theorem cmpInt_lt {a b : Int} (h : a < b) : cmpInt a b = -1 := if_pos h
theorem cmpInt_gt {a b : Int} (h : ¬ a < b) (h2 : b < a) : cmpInt a b = 1 := by unfold cmpInt; rw [if_neg h, if_pos h2]
theorem cmpInt_eq {a b : Int} (h : ¬ a < b) (h2 : ¬ b < a) : cmpInt a b = 0 := by unfold cmpInt; rw [if_neg h, if_neg h2]
def cmpSt (a b : Stamp) : Int := if a.T < b.T ∨ a.T = b.T ∧ a.R < b.R then -1 else if a.T = b.T ∧ a.R = b.R then 0 else 1
def findRow (xs : List RowS) (s : Stamp) : Int := match xs.findIdx? (fun x => decide (x.node = s)) with | some i => (i : Int) | none => -1
def stRight (s : Stamp) : Bool := decide (1 ≤ s.T ∧ s.T ≤ 1099511627776 ∧ 1 ≤ s.R ∧ s.R ≤ 65536)
def badByte (b : UInt8) : Bool := b = 0 || b = 47 || b = 10
def nameOk (s : ByteArray) : Bool := decide (s ≠ ByteArray.empty ∧ s.size ≤ 60 ∧ s ≠ ⟨#[46]⟩ ∧ s ≠ ⟨#[46, 46]⟩ ∧ ∀ j, j < s.size → badByte (sbyte s j) = false)
def itemHeadOk (node : Stamp) (hs : List Head) (i : Nat) : Prop := stRight (nth hs i).tm = true ∧ cmpSt (nth hs i).tm node = 1 ∧ (nth hs i).data ≠ zeroId ∧ (i = 0 ∨ cmpSt (nth hs (i - 1)).tm (nth hs i).tm = -1)
instance (node : Stamp) (hs : List Head) (i : Nat) : Decidable (itemHeadOk node hs i) := by unfold itemHeadOk; infer_instance
def itemOk (node tm : Stamp) (name : ByteArray) (hs : List Head) : Bool :=
  decide (stRight node = true ∧ stRight tm = true ∧ ¬ cmpSt tm node < 0 ∧ nameOk name = true ∧ hs.length ≤ 1000 ∧ ∀ i, i < hs.length → itemHeadOk node hs i)
def itemOkS (x : ItemS) : Bool := itemOk x.node x.tm x.name x.heads
def dirOk (xs : List ItemS) : Bool := decide (xs.length ≤ 1000 ∧ ∀ i, i < xs.length → itemOkS (nth xs i) = true ∧ (i = 0 ∨ cmpSt (nth xs (i - 1)).node (nth xs i).node = -1))
def lastSt : Stamp := ⟨1099511627776, 65536⟩
structure RowC where
  node : Stamp
  par : Stamp
  tm : Stamp
  name : ByteArray
  heads : List Head
  deriving DecidableEq, Inhabited
def RowS.core (r : RowS) : RowC := ⟨r.node, r.par, r.tm, r.name, r.heads⟩
def liesGo (rows : List RowS) (over : Stamp) : Nat → Stamp → Bool
  | 0, _ => false
  | n + 1, s => if findRow rows s < 0 ∨ s.T = 0 ∧ (s.R = 0 ∨ s.R = 1) then false else
    if (nth rows (findRow rows s).toNat).par = over then true else liesGo rows over n (nth rows (findRow rows s).toNat).par
def liesOf (rows : List RowS) (node over : Stamp) : Bool := liesGo rows over rows.length node
def rowOkAt (rows : List RowS) (i : Nat) : Prop := itemOk (nth rows i).node (nth rows i).tm (nth rows i).name (nth rows i).heads = true ∧ (nth rows i).node ≠ lastSt ∧ (i = 0 ∨ cmpSt (nth rows (i - 1)).node (nth rows i).node = -1) ∧
  (liesOf rows (nth rows i).node ⟨0, 0⟩ = true ∨ liesOf rows (nth rows i).node ⟨0, 1⟩ = true)
instance (rows : List RowS) (i : Nat) : Decidable (rowOkAt rows i) := by unfold rowOkAt; infer_instance
theorem eq_of_nth {α : Type} [Inhabited α] {a b : List α} (hl : a.length = b.length) (h : ∀ i, i < a.length → nth a i = nth b i) : a = b := by
  apply List.ext_getElem hl
  intro i h1 h2
  have := h i h1
  rwa [nth_eq h1, nth_eq h2] at this
theorem all_succ {p : Nat → Prop} {k : Nat} (h : ∀ i, i < k → p i) (hk : p k) : ∀ i, i < k + 1 → p i := fun i hi => by
  rcases Nat.lt_or_eq_of_le (Nat.le_of_lt_succ hi) with h1 | h1
  · exact h i h1
  · subst h1; exact hk
theorem all_zero (p : Nat → Prop) : ∀ i, i < 0 → p i := fun _ h => absurd h (Nat.not_lt_zero _)
theorem itemOk_f1 {x : ItemS} (h : (((stRight x.node = false ∨ stRight x.tm = false) ∨ cmpSt x.tm x.node < 0) ∨ nameOk x.name = false) ∨ (1000 : Int) < ((x.heads.length : Nat) : Int)) : Value.bool false = Value.bool (itemOkS x) := by
  refine boolF ?_
  rintro ⟨h1, h2, h3, h4, h5, _⟩
  rcases h with (((h | h) | h) | h) | h
  · rw [h1] at h; cases h
  · rw [h2] at h; cases h
  · exact h3 h
  · rw [h4] at h; cases h
  · omega
def orInt (vals : List Int) : Int := (vals.find? fun v => !decide (v = 0)).getD 0
theorem orInt_at {vals : List Int} {k : Nat} (hn : ∀ i, i < k → nth vals i = 0) (hk : k < vals.length) (h : ¬ nth vals k = 0) : orInt vals = nth vals k := by
  unfold orInt
  have : vals.find? (fun v => !decide (v = 0)) = some (nth vals k) := by
    rw [List.find?_eq_some_iff_getElem]
    refine ⟨by simp [h], k, hk, (nth_eq hk).symm, fun j hj => ?_⟩
    have := hn j hj
    rw [nth_eq (by omega)] at this
    simp [this]
  rw [this]; rfl
theorem orInt_none {vals : List Int} (hn : ∀ i, i < vals.length → nth vals i = 0) : orInt vals = 0 := by
  unfold orInt
  have : vals.find? (fun v => !decide (v = 0)) = none := by
    rw [List.find?_eq_none]
    intro x hx
    obtain ⟨i, hi, rfl⟩ := List.getElem_of_mem hx
    have := hn i hi
    rw [nth_eq hi] at this
    simp [this]
  rw [this]; rfl
theorem orInt_cmp {a b : Stamp} : orInt [cmpInt a.T b.T, cmpInt a.R b.R] = cmpSt a b := by
  unfold orInt cmpInt cmpSt
  by_cases h1 : a.T < b.T
  · simp [h1]
  · by_cases h2 : b.T < a.T
    · have : ¬ a.T = b.T := by omega
      simp [h1, h2, this]
    · have : a.T = b.T := by omega
      simp only [this, Int.lt_irrefl, if_false, true_and, false_or]
      by_cases h3 : a.R < b.R
      · simp [h3]
      · by_cases h4 : b.R < a.R
        · have : ¬ a.R = b.R := by omega
          simp [h3, h4, this]
        · have : a.R = b.R := by omega
          simp [this]
theorem cmpSt_range (a b : Stamp) : cmpSt a b = -1 ∨ cmpSt a b = 0 ∨ cmpSt a b = 1 := by
  unfold cmpSt; split
  · exact .inl rfl
  · split
    · exact .inr (.inl rfl)
    · exact .inr (.inr rfl)
def riseBy {α : Type} [Inhabited α] (f : α → α → Int) (a : List α) : Bool := decide (∀ i, i < a.length → 1 ≤ i → f (nth a (i - 1)) (nth a i) < 0)
theorem rise_succ {α : Type} [Inhabited α] {f : α → α → Int} {a : List α} {k : Nat} (h : ∀ i, i < k → 1 ≤ i → f (nth a (i - 1)) (nth a i) < 0) (hk : f (nth a (k - 1)) (nth a k) < 0) : ∀ i, i < k + 1 → 1 ≤ i → f (nth a (i - 1)) (nth a i) < 0 := fun i h2 h1 => by
  rcases Nat.lt_or_eq_of_le (Nat.le_of_lt_succ h2) with h3 | h3
  · exact h i h3 h1
  · subst h3; exact hk
def itemHead1 (node : Stamp) (hs : List Head) (i : Nat) : Prop := stRight (nth hs i).tm = true ∧ cmpSt (nth hs i).tm node = 1 ∧ (nth hs i).data ≠ zeroId
theorem itemHead1_t {node : Stamp} {hs : List Head} {k : Nat} (h : (stRight (nth hs k).tm = true ∧ ¬ cmpSt (nth hs k).tm node ≤ 0) ∧ ¬ (nth hs k).data = zeroId) : itemHead1 node hs k :=
  ⟨h.1.1, by have := cmpSt_range (nth hs k).tm node; omega, h.2⟩
theorem itemOk_f3 {x : ItemS} {k : Nat} (hk : k < x.heads.length) (h : (stRight (nth x.heads k).tm = false ∨ cmpSt (nth x.heads k).tm x.node ≤ 0) ∨ (nth x.heads k).data = zeroId) : Value.bool false = Value.bool (itemOkS x) := by
  refine boolF ?_
  rintro ⟨_, _, _, _, _, hh⟩
  obtain ⟨a1, a2, a3, a4⟩ := hh k hk
  rcases h with (h | h) | h
  · rw [a1] at h; cases h
  · omega
  · exact a3 h
theorem cmp_lt_iff (a b : Stamp) : cmpSt a b < 0 ↔ cmpSt a b = -1 := by have := cmpSt_range a b; omega
theorem itemOk_e {x : ItemS} (h : (((stRight x.node = true ∧ stRight x.tm = true) ∧ ¬ cmpSt x.tm x.node < 0) ∧ nameOk x.name = true) ∧ ¬ (1000 : Int) < ((x.heads.length : Nat) : Int)) (h2 : ∀ i, i < x.heads.length → itemHead1 x.node x.heads i) :
    Value.bool (riseBy (fun a b : Head => cmpSt a.tm b.tm) x.heads) = Value.bool (itemOkS x) := by
  refine boolE ?_
  unfold riseBy
  rw [decide_eq_true_eq]
  constructor
  · intro hr
    refine ⟨h.1.1.1.1, h.1.1.1.2, h.1.1.2, h.1.2, by omega, fun i hi => ⟨(h2 i hi).1, (h2 i hi).2.1, (h2 i hi).2.2, ?_⟩⟩
    by_cases h0 : i = 0
    · exact .inl h0
    · exact .inr ((cmp_lt_iff _ _).1 (hr i hi (by omega)))
  · intro hr i hi h1
    rcases (hr.2.2.2.2.2 i hi).2.2.2 with h0 | h0
    · omega
    · exact (cmp_lt_iff _ _).2 h0
def idxBy {α : Type} (f : α → Bool) (a : List α) : Int := match a.findIdx? f with | some i => (i : Int) | none => -1
theorem idxBy_at {α : Type} [Inhabited α] {f : α → Bool} {a : List α} {k : Nat} (hn : ∀ i, i < k → f (nth a i) = false) (hk : k < a.length) (h : f (nth a k) = true) : idxBy f a = (k : Int) := by
  have : a.findIdx? f = some k := by
    rw [List.findIdx?_eq_some_iff_getElem]
    refine ⟨hk, by rw [← nth_eq hk]; exact h, fun j hj => ?_⟩
    have := hn j hj
    rw [nth_eq (by omega)] at this
    simp [this]
  simp [idxBy, this]
theorem idxBy_none {α : Type} [Inhabited α] {f : α → Bool} {a : List α} (hn : ∀ i, i < a.length → f (nth a i) = false) : idxBy f a = -1 := by
  have : a.findIdx? f = none := by
    rw [List.findIdx?_eq_none_iff]
    intro x hx
    obtain ⟨i, hi, rfl⟩ := List.getElem_of_mem hx
    have := hn i hi
    rwa [nth_eq hi] at this
  simp [idxBy, this]
theorem boolIdx {α : Type} [Inhabited α] (f : α → Bool) (a : List α) : Value.bool (decide (0 ≤ idxBy f a)) = Value.bool (a.any f) := by
  congr 1
  unfold idxBy
  cases h : a.findIdx? f with
  | none =>
    rw [List.findIdx?_eq_none_iff] at h
    have : a.any f = false := by rw [List.any_eq_false]; intro x hx; simp [h x hx]
    rw [this]; rfl
  | some i =>
    obtain ⟨hi, h1, _⟩ := List.findIdx?_eq_some_iff_getElem.1 h
    have : a.any f = true := List.any_eq_true.2 ⟨a[i], List.getElem_mem hi, h1⟩
    rw [this]; simp
theorem dirOk_e {items : List ItemS} : Value.bool ((decide (((items.length : Nat) : Int) ≤ 1000) && !items.any fun x => !itemOkS x) && riseBy (fun a b : ItemS => cmpSt a.node b.node) items) = Value.bool (dirOk items) := by
  refine boolE ?_
  unfold riseBy
  simp only [Bool.and_eq_true, decide_eq_true_eq, Bool.not_eq_true', List.any_eq_false, Bool.not_eq_false]
  constructor
  · rintro ⟨⟨h1, h2⟩, h3⟩
    refine ⟨by omega, fun i hi => ⟨h2 _ (nth_mem hi), ?_⟩⟩
    by_cases h0 : i = 0
    · exact .inl h0
    · exact .inr ((cmp_lt_iff _ _).1 (h3 i hi (by omega)))
  · rintro ⟨h1, h2⟩
    refine ⟨⟨by omega, fun x hx => ?_⟩, fun i hi h0 => ?_⟩
    · obtain ⟨i, hi, rfl⟩ := List.getElem_of_mem hx
      rw [← nth_eq hi]; exact (h2 i hi).1
    · rcases (h2 i hi).2 with h | h
      · omega
      · exact (cmp_lt_iff _ _).2 h
end Go.Proofs.YthjdhfoeckfmbaaGreat
namespace Go.Proofs.YthjdhfoeckfmbaaGreat
open Go
set_option maxRecDepth 100000
set_option linter.unusedVariables false
set_option linter.unusedSimpArgs false
set_option linter.unusedSectionVars false
variable [DD]
theorem eqv_Stamp69 : EqV Tryz.prog 69 2 (fun x : Stamp => stampV x) :=
  eqv_struct2 Tryz.underlying69 Tryz.stoodInHeld69 (by decide) (by decide) (fun _ _ => part_1 (kk := 0) Tryz.isAgg2 rfl rfl) (fun _ _ => part_1 (kk := 1) Tryz.isAgg3 rfl rfl) (p := Stamp.T) (q := Stamp.R) (eqv_int Tryz.underlying2) (eqv_int Tryz.underlying3) (fun x y h1 h2 => by cases x; cases y; simp_all)
theorem eqv_ID45 : EqV Tryz.prog 45 2 (fun x : ID => idV x) := eqv_id (e := 5) (i := Tryz.t5) Tryz.underlying45 Tryz.underlying5 (by kernel_rfl) rfl Tryz.isAgg5
theorem TryzMixed : Tryz.prog.follows .mixedOrders = true := by kernel_rfl
set_option maxHeartbeats 1000000 in
theorem bytes_Clone (hb : SlH) (b : List UInt8) (w : World) (Sb : Sl (Old w) encB 1 hb b w) (hl : b.length ≤ 140737488355328) :
    Calls Tryz.prog 37 #[(slV hb b)] w (Ret fun v w' => ∃ h, v = slV h (b) ∧ Ext w w' ∧ OwnS w.heap.size 5 1 encB h (b) w') := by
 refine calls_W Tryz.func37 rfl Tryz.ntmps37 rfl ?_
 have H0 := Ctx.start w nob
 have H1 := H0.addSl _ Sb (fun b hb => ⟨hb, fun _ ho => (nomatch ho)⟩)
 have LSb := Sb.len
 refine W_seq (W_reg ?_)
 refine O_as (v := (.slice none 0 0)) rfl rfl ?_
 refine O_nil (Then_n (W_seq (W_seq (W_reg ?_))))
 refine O_mv (v := (slV hb b)) rfl rfl ?_
 refine O_v rfl (R_slice_nil (a := hb.a) Tryz.underlying22 rfl rfl ?_)
 refine O_nil (Then_n ?_)
 refine W_cond rfl (fun hc2 => ?_) (fun hc2 => ?_)
 ·have hc2 : hb.a.isNone = true := hc2
  refine W_seq (W_reg ?_)
  refine O_as (v := (.slice none 0 0)) rfl rfl ?_
  refine O_nil (Then_n (W_ret (Then_r ?_)))
  refine ret_1 (v := (.slice none 0 0)) Tryz.results37 rfl ?_
  have H3 := H1.addNil 5 1 encB
  have hE : [] = b := (Sl.isNil Sb (by assumption)).symm
  refine ⟨nilH, ?_, H3.gr, ?_⟩
  · exact congrArg (fun l => slV nilH l) hE
  · have hO := H3.retRow 0 rfl
    exact hE ▸ hO
 ·have hc2 : hb.a.isNone = false := hc2
  refine W_skip (Then_n (W_seq (W_reg ?_)))
  refine O_v rfl (C_buildSliceL H1 (enc := encB) (val := byteV) ([] : List UInt8) Tryz.underlying22 Tryz.sizeOf5 Tryz.zeroValue5 rfl (by decide) (fun _ => rfl) (fun _ => rfl) rfl rfl (by decide) ?_)
  intro b4 w5 hb6 hx7 H8
  refine O_mv (v := (slV hb b)) rfl rfl ?_
  refine O_v rfl (C_append H8 0 rfl (bytes := 1) (l := ([] : List UInt8)) (ys := b) Tryz.underlying22 rfl rfl rfl rfl rfl (by decide) rfl rfl (H8.sl 0 rfl) (fun _ => rfl) (fun _ => rfl) (by simpa using hl) (by decide) ?_)
  intro h9 w10 hg11 H12
  refine O_as (v := (slV h9 (([] : List UInt8) ++ b))) rfl rfl ?_
  refine O_nil (Then_n (W_ret ?_))
  refine ret_1 (v := (slV h9 (([] : List UInt8) ++ b))) Tryz.results37 rfl ?_
  have hE : ([] : List UInt8) ++ b = b := List.nil_append _
  refine ⟨h9, ?_, H12.gr, ?_⟩
  · exact congrArg (fun l => slV h9 l) hE
  · have hO := H12.retRow 0 rfl
    exact hE ▸ hO
end Go.Proofs.YthjdhfoeckfmbaaGreat
