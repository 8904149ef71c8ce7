/- Proved: for every input, pollardlaw04.ObjReads returns true and leaves its argument as it was. No condition. -/
import Derived.Test.YthjdhfoeckfmbaaGreatX2
/- Commits in plain words. -/
namespace Go.Proofs.YthjdhfoeckfmbaaGreat
open Go
set_option linter.unusedVariables false
set_option linter.unusedSimpArgs false
def ownOp (t r : Int) (o : OpS) : Bool := goodOp o && decide (o.tm.T ≤ t) && decide (o.tm.R = r)
theorem own_eq {t r : Int} {o : OpS} : Value.bool ((goodOp o && decide (o.tm.T ≤ t)) && decide (o.tm.R = r)) = Value.bool (ownOp t r o) := rfl
def changeOk (c : ChangeS) : Bool :=
  decide (c.parents.length ≤ 2 ∧ c.parents.any (fun (x : ID) => decide (zeroId = x)) = false ∧ riseBy cmpId c.parents = true ∧ stRight ⟨c.time, c.r⟩ = true ∧ c.msg.size ≤ 200 ∧ ¬ c.tree = zeroId ∧ c.ops.length ≤ 64 ∧ (c.parents.length = 2 → c.ops.length = 0) ∧
    c.ops.any (fun x => !ownOp c.time c.r x) = false ∧ riseBy (fun (a b : OpS) => cmpSt a.tm b.tm) c.ops = true)
theorem change_f1 {c : ChangeS} (h : ((2 : Int) < ((c.parents.length : Nat) : Int) ∨ c.parents.any (fun (x : ID) => decide (zeroId = x)) = true) ∨ riseBy cmpId c.parents = false) : Value.bool false = Value.bool (changeOk c) := boolF fun hh => by
  obtain ⟨h1, h2, h3, _⟩ := hh
  rcases h with (h | h) | h
  · omega
  · rw [h] at h2; cases h2
  · rw [h] at h3; cases h3
theorem change_f2 {c : ChangeS} (h : (stRight ⟨c.time, c.r⟩ = false ∨ (200 : Int) < ((c.msg.size : Nat) : Int)) ∨ c.tree = zeroId) : Value.bool false = Value.bool (changeOk c) := boolF fun hh => by
  obtain ⟨_, _, _, h1, h2, h3, _⟩ := hh
  rcases h with (h | h) | h
  · rw [h] at h1; cases h1
  · omega
  · exact h3 h
theorem change_f3 {c : ChangeS} (h : (64 : Int) < ((c.ops.length : Nat) : Int) ∨ (((c.parents.length : Nat) : Int) = 2 ∧ (0 : Int) < ((c.ops.length : Nat) : Int))) : Value.bool false = Value.bool (changeOk c) := boolF fun hh => by
  obtain ⟨_, _, _, _, _, _, h1, h2, _⟩ := hh
  rcases h with h | h
  · omega
  · have := h2 (by omega); omega
theorem change_t {c : ChangeS} (h1 : (¬ (2 : Int) < ((c.parents.length : Nat) : Int) ∧ c.parents.any (fun (x : ID) => decide (zeroId = x)) = false) ∧ riseBy cmpId c.parents = true)
    (h2 : (stRight ⟨c.time, c.r⟩ = true ∧ ¬ (200 : Int) < ((c.msg.size : Nat) : Int)) ∧ ¬ c.tree = zeroId) (h3 : ¬ (64 : Int) < ((c.ops.length : Nat) : Int) ∧ (¬ ((c.parents.length : Nat) : Int) = 2 ∨ ¬ (0 : Int) < ((c.ops.length : Nat) : Int))) :
    Value.bool (!(c.ops.any fun x => !ownOp c.time c.r x) && riseBy (fun (a b : OpS) => cmpSt a.tm b.tm) c.ops) = Value.bool (changeOk c) := by
  refine boolE ?_
  rw [Bool.and_eq_true, Bool.not_eq_true']
  refine ⟨fun h => ⟨by omega, h1.1.2, h1.2, h2.1.1, by omega, h2.2, by omega, fun e => by omega, h.1, h.2⟩, fun h => ⟨h.2.2.2.2.2.2.2.2.1, h.2.2.2.2.2.2.2.2.2⟩⟩
/-! ### Operations as bytes -/
def opPre (o : OpS) : List UInt8 := (numB o.kind ++ atB o.tm) ++ atB o.node
def opB (o : OpS) : List UInt8 := if o.kind = 1 then opPre o ++ (atB o.par ++ textB o.name) else opPre o ++ ((idList o.data ++ numB ((o.over.length : Nat) : Int)) ++ (o.over.map atB).flatten)
def putOpB (o : OpS) : List UInt8 := if goodOp o = true then opB o else []
def overTo (b : List UInt8) (o : OpS) (k : Nat) : List UInt8 := (((((b ++ numB o.kind) ++ atB o.tm) ++ atB o.node) ++ idList o.data) ++ numB ((o.over.length : Nat) : Int)) ++ ((o.over.take k).map atB).flatten
theorem overTo_zero (b : List UInt8) (o : OpS) : ((((b ++ numB o.kind) ++ atB o.tm) ++ atB o.node) ++ idList o.data) ++ numB ((o.over.length : Nat) : Int) = overTo b o 0 := by simp [overTo]
theorem take_map_succ {α : Type} [Inhabited α] (f : α → List UInt8) {l : List α} {k : Nat} (hk : k < l.length) : ((l.take (k + 1)).map f).flatten = ((l.take k).map f).flatten ++ f (nth l k) := by
  rw [List.take_succ_eq_append_getElem hk, List.map_append, List.flatten_append, nth_eq hk]
  simp
theorem overTo_succ {b acc : List UInt8} {o : OpS} {k : Nat} (h : acc = overTo b o k) (hk : k < o.over.length) : acc ++ atB (nth o.over k) = overTo b o (k + 1) := by
  rw [h, overTo, overTo, take_map_succ atB hk, List.append_assoc]
theorem goodOp_data {o : OpS} (h : goodOp o = true) : (o.kind = 1 ∧ moveOk o = true) ∨ (o.kind = 2 ∧ editOk o = true) := (of_decide_eq_true h).2.2
theorem good_lens {o : OpS} (h : goodOp o = true) : o.over.length ≤ 64 := by
  rcases goodOp_data h with ⟨_, h⟩ | ⟨_, h⟩
  · have := of_decide_eq_true h
    have := this.2.2.2.2; omega
  · have := of_decide_eq_true h
    exact this.2.2.2.2.1
theorem good_name {o : OpS} (h : goodOp o = true) (hk : o.kind = 1) : o.name.size ≤ 60 := by
  rcases goodOp_data h with ⟨_, h⟩ | ⟨h2, h⟩
  · have := of_decide_eq_true h
    exact (of_decide_eq_true this.2.2.1).2.1
  · omega
theorem putOp_no {b : List UInt8} {o : OpS} (h : goodOp o = false) : b = b ++ putOpB o := by
  rw [putOpB, if_neg (by rw [h]; decide), List.append_nil]
theorem putOp_move {b : List UInt8} {o : OpS} (h : goodOp o = true) (hk : o.kind = 1) : ((((b ++ numB o.kind) ++ atB o.tm) ++ atB o.node) ++ atB o.par) ++ textB o.name = b ++ putOpB o := by
  rw [putOpB, if_pos h, opB, if_pos hk, opPre]
  simp only [List.append_assoc]
theorem putOp_edit {b acc : List UInt8} {o : OpS} {k : Nat} (h : goodOp o = true) (hk : ¬ o.kind = 1) (ha : acc = overTo b o k) (he : o.over.length ≤ k) : acc = b ++ putOpB o := by
  rw [putOpB, if_pos h, opB, if_neg hk, opPre, ha, overTo, List.take_of_length_le he]
  simp only [List.append_assoc]
theorem flat_len {α : Type} (f : α → List UInt8) (m : Nat) (hf : ∀ x, (f x).length ≤ m) : ∀ l : List α, ((l.map f).flatten).length ≤ m * l.length
  | [] => by simp
  | x :: l => by
    have := flat_len f m hf l
    have := hf x
    simp only [List.map_cons, List.flatten_cons, List.length_append, List.length_cons, Nat.mul_succ]
    omega
theorem putOpB_len (o : OpS) : (putOpB o).length ≤ 1400 := by
  unfold putOpB
  split
  · rename_i h
    have h1 := numB_len o.kind; have h2 := atB_len o.tm; have h3 := atB_len o.node
    unfold opB opPre
    split
    · rename_i hk
      have h4 := atB_len o.par; have h5 := textB_len o.name; have h6 := good_name h hk
      simp only [List.length_append]; omega
    · have h4 := numB_len ((o.over.length : Nat) : Int); have h5 := flat_len atB 18 atB_len o.over; have h6 := good_lens h
      simp only [List.length_append, idList_len]; omega
  · exact Nat.zero_le _
/-! ### Commits as bytes -/
def parTo (c : ChangeS) (k : Nat) : List UInt8 := ([3] ++ numB ((c.parents.length : Nat) : Int)) ++ ((c.parents.take k).map idList).flatten
def opsTo (c : ChangeS) (j : Nat) : List UInt8 := (((parTo c c.parents.length ++ numB c.time) ++ numB c.r) ++ numB ((c.ops.length : Nat) : Int)) ++ ((c.ops.take j).map putOpB).flatten
def changeB (c : ChangeS) : List UInt8 := (opsTo c c.ops.length ++ idList c.tree) ++ textB c.msg
def putChangeB (c : ChangeS) : List UInt8 := if changeOk c = true then changeB c else []
def putChangeE (c : ChangeS) : Int := if changeOk c = true then 0 else 1
theorem parTo_zero (c : ChangeS) : [3] ++ numB ((c.parents.length : Nat) : Int) = parTo c 0 := by simp [parTo]
theorem parTo_succ {acc : List UInt8} {c : ChangeS} {k : Nat} (h : acc = parTo c k) (hk : k < c.parents.length) : acc ++ idList (nth c.parents k) = parTo c (k + 1) := by
  rw [h, parTo, parTo, take_map_succ idList hk, List.append_assoc]
theorem opsTo_zero {acc : List UInt8} {c : ChangeS} {k : Nat} (h : acc = parTo c k) (hk : k = c.parents.length) : ((acc ++ numB c.time) ++ numB c.r) ++ numB ((c.ops.length : Nat) : Int) = opsTo c 0 := by
  subst hk; subst h; simp [opsTo]
theorem opsTo_succ {acc : List UInt8} {c : ChangeS} {j : Nat} (h : acc = opsTo c j) (hj : j < c.ops.length) : acc ++ putOpB (nth c.ops j) = opsTo c (j + 1) := by
  rw [h, opsTo, opsTo, take_map_succ putOpB hj, List.append_assoc]
theorem change_lens {c : ChangeS} (h : changeOk c = true) : c.parents.length ≤ 2 ∧ c.ops.length ≤ 64 ∧ c.msg.size ≤ 200 := by
  obtain ⟨h1, _, _, _, h2, _, h3, _⟩ := of_decide_eq_true h
  exact ⟨h1, h3, h2⟩
theorem putChange_f {c : ChangeS} (h : changeOk c = false) : ([] : List UInt8) = putChangeB c ∧ (1 : Int) = putChangeE c := by
  unfold putChangeB putChangeE
  rw [h]; exact ⟨rfl, rfl⟩
theorem putChange_t {c : ChangeS} {acc : List UInt8} {j : Nat} (h : changeOk c = true) (ha : acc = opsTo c j) (hj : j = c.ops.length) : (acc ++ idList c.tree) ++ textB c.msg = putChangeB c ∧ (0 : Int) = putChangeE c := by
  unfold putChangeB putChangeE
  subst hj; subst ha
  rw [h]; exact ⟨rfl, rfl⟩
end Go.Proofs.YthjdhfoeckfmbaaGreat
namespace Go.Proofs.YthjdhfoeckfmbaaGreat
open Go
set_option maxRecDepth 100000
set_option linter.unusedVariables false
set_option linter.unusedSimpArgs false
set_option linter.unusedSectionVars false
theorem rightChange_1_c97 : callable Tryz.prog 97 = true := by kernel_rfl
set_option maxHeartbeats 1000000 in
theorem rightChange_1 (o : OpS) (bc : Nat) (c : ChangeS) (w : World) (So_over : Sl (Old w) stampCh 2 o.oh o.over w) (Bc : (boxR bc 47 (changeCh c)).q w) :
    Calls Tryz.prog 96 #[(aggOf (opCh o)), (.pointer (some ⟨bc, 0, none⟩))] w (Ret fun v w' => v = (.bool (ownOp c.time c.r o)) ∧ Ext w w') := by
 refine calls_W Tryz.func96 rfl Tryz.ntmps96 rfl ?_
 have H0 := Ctx.start w nob
 have H1 := H0.addSl _ So_over (fun b hb => ⟨hb, fun _ ho => (nomatch ho)⟩)
 have LSo_over := So_over.len
 have H2 := H1.addImm' (boxI (Old w) bc (boxR_lt Bc) 47 [[(slV c.ph c.parents)], [(.int .i64 c.time)], [(.int .i64 c.r)], [(slV c.oh c.ops)], (idCells c.tree), [(.string c.msg)]]) Bc (fun b hb => ⟨hb, fun _ ho => (nomatch ho)⟩)
 refine W_seq (W_reg ?_)
 refine O_v rfl (C_box H2 [[(.int .i64 o.kind)], [(.int .i64 o.tm.T)], [(.int .i64 o.tm.R)], [(.int .i64 o.node.T)], [(.int .i64 o.node.R)], [(.int .i64 o.par.T)], [(.int .i64 o.par.R)], [(.string o.name)], (idCells o.data), [(slV o.oh o.over)]] rfl ?_)
 intro b3 w4 hb5 hx6 H7
 refine O_v rfl (R_assign (v := (.bool false)) rfl ?_)
 refine O_nil (Then_n (W_seq ?_))
 refine W_rg [(0, .q 0), (1, .q 0), (2, .q 0), (3, .q 0), (4, .q 0), (5, .q 0), (6, .q 0), (7, .q 0), (8, .q 0), (9, .q 0), (10, .q 0), (11, .q 0), (12, .q 0), (13, .q 0), (14, .q 0), (15, .q 0), (16, .q 0), (17, .q 0), (18, .q 0)] (by kernel_rfl) ?_
 refine Lx_q (i := 0) rfl rfl _ (fun v8 hv9 => R_loadA (cs := [[(.int .i64 o.kind)], [(.int .i64 o.tm.T)], [(.int .i64 o.tm.R)], [(.int .i64 o.node.T)], [(.int .i64 o.node.R)], [(.int .i64 o.par.T)], [(.int .i64 o.par.R)], [(.string o.name)], (idCells o.data), [(slV o.oh o.over)]]) Tryz.isAgg72 Tryz.sizeOf72 rfl rfl ((boxR_at ((H7.ext hv9).getOwn 0 rfl)).chunks 0 10 0 0 _ rfl rfl rfl) ⟨rfl, Gr.refl _ _⟩) ?_
 refine Lx_q (i := 1) rfl rfl (.bool (goodOp o)) (fun v10 hv11 => R_callL (vs := [(aggOf (opCh o))]) rightChange_1_c97 rfl rfl (stamp_Good o v10 ((H7.ext hv11).slOld 1 rfl))) ?_
 refine Lx_q (i := 2) rfl rfl _ (fun v12 hv13 => R_move (v := (.bool (goodOp o))) rfl ⟨rfl, Gr.refl _ _⟩) ?_
 refine Lx_qg (i := 3) true (goodOp o) rfl rfl rfl rfl rfl (goodOp o) ga_t _ (fun hA v14 hv15 => R_fieldAddr (off := 1) (oo := 1) Tryz.underlying72 rfl rfl Tryz.sizeOf69 rfl rfl ⟨rfl, Gr.refl _ _⟩) ?_
 refine Lx_qg (i := 4) true (goodOp o) rfl rfl rfl rfl rfl (goodOp o) ga_t _ (fun hA v16 hv17 => R_fieldAddr (off := 0) (oo := 1) Tryz.underlying69 rfl rfl Tryz.sizeOf2 (gv_t hA) rfl ⟨rfl, Gr.refl _ _⟩) ?_
 refine Lx_qg (i := 5) true (goodOp o) rfl rfl rfl rfl rfl (goodOp o) ga_t _ (fun hA v18 hv19 => R_load1 (v := (.int .i64 o.tm.T)) Tryz.isAgg2 (gv_t hA) ((boxR_at ((H7.ext hv19).getOwn 0 rfl)).chunks 1 1 1 1 _ rfl rfl rfl) ⟨rfl, Gr.refl _ _⟩) ?_
 refine Lx_qg (i := 6) true (goodOp o) rfl rfl rfl rfl rfl (goodOp o) ga_t _ (fun hA v20 hv21 => R_fieldAddr (off := 1) (oo := 1) Tryz.underlying47 rfl rfl Tryz.sizeOf2 rfl rfl ⟨rfl, Gr.refl _ _⟩) ?_
 refine Lx_qg (i := 7) true (goodOp o) rfl rfl rfl rfl rfl (goodOp o) ga_t _ (fun hA v22 hv23 => R_load1 (v := (.int .i64 c.time)) Tryz.isAgg2 (gv_t hA) ((boxR_at ((H7.ext hv23).getImm 0 rfl)).chunks 1 1 1 1 _ rfl rfl rfl) ⟨rfl, Gr.refl _ _⟩) ?_
 refine Lx_qg (i := 8) true (goodOp o) rfl rfl rfl rfl rfl (goodOp o) ga_t _ (fun hA v24 hv25 => R_cmp (a := o.tm.T) (b := c.time) (r := (decide (o.tm.T ≤ c.time))) (gv_t hA) (gv_t hA) rfl ⟨rfl, Gr.refl _ _⟩) ?_
 refine Lx_q (i := 9) rfl rfl _ (fun v26 hv27 => R_pick (t := (goodOp o)) (v := (.bool ((goodOp o) && (decide (o.tm.T ≤ c.time))))) rfl pk_and ⟨rfl, Gr.refl _ _⟩) ?_
 refine Lx_q (i := 10) rfl rfl _ (fun v28 hv29 => R_move (v := (.bool ((goodOp o) && (decide (o.tm.T ≤ c.time))))) rfl ⟨rfl, Gr.refl _ _⟩) ?_
 refine Lx_qg (i := 11) true ((goodOp o) && (decide (o.tm.T ≤ c.time))) rfl rfl rfl rfl rfl ((goodOp o) && (decide (o.tm.T ≤ c.time))) ga_t _ (fun hA v30 hv31 => R_fieldAddr (off := 1) (oo := 1) Tryz.underlying72 rfl rfl Tryz.sizeOf69 rfl rfl ⟨rfl, Gr.refl _ _⟩) ?_
 refine Lx_qg (i := 12) true ((goodOp o) && (decide (o.tm.T ≤ c.time))) rfl rfl rfl rfl rfl ((goodOp o) && (decide (o.tm.T ≤ c.time))) ga_t _ (fun hA v32 hv33 => R_fieldAddr (off := 1) (oo := 2) Tryz.underlying69 rfl rfl Tryz.sizeOf3 (gv_t hA) rfl ⟨rfl, Gr.refl _ _⟩) ?_
 refine Lx_qg (i := 13) true ((goodOp o) && (decide (o.tm.T ≤ c.time))) rfl rfl rfl rfl rfl ((goodOp o) && (decide (o.tm.T ≤ c.time))) ga_t _ (fun hA v34 hv35 => R_load1 (v := (.int .i64 o.tm.R)) Tryz.isAgg3 (gv_t hA) ((boxR_at ((H7.ext hv35).getOwn 0 rfl)).chunks 2 1 2 2 _ rfl rfl rfl) ⟨rfl, Gr.refl _ _⟩) ?_
 refine Lx_qg (i := 14) true ((goodOp o) && (decide (o.tm.T ≤ c.time))) rfl rfl rfl rfl rfl ((goodOp o) && (decide (o.tm.T ≤ c.time))) ga_t _ (fun hA v36 hv37 => R_fieldAddr (off := 2) (oo := 2) Tryz.underlying47 rfl rfl Tryz.sizeOf3 rfl rfl ⟨rfl, Gr.refl _ _⟩) ?_
 refine Lx_qg (i := 15) true ((goodOp o) && (decide (o.tm.T ≤ c.time))) rfl rfl rfl rfl rfl ((goodOp o) && (decide (o.tm.T ≤ c.time))) ga_t _ (fun hA v38 hv39 => R_load1 (v := (.int .i64 c.r)) Tryz.isAgg3 (gv_t hA) ((boxR_at ((H7.ext hv39).getImm 0 rfl)).chunks 2 1 2 2 _ rfl rfl rfl) ⟨rfl, Gr.refl _ _⟩) ?_
 refine Lx_qg (i := 16) true ((goodOp o) && (decide (o.tm.T ≤ c.time))) rfl rfl rfl rfl rfl ((goodOp o) && (decide (o.tm.T ≤ c.time))) ga_t _ (fun hA v40 hv41 => R_cmp (a := o.tm.R) (b := c.r) (r := (decide (o.tm.R = c.r))) (gv_t hA) (gv_t hA) rfl ⟨rfl, Gr.refl _ _⟩) ?_
 refine Lx_q (i := 17) rfl rfl _ (fun v42 hv43 => R_pick (t := ((goodOp o) && (decide (o.tm.T ≤ c.time)))) (v := (.bool (((goodOp o) && (decide (o.tm.T ≤ c.time))) && (decide (o.tm.R = c.r))))) rfl pk_and ⟨rfl, Gr.refl _ _⟩) ?_
 refine Lx_q (i := 18) rfl rfl _ (fun v44 hv45 => R_assign (v := (.bool (((goodOp o) && (decide (o.tm.T ≤ c.time))) && (decide (o.tm.R = c.r))))) rfl ⟨rfl, Gr.refl _ _⟩) ?_
 refine Lx_nil (fun w46 hw47 => ?_)
 have H48 := H7.ext hw47
 refine Then_n (W_ret ?_)
 refine ret_1 (v := (.bool (((goodOp o) && (decide (o.tm.T ≤ c.time))) && (decide (o.tm.R = c.r))))) Tryz.results96 rfl ?_
 exact ⟨own_eq, H48.gr⟩

end Go.Proofs.YthjdhfoeckfmbaaGreat
namespace Go.Proofs.YthjdhfoeckfmbaaGreat
open Go
set_option maxRecDepth 100000
set_option linter.unusedVariables false
set_option linter.unusedSimpArgs false
set_option linter.unusedSectionVars false
theorem rightChange_2_c96 : callable Tryz.prog 96 = true := by kernel_rfl
set_option maxHeartbeats 1000000 in
theorem rightChange_2 (o : OpS) (bf : Nat) (bc : Nat) (c : ChangeS) (w : World) (So_over : Sl (Old w) stampCh 2 o.oh o.over w) (Bc : (boxR bc 47 (changeCh c)).q w) (Bf : (boxR bf 99 [[.func (.func 96) #[] #[(.pointer (some ⟨bc, 0, none⟩))]]]).q w) :
    Calls Tryz.prog 102 #[(aggOf (opCh o)), (.pointer (some ⟨bf, 0, none⟩))] w (Ret fun v w' => v = (.bool (!(ownOp c.time c.r o))) ∧ Ext w w') := by
 refine calls_W Tryz.func102 rfl Tryz.ntmps102 rfl ?_
 have H0 := Ctx.start w nob
 have H1 := H0.addSl _ So_over (fun b hb => ⟨hb, fun _ ho => (nomatch ho)⟩)
 have LSo_over := So_over.len
 have H2 := H1.addImm' (boxI (Old w) bc (boxR_lt Bc) 47 [[(slV c.ph c.parents)], [(.int .i64 c.time)], [(.int .i64 c.r)], [(slV c.oh c.ops)], (idCells c.tree), [(.string c.msg)]]) Bc (fun b hb => ⟨hb, fun _ ho => (nomatch ho)⟩)
 have H3 := H2.addImm' (boxI (Old w) bf (boxR_lt Bf) 99 [[(.func (.func 96) #[] #[(.pointer (some ⟨bc, 0, none⟩))])]]) Bf (fun b hb => ⟨hb, fun _ ho => (nomatch ho)⟩)
 refine W_seq (W_reg ?_)
 refine O_v rfl (C_box H3 [[(.int .i64 o.kind)], [(.int .i64 o.tm.T)], [(.int .i64 o.tm.R)], [(.int .i64 o.node.T)], [(.int .i64 o.node.R)], [(.int .i64 o.par.T)], [(.int .i64 o.par.R)], [(.string o.name)], (idCells o.data), [(slV o.oh o.over)]] rfl ?_)
 intro b4 w5 hb6 hx7 H8
 refine O_v rfl (R_assign (v := (.bool false)) rfl ?_)
 refine O_nil (Then_n (W_seq (W_reg ?_)))
 refine O_v rfl (R_load1 (v := (.func (.func 96) #[] #[(.pointer (some ⟨bc, 0, none⟩))])) Tryz.isAgg99 rfl ((boxR_at (H8.getImm 0 rfl)).chunks 0 1 0 0 _ rfl rfl rfl) ?_)
 refine O_v rfl (R_loadA (cs := [[(.int .i64 o.kind)], [(.int .i64 o.tm.T)], [(.int .i64 o.tm.R)], [(.int .i64 o.node.T)], [(.int .i64 o.node.R)], [(.int .i64 o.par.T)], [(.int .i64 o.par.R)], [(.string o.name)], (idCells o.data), [(slV o.oh o.over)]]) Tryz.isAgg72 Tryz.sizeOf72 rfl rfl ((boxR_at (H8.getOwn 0 rfl)).chunks 0 10 0 0 _ rfl rfl rfl) ?_)
 refine O_v rfl (R_callV (vs := [(aggOf (opCh o))]) rightChange_2_c96 rfl rfl ((callsCat (rightChange_1 o bc c w5 (H8.slOld 2 rfl) (H8.getImm 1 rfl))).ret ?_))
 rintro _ w9 ⟨rfl, hx10⟩
 have H11 := H8.ext hx10
 refine O_v rfl (R_not rfl ?_)
 refine O_v rfl (R_assign (v := (.bool (!(ownOp c.time c.r o)))) rfl ?_)
 refine O_nil (Then_n (W_ret ?_))
 refine ret_1 (v := (.bool (!(ownOp c.time c.r o)))) Tryz.results102 rfl ?_
 exact ⟨rfl, H11.gr⟩

end Go.Proofs.YthjdhfoeckfmbaaGreat
namespace Go.Proofs.YthjdhfoeckfmbaaGreat
open Go
set_option maxRecDepth 100000
set_option linter.unusedVariables false
set_option linter.unusedSimpArgs false
set_option linter.unusedSectionVars false
variable [DD]
theorem rightChange_3_c84 : callable Tryz.prog 84 = true := by kernel_rfl
set_option maxHeartbeats 1000000 in
theorem rightChange_3 (a : OpS) (b : OpS) (w : World) (Sa_over : Sl (Old w) stampCh 2 a.oh a.over w) (Sb_over : Sl (Old w) stampCh 2 b.oh b.over w) :
    Calls Tryz.prog 104 #[(aggOf (opCh a)), (aggOf (opCh b))] w (Ret fun v w' => v = (.int .i64 (cmpSt a.tm b.tm)) ∧ Ext w w') := by
 refine calls_W Tryz.func104 rfl Tryz.ntmps104 rfl ?_
 have H0 := Ctx.start w nob
 have H1 := H0.addSl _ Sa_over (fun b hb => ⟨hb, fun _ ho => (nomatch ho)⟩)
 have LSa_over := Sa_over.len
 have H2 := H1.addSl _ Sb_over (fun b hb => ⟨hb, fun _ ho => (nomatch ho)⟩)
 have LSb_over := Sb_over.len
 refine W_seq (W_reg ?_)
 refine O_v rfl (C_box H2 [[(.int .i64 a.kind)], [(.int .i64 a.tm.T)], [(.int .i64 a.tm.R)], [(.int .i64 a.node.T)], [(.int .i64 a.node.R)], [(.int .i64 a.par.T)], [(.int .i64 a.par.R)], [(.string a.name)], (idCells a.data), [(slV a.oh a.over)]] rfl ?_)
 intro b3 w4 hb5 hx6 H7
 refine O_v rfl (C_box H7 [[(.int .i64 b.kind)], [(.int .i64 b.tm.T)], [(.int .i64 b.tm.R)], [(.int .i64 b.node.T)], [(.int .i64 b.node.R)], [(.int .i64 b.par.T)], [(.int .i64 b.par.R)], [(.string b.name)], (idCells b.data), [(slV b.oh b.over)]] rfl ?_)
 intro b8 w9 hb10 hx11 H12
 refine O_v rfl (R_assign (v := (.int .i64 0)) rfl ?_)
 refine O_nil (Then_n (W_seq (W_reg ?_)))
 refine O_v rfl (R_fieldAddr (off := 1) (oo := 1) Tryz.underlying72 rfl rfl Tryz.sizeOf69 rfl rfl ?_)
 refine O_v rfl (R_loadA (cs := [[(.int .i64 a.tm.T)], [(.int .i64 a.tm.R)]]) Tryz.isAgg69 Tryz.sizeOf69 rfl rfl ((boxR_at (H12.getOwn 1 rfl)).chunks 1 2 1 1 _ rfl rfl rfl) ?_)
 refine O_v rfl (R_fieldAddr (off := 1) (oo := 1) Tryz.underlying72 rfl rfl Tryz.sizeOf69 rfl rfl ?_)
 refine O_v rfl (R_loadA (cs := [[(.int .i64 b.tm.T)], [(.int .i64 b.tm.R)]]) Tryz.isAgg69 Tryz.sizeOf69 rfl rfl ((boxR_at (H12.getOwn 0 rfl)).chunks 1 2 1 1 _ rfl rfl rfl) ?_)
 refine O_v rfl (R_callL (vs := [(aggOf (stampCh a.tm)), (aggOf (stampCh b.tm))]) rightChange_3_c84 rfl rfl ((stamp_Cmp a.tm b.tm w9 ).ret ?_))
 rintro _ w13 ⟨rfl, hx14⟩
 have H15 := H12.ext hx14
 refine O_v rfl (R_assign (v := (.int .i64 (cmpSt a.tm b.tm))) rfl ?_)
 refine O_nil (Then_n (W_ret ?_))
 refine ret_1 (v := (.int .i64 (cmpSt a.tm b.tm))) Tryz.results104 rfl ?_
 exact ⟨rfl, H15.gr⟩

end Go.Proofs.YthjdhfoeckfmbaaGreat
namespace Go.Proofs.YthjdhfoeckfmbaaGreat
open Go
set_option maxRecDepth 100000
set_option linter.unusedVariables false
set_option linter.unusedSimpArgs false
set_option linter.unusedSectionVars false
variable [DD]
set_option maxHeartbeats 1000000 in
theorem rise_ID (ha : SlH) (a : List ID) (kcmp : FuncId) (ccmp : Array Value) (f : ID → ID → Int) (w : World) (Sa : Sl (Old w) idCh 32 ha a w) (Kcmp : callable Tryz.prog kcmp = true) (Ccmp : ∀ x ∈ a, ∀ y ∈ a, ∀ w1, Ext w w1 → Calls Tryz.prog kcmp (#[idV x, idV y] ++ ccmp) w1 (Ret fun v w2 => v = .int .i64 (f x y) ∧ Ext w1 w2)) :
    Calls Tryz.prog 99 #[(slV ha a), (.func (.func kcmp) #[] ccmp)] w (Ret fun v w' => v = (.bool (riseBy f a)) ∧ Ext w w') := by
 refine calls_W Tryz.func99 rfl Tryz.ntmps99 rfl ?_
 have H0 := Ctx.start w nob
 have H1 := H0.addSl _ Sa (fun b hb => ⟨hb, fun _ ho => (nomatch ho)⟩)
 have LSa := Sa.len
 refine W_seq (W_reg ?_)
 refine O_v rfl (R_assign (v := (.bool false)) rfl ?_)
 refine O_nil (Then_n (W_seq (W_seq (W_reg ?_))))
 refine O_v rfl (R_assign (v := (.int .i64 1)) rfl ?_)
 refine O_nil (Then_n (W_block ?_))
 refine W_loop (fun m2 e3 w4 => ∃ (k : Nat), m2 = a.length - k ∧ (1 ≤ k) ∧ (k ≤ max a.length 1) ∧ (∀ i, i < k → 1 ≤ i → f (nth a (i - 1)) (nth a i) < 0) ∧ ∃ eb5, e3 = envL [(0, (slV ha a)), (1, (.func (.func kcmp) #[] ccmp)), (5, (.int .i64 ((k : Nat) : Int)))] eb5 ∧ Ctx w nob w4 [] [slI (Old w) idCh 32 ha a]) _ ⟨1, rfl, (by omega), (by omega), (fun i h1 h2 => by omega), _, envL_self ⟨rfl, rfl, rfl, trivial⟩, H1⟩ ?_
 rintro m2 _ w4 ⟨k, rfl, h1, hk, hn, eb5, rfl, H6⟩
 refine W_seq (W_seq (W_reg ?_))
 refine O_v rfl (R_move (v := (.int .i64 ((k : Nat) : Int))) rfl ?_)
 refine O_v rfl (R_move (v := (slV ha a)) rfl ?_)
 refine O_v rfl (R_len_slice (a := ha.a) (n := a.length) (c := ha.c) Tryz.underlying39 rfl ?_)
 refine O_v rfl (R_cmp (a := ((k : Nat) : Int)) (b := ((a.length : Nat) : Int)) (r := (decide (((k : Nat) : Int) < ((a.length : Nat) : Int)))) rfl rfl rfl ?_)
 refine O_nil (Then_n ?_)
 refine W_cond (t := (decide (((k : Nat) : Int) < ((a.length : Nat) : Int)))) rfl (fun hc7 => ?_) (fun hc7 => ?_)
 ·have hc7 : (((k : Nat) : Int) < ((a.length : Nat) : Int)) := (of_decide_eq_true hc7)
  refine W_skip (Then_n (W_seq (W_block (W_seq ?_))))
  refine W_rgd TryzMixed [(0, .q 0), (1, .q 0), (2, .q 0), (3, .q 0), (4, .q 0), (5, .q 0), (6, .q 0), (7, .q 0), (8, .q 0), (9, .q 0), (10, .q 0), (11, .q 0)] (by kernel_rfl) ?_
  refine Lx_q (i := 0) rfl rfl _ (fun v8 hv9 => R_move (v := (.func (.func kcmp) #[] ccmp)) rfl ⟨rfl, Gr.refl _ _⟩) ?_
  refine Lx_q (i := 1) rfl rfl _ (fun v10 hv11 => R_move (v := (slV ha a)) rfl ⟨rfl, Gr.refl _ _⟩) ?_
  refine Lx_q (i := 2) rfl rfl _ (fun v12 hv13 => R_move (v := (.int .i64 ((k : Nat) : Int))) rfl ⟨rfl, Gr.refl _ _⟩) ?_
  refine Lx_q (i := 3) rfl rfl _ (fun v14 hv15 => R_arith (a := ((k : Nat) : Int)) (b := 1) (r0 := ((k : Nat) : Int) - 1) (r := ((k - 1 : Nat) : Int)) rfl rfl rfl (wrapP _ (by omega) (by omega)) ⟨rfl, Gr.refl _ _⟩) ?_
  refine Lx_q (i := 4) rfl rfl _ (fun v16 hv17 => R_index_pure (H6.sl 0 rfl) (n := a.length) rfl (j := ((k - 1 : Nat) : Int)) (oo := (ha.o + (k - 1) * 32)) Tryz.underlying39 Tryz.sizeOf45 rfl rfl (by omega) (by omega) rfl ⟨rfl, Gr.refl _ _⟩) ?_
  refine Lx_q (i := 5) rfl rfl _ (fun v18 hv19 => R_loadA (cs := [(idCells (nth a (k - 1)))]) Tryz.isAgg45 Tryz.sizeOf45 rfl rfl ((Sl.elem ((H6.ext hv19).sl 0 rfl) (i := (k - 1)) (by omega) rfl).chunks 0 1 0 (ha.o + (k - 1) * 32) _ rfl rfl rfl) ⟨rfl, Gr.refl _ _⟩) ?_
  refine Lx_q (i := 6) rfl rfl _ (fun v20 hv21 => R_move (v := (slV ha a)) rfl ⟨rfl, Gr.refl _ _⟩) ?_
  refine Lx_q (i := 7) rfl rfl _ (fun v22 hv23 => R_move (v := (.int .i64 ((k : Nat) : Int))) rfl ⟨rfl, Gr.refl _ _⟩) ?_
  refine Lx_q (i := 8) rfl rfl _ (fun v24 hv25 => R_index_pure (H6.sl 0 rfl) (n := a.length) rfl (j := ((k : Nat) : Int)) (oo := (ha.o + k * 32)) Tryz.underlying39 Tryz.sizeOf45 rfl rfl (by omega) (by omega) rfl ⟨rfl, Gr.refl _ _⟩) ?_
  refine Lx_q (i := 9) rfl rfl _ (fun v26 hv27 => R_loadA (cs := [(idCells (nth a k))]) Tryz.isAgg45 Tryz.sizeOf45 rfl rfl ((Sl.elem ((H6.ext hv27).sl 0 rfl) (i := k) (by omega) rfl).chunks 0 1 0 (ha.o + k * 32) _ rfl rfl rfl) ⟨rfl, Gr.refl _ _⟩) ?_
  refine Lx_q (i := 10) rfl rfl (.int .i64 (f (nth a (k - 1)) (nth a k))) (fun v28 hv29 => R_callV (vs := [(aggOf (idCh (nth a (k - 1)))), (aggOf (idCh (nth a k)))]) Kcmp rfl rfl (Ccmp _ (nth_mem (by omega)) _ (nth_mem (by omega)) v28 (H6.ext hv29).gr)) ?_
  refine Lx_q (i := 11) rfl rfl _ (fun v30 hv31 => R_cmp (a := f (nth a (k - 1)) (nth a k)) (b := 0) (r := (decide (0 ≤ f (nth a (k - 1)) (nth a k)))) rfl rfl rfl ⟨rfl, Gr.refl _ _⟩) ?_
  refine Lx_nil (fun w32 hw33 => ?_)
  have H34 := H6.ext hw33
  refine Then_n ?_
  refine W_cond (t := (decide (0 ≤ f (nth a (k - 1)) (nth a k)))) rfl (fun hc35 => ?_) (fun hc35 => ?_)
  ·have hc35 : (0 ≤ f (nth a (k - 1)) (nth a k)) := (of_decide_eq_true hc35)
   refine W_seq (W_reg ?_)
   refine O_v rfl (R_assign (v := (.bool false)) rfl ?_)
   refine O_nil (Then_n (W_ret (Blk_r (Then_r (Then_r (Blk_r (Then_r ?_)))))))
   refine ret_1 (v := (.bool false)) Tryz.results99 rfl ?_
   exact ⟨(boolF (fun h => by have := h k (by omega) (by omega); omega)), H34.gr⟩
  ·have hc35 : ¬ (0 ≤ f (nth a (k - 1)) (nth a k)) := (of_decide_eq_false hc35)
   refine W_skip (Blk_n (Then_n (W_reg ?_)))
   refine O_v rfl (R_move (v := (.int .i64 ((k : Nat) : Int))) rfl ?_)
   refine O_v rfl (R_arith (a := ((k : Nat) : Int)) (b := 1) (r0 := ((k : Nat) : Int) + 1) (r := ((k + 1 : Nat) : Int)) rfl rfl rfl (wrapN _ (by omega)) ?_)
   refine O_v rfl (R_assign (v := (.int .i64 ((k + 1 : Nat) : Int))) rfl ?_)
   refine O_nil (Then_n ?_)
   refine ⟨_, ?_, (k + 1), rfl, (by omega), (by omega), (rise_succ hn (by omega)), _, envL_self ⟨rfl, rfl, rfl, trivial⟩, H34⟩
   omega
 ·have hc7 : ¬ (((k : Nat) : Int) < ((a.length : Nat) : Int)) := (of_decide_eq_false hc7)
  refine W_exit (Then_x (Then_x (Blk_x (Then_n (W_seq (W_reg ?_))))))
  refine O_v rfl (R_assign (v := (.bool true)) rfl ?_)
  refine O_nil (Then_n (W_ret ?_))
  refine ret_1 (v := (.bool true)) Tryz.results99 rfl ?_
  exact ⟨(boolT (fun i h1 h2 => hn i (by omega) h2)), H6.gr⟩

end Go.Proofs.YthjdhfoeckfmbaaGreat
namespace Go.Proofs.YthjdhfoeckfmbaaGreat
open Go
set_option maxRecDepth 100000
set_option linter.unusedVariables false
set_option linter.unusedSimpArgs false
set_option linter.unusedSectionVars false
variable [DD]
set_option maxHeartbeats 1000000 in
theorem rise_Op (ha : SlH) (a : List OpS) (kcmp : FuncId) (ccmp : Array Value) (f : OpS → OpS → Int) (w : World) (Sa : Sl (Old w) opCh 41 ha a w) (Kcmp : callable Tryz.prog kcmp = true) (Ccmp : ∀ x ∈ a, ∀ y ∈ a, ∀ w1, Ext w w1 → Calls Tryz.prog kcmp (#[opV x, opV y] ++ ccmp) w1 (Ret fun v w2 => v = .int .i64 (f x y) ∧ Ext w1 w2)) :
    Calls Tryz.prog 103 #[(slV ha a), (.func (.func kcmp) #[] ccmp)] w (Ret fun v w' => v = (.bool (riseBy f a)) ∧ Ext w w') := by
 refine calls_W Tryz.func103 rfl Tryz.ntmps103 rfl ?_
 have H0 := Ctx.start w nob
 have H1 := H0.addSl _ Sa (fun b hb => ⟨hb, fun _ ho => (nomatch ho)⟩)
 have LSa := Sa.len
 refine W_seq (W_reg ?_)
 refine O_v rfl (R_assign (v := (.bool false)) rfl ?_)
 refine O_nil (Then_n (W_seq (W_seq (W_reg ?_))))
 refine O_v rfl (R_assign (v := (.int .i64 1)) rfl ?_)
 refine O_nil (Then_n (W_block ?_))
 refine W_loop (fun m2 e3 w4 => ∃ (k : Nat), m2 = a.length - k ∧ (1 ≤ k) ∧ (k ≤ max a.length 1) ∧ (∀ i, i < k → 1 ≤ i → f (nth a (i - 1)) (nth a i) < 0) ∧ ∃ eb5, e3 = envL [(0, (slV ha a)), (1, (.func (.func kcmp) #[] ccmp)), (5, (.int .i64 ((k : Nat) : Int)))] eb5 ∧ Ctx w nob w4 [] [slI (Old w) opCh 41 ha a]) _ ⟨1, rfl, (by omega), (by omega), (fun i h1 h2 => by omega), _, envL_self ⟨rfl, rfl, rfl, trivial⟩, H1⟩ ?_
 rintro m2 _ w4 ⟨k, rfl, h1, hk, hn, eb5, rfl, H6⟩
 refine W_seq (W_seq (W_reg ?_))
 refine O_v rfl (R_move (v := (.int .i64 ((k : Nat) : Int))) rfl ?_)
 refine O_v rfl (R_move (v := (slV ha a)) rfl ?_)
 refine O_v rfl (R_len_slice (a := ha.a) (n := a.length) (c := ha.c) Tryz.underlying43 rfl ?_)
 refine O_v rfl (R_cmp (a := ((k : Nat) : Int)) (b := ((a.length : Nat) : Int)) (r := (decide (((k : Nat) : Int) < ((a.length : Nat) : Int)))) rfl rfl rfl ?_)
 refine O_nil (Then_n ?_)
 refine W_cond (t := (decide (((k : Nat) : Int) < ((a.length : Nat) : Int)))) rfl (fun hc7 => ?_) (fun hc7 => ?_)
 ·have hc7 : (((k : Nat) : Int) < ((a.length : Nat) : Int)) := (of_decide_eq_true hc7)
  refine W_skip (Then_n (W_seq (W_block (W_seq ?_))))
  refine W_rgd TryzMixed [(0, .q 0), (1, .q 0), (2, .q 0), (3, .q 0), (4, .q 0), (5, .q 0), (6, .q 0), (7, .q 0), (8, .q 0), (9, .q 0), (10, .q 0), (11, .q 0)] (by kernel_rfl) ?_
  refine Lx_q (i := 0) rfl rfl _ (fun v8 hv9 => R_move (v := (.func (.func kcmp) #[] ccmp)) rfl ⟨rfl, Gr.refl _ _⟩) ?_
  refine Lx_q (i := 1) rfl rfl _ (fun v10 hv11 => R_move (v := (slV ha a)) rfl ⟨rfl, Gr.refl _ _⟩) ?_
  refine Lx_q (i := 2) rfl rfl _ (fun v12 hv13 => R_move (v := (.int .i64 ((k : Nat) : Int))) rfl ⟨rfl, Gr.refl _ _⟩) ?_
  refine Lx_q (i := 3) rfl rfl _ (fun v14 hv15 => R_arith (a := ((k : Nat) : Int)) (b := 1) (r0 := ((k : Nat) : Int) - 1) (r := ((k - 1 : Nat) : Int)) rfl rfl rfl (wrapP _ (by omega) (by omega)) ⟨rfl, Gr.refl _ _⟩) ?_
  refine Lx_q (i := 4) rfl rfl _ (fun v16 hv17 => R_index_pure (H6.sl 0 rfl) (n := a.length) rfl (j := ((k - 1 : Nat) : Int)) (oo := (ha.o + (k - 1) * 41)) Tryz.underlying43 Tryz.sizeOf72 rfl rfl (by omega) (by omega) rfl ⟨rfl, Gr.refl _ _⟩) ?_
  refine Lx_q (i := 5) rfl rfl _ (fun v18 hv19 => R_loadA (cs := [[(.int .i64 ((nth a (k - 1)).kind))], [(.int .i64 (((nth a (k - 1)).tm).T))], [(.int .i64 (((nth a (k - 1)).tm).R))], [(.int .i64 (((nth a (k - 1)).node).T))], [(.int .i64 (((nth a (k - 1)).node).R))], [(.int .i64 (((nth a (k - 1)).par).T))], [(.int .i64 (((nth a (k - 1)).par).R))], [(.string ((nth a (k - 1)).name))], (idCells ((nth a (k - 1)).data)), [(slV ((nth a (k - 1)).oh) ((nth a (k - 1)).over))]]) Tryz.isAgg72 Tryz.sizeOf72 rfl rfl ((Sl.elem ((H6.ext hv19).sl 0 rfl) (i := (k - 1)) (by omega) rfl).chunks 0 10 0 (ha.o + (k - 1) * 41) _ rfl rfl rfl) ⟨rfl, Gr.refl _ _⟩) ?_
  refine Lx_q (i := 6) rfl rfl _ (fun v20 hv21 => R_move (v := (slV ha a)) rfl ⟨rfl, Gr.refl _ _⟩) ?_
  refine Lx_q (i := 7) rfl rfl _ (fun v22 hv23 => R_move (v := (.int .i64 ((k : Nat) : Int))) rfl ⟨rfl, Gr.refl _ _⟩) ?_
  refine Lx_q (i := 8) rfl rfl _ (fun v24 hv25 => R_index_pure (H6.sl 0 rfl) (n := a.length) rfl (j := ((k : Nat) : Int)) (oo := (ha.o + k * 41)) Tryz.underlying43 Tryz.sizeOf72 rfl rfl (by omega) (by omega) rfl ⟨rfl, Gr.refl _ _⟩) ?_
  refine Lx_q (i := 9) rfl rfl _ (fun v26 hv27 => R_loadA (cs := [[(.int .i64 ((nth a k).kind))], [(.int .i64 (((nth a k).tm).T))], [(.int .i64 (((nth a k).tm).R))], [(.int .i64 (((nth a k).node).T))], [(.int .i64 (((nth a k).node).R))], [(.int .i64 (((nth a k).par).T))], [(.int .i64 (((nth a k).par).R))], [(.string ((nth a k).name))], (idCells ((nth a k).data)), [(slV ((nth a k).oh) ((nth a k).over))]]) Tryz.isAgg72 Tryz.sizeOf72 rfl rfl ((Sl.elem ((H6.ext hv27).sl 0 rfl) (i := k) (by omega) rfl).chunks 0 10 0 (ha.o + k * 41) _ rfl rfl rfl) ⟨rfl, Gr.refl _ _⟩) ?_
  refine Lx_q (i := 10) rfl rfl (.int .i64 (f (nth a (k - 1)) (nth a k))) (fun v28 hv29 => R_callV (vs := [(aggOf (opCh (nth a (k - 1)))), (aggOf (opCh (nth a k)))]) Kcmp rfl rfl (Ccmp _ (nth_mem (by omega)) _ (nth_mem (by omega)) v28 (H6.ext hv29).gr)) ?_
  refine Lx_q (i := 11) rfl rfl _ (fun v30 hv31 => R_cmp (a := f (nth a (k - 1)) (nth a k)) (b := 0) (r := (decide (0 ≤ f (nth a (k - 1)) (nth a k)))) rfl rfl rfl ⟨rfl, Gr.refl _ _⟩) ?_
  refine Lx_nil (fun w32 hw33 => ?_)
  have H34 := H6.ext hw33
  refine Then_n ?_
  refine W_cond (t := (decide (0 ≤ f (nth a (k - 1)) (nth a k)))) rfl (fun hc35 => ?_) (fun hc35 => ?_)
  ·have hc35 : (0 ≤ f (nth a (k - 1)) (nth a k)) := (of_decide_eq_true hc35)
   refine W_seq (W_reg ?_)
   refine O_v rfl (R_assign (v := (.bool false)) rfl ?_)
   refine O_nil (Then_n (W_ret (Blk_r (Then_r (Then_r (Blk_r (Then_r ?_)))))))
   refine ret_1 (v := (.bool false)) Tryz.results103 rfl ?_
   exact ⟨(boolF (fun h => by have := h k (by omega) (by omega); omega)), H34.gr⟩
  ·have hc35 : ¬ (0 ≤ f (nth a (k - 1)) (nth a k)) := (of_decide_eq_false hc35)
   refine W_skip (Blk_n (Then_n (W_reg ?_)))
   refine O_v rfl (R_move (v := (.int .i64 ((k : Nat) : Int))) rfl ?_)
   refine O_v rfl (R_arith (a := ((k : Nat) : Int)) (b := 1) (r0 := ((k : Nat) : Int) + 1) (r := ((k + 1 : Nat) : Int)) rfl rfl rfl (wrapN _ (by omega)) ?_)
   refine O_v rfl (R_assign (v := (.int .i64 ((k + 1 : Nat) : Int))) rfl ?_)
   refine O_nil (Then_n ?_)
   refine ⟨_, ?_, (k + 1), rfl, (by omega), (by omega), (rise_succ hn (by omega)), _, envL_self ⟨rfl, rfl, rfl, trivial⟩, H34⟩
   omega
 ·have hc7 : ¬ (((k : Nat) : Int) < ((a.length : Nat) : Int)) := (of_decide_eq_false hc7)
  refine W_exit (Then_x (Then_x (Blk_x (Then_n (W_seq (W_reg ?_))))))
  refine O_v rfl (R_assign (v := (.bool true)) rfl ?_)
  refine O_nil (Then_n (W_ret ?_))
  refine ret_1 (v := (.bool true)) Tryz.results103 rfl ?_
  exact ⟨(boolT (fun i h1 h2 => hn i (by omega) h2)), H6.gr⟩

end Go.Proofs.YthjdhfoeckfmbaaGreat
namespace Go.Proofs.YthjdhfoeckfmbaaGreat
open Go
set_option maxRecDepth 100000
set_option linter.unusedVariables false
set_option linter.unusedSimpArgs false
set_option linter.unusedSectionVars false
variable [DD]
set_option maxHeartbeats 1000000 in
theorem bytes_Compare (ha : SlH) (a : List UInt8) (hb : SlH) (b : List UInt8) (w : World) (Sa : Sl (Old w) encB 1 ha a w) (Sb : Sl (Old w) encB 1 hb b w) :
    Calls Tryz.prog 94 #[(slV ha a), (slV hb b)] w (Ret fun v w' => v = (.int .i64 (Lib.compareBytes a b)) ∧ Ext w w') := by
 refine calls_W Tryz.func94 rfl Tryz.ntmps94 rfl ?_
 have H0 := Ctx.start w nob
 have H1 := H0.addSl _ Sa (fun b hb => ⟨hb, fun _ ho => (nomatch ho)⟩)
 have LSa := Sa.len
 have H2 := H1.addSl _ Sb (fun b hb => ⟨hb, fun _ ho => (nomatch ho)⟩)
 have LSb := Sb.len
 refine W_seq (W_reg ?_)
 refine O_v rfl (R_assign (v := (.int .i64 0)) rfl ?_)
 refine O_nil (Then_n (W_seq (W_reg ?_)))
 refine O_v rfl (R_move (v := (slV ha a)) rfl ?_)
 refine O_v rfl (R_move (v := (slV hb b)) rfl ?_)
 refine O_v rfl (R_compare (l := a) (l2 := b) Tryz.func127 (by kernel_rfl) (by kernel_rfl) (by kernel_rfl) (by kernel_rfl) rfl rfl (H2.sl 1 rfl) (H2.sl 0 rfl) ?_)
 refine O_v rfl (R_assign (v := (.int .i64 (Lib.compareBytes a b))) rfl ?_)
 refine O_nil (Then_n (W_ret ?_))
 refine ret_1 (v := (.int .i64 (Lib.compareBytes a b))) Tryz.results94 rfl ?_
 exact ⟨rfl, H2.gr⟩

end Go.Proofs.YthjdhfoeckfmbaaGreat
namespace Go.Proofs.YthjdhfoeckfmbaaGreat
open Go
set_option maxRecDepth 100000
set_option linter.unusedVariables false
set_option linter.unusedSimpArgs false
set_option linter.unusedSectionVars false
variable [DD]
theorem sha_Cmp_c94 : callable Tryz.prog 94 = true := by kernel_rfl
set_option maxHeartbeats 1000000 in
theorem sha_Cmp (a : ID) (b : ID) (w : World) :
    Calls Tryz.prog 55 #[(aggOf (idCh a)), (aggOf (idCh b))] w (Ret fun v w' => v = (.int .i64 (cmpId a b)) ∧ Ext w w') := by
 refine calls_W Tryz.func55 rfl Tryz.ntmps55 rfl ?_
 have H0 := Ctx.start w nob
 refine W_seq (W_reg ?_)
 refine O_v rfl (C_box H0 [(idCells a)] rfl ?_)
 intro b1 w2 hb3 hx4 H5
 refine O_v rfl (C_box H5 [(idCells b)] rfl ?_)
 intro b6 w7 hb8 hx9 H10
 refine O_v rfl (R_assign (v := (.int .i64 0)) rfl ?_)
 refine O_nil (Then_n (W_seq ?_))
 refine W_rgd TryzMixed [(0, .q 0), (1, .q 0), (2, .q 0), (3, .q 0)] (by kernel_rfl) ?_
 refine Lx_q (i := 0) rfl rfl _ (fun v11 hv12 => R_slice_arr Tryz.underlying45 Tryz.sizeOf5 rfl (by decide) ⟨rfl, Gr.refl _ _⟩) ?_
 refine Lx_q (i := 1) rfl rfl _ (fun v13 hv14 => R_slice_arr Tryz.underlying45 Tryz.sizeOf5 rfl (by decide) ⟨rfl, Gr.refl _ _⟩) ?_
 refine Lx_q (i := 2) rfl rfl (.int .i64 (Lib.compareBytes (idList a) (idList b))) (fun v15 hv16 => R_callL (vs := [(slV ⟨some ⟨b1, 0, none⟩, b1, 0, 32⟩ (idList a)), (slV ⟨some ⟨b6, 0, none⟩, b6, 0, 32⟩ (idList b))]) sha_Cmp_c94 rfl rfl (bytes_Compare ⟨some ⟨b1, 0, none⟩, b1, 0, 32⟩ (idList a) ⟨some ⟨b6, 0, none⟩, b6, 0, 32⟩ (idList b) v15 ((H10.ext hv16).boxOld 1 rfl) ((H10.ext hv16).boxOld 0 rfl))) ?_
 refine Lx_q (i := 3) rfl rfl _ (fun v17 hv18 => R_assign (v := (.int .i64 (Lib.compareBytes (idList a) (idList b)))) rfl ⟨rfl, Gr.refl _ _⟩) ?_
 refine Lx_nil (fun w19 hw20 => ?_)
 have H21 := H10.ext hw20
 refine Then_n (W_ret ?_)
 refine ret_1 (v := (.int .i64 (Lib.compareBytes (idList a) (idList b)))) Tryz.results55 rfl ?_
 exact ⟨rfl, H21.gr⟩

end Go.Proofs.YthjdhfoeckfmbaaGreat
namespace Go.Proofs.YthjdhfoeckfmbaaGreat
open Go
set_option maxRecDepth 100000
set_option linter.unusedVariables false
set_option linter.unusedSimpArgs false
set_option linter.unusedSectionVars false
theorem obj_rightChange_c55 : callable Tryz.prog 55 = true := by kernel_rfl
theorem obj_rightChange_c98 : callable Tryz.prog 98 = true := by kernel_rfl
theorem obj_rightChange_c99 : callable Tryz.prog 99 = true := by kernel_rfl
theorem obj_rightChange_c100 : callable Tryz.prog 100 = true := by kernel_rfl
theorem obj_rightChange_c101 : callable Tryz.prog 101 = true := by kernel_rfl
theorem obj_rightChange_c102 : callable Tryz.prog 102 = true := by kernel_rfl
theorem obj_rightChange_c103 : callable Tryz.prog 103 = true := by kernel_rfl
theorem obj_rightChange_c104 : callable Tryz.prog 104 = true := by kernel_rfl
set_option maxHeartbeats 2000000 in
theorem obj_rightChange (c : ChangeS) (w : World) (Sc_parents : Sl (Old w) idCh 32 c.ph c.parents w) (Sc_ops : Sl (Old w) opCh 41 c.oh c.ops w) (Dc_over : ∀ x ∈ c.ops, Sl (Old w) stampCh 2 x.oh x.over w) :
    Calls Tryz.prog 58 #[(aggOf (changeCh c))] w (Ret fun v w' => v = (.bool (changeOk c)) ∧ Ext w w') := by
 refine calls_W Tryz.func58 rfl Tryz.ntmps58 rfl ?_
 have H0 := Ctx.start w nob
 have H1 := H0.addSl _ Sc_parents (fun b hb => ⟨hb, fun _ ho => (nomatch ho)⟩)
 have LSc_parents := Sc_parents.len
 have H2 := H1.addSl _ Sc_ops (fun b hb => ⟨hb, fun _ ho => (nomatch ho)⟩)
 have LSc_ops := Sc_ops.len
 have H3 := H2.addImm' (deepI (Old w) stampCh 2 (fun x : OpS => x.oh) (fun x : OpS => x.over) c.ops) Dc_over (fun b hb => ⟨hb, fun _ ho => (nomatch ho)⟩)
 refine W_seq (W_reg ?_)
 refine O_v rfl (C_box H3 [[(slV c.ph c.parents)], [(.int .i64 c.time)], [(.int .i64 c.r)], [(slV c.oh c.ops)], (idCells c.tree), [(.string c.msg)]] rfl ?_)
 intro b4 w5 hb6 hx7 H8
 refine O_v rfl (R_assign (v := (.bool false)) rfl ?_)
 refine O_nil (Then_n (W_seq (W_reg ?_)))
 refine O_v rfl (R_makeFuncL (vs := [(.pointer (some ⟨b4, 0, none⟩))]) rfl ?_)
 refine O_v rfl (C_alloc1 H8 (z := .nilFunc) Tryz.zeroValue99 rfl ?_)
 intro b9 w10 hb11 hx12 H13
 refine O_u (C_store1 H13 0 rfl 0 (v := (.func (.func 96) #[] #[(.pointer (some ⟨b4, 0, none⟩))])) [[(.func (.func 96) #[] #[(.pointer (some ⟨b4, 0, none⟩))])]] Tryz.sizeOf99 rfl rfl rfl rfl rfl rfl rfl ?_)
 intro w14 hg15 H16
 refine O_nil (Then_n (W_seq (W_block (W_seq ?_))))
 refine W_rg [(0, .q 0), (1, .q 0), (2, .q 0), (3, .q 0), (4, .q 0), (5, .q 0), (6, .q 0), (7, .q 0), (8, .q 0), (9, .q 0), (10, .q 0), (11, .q 0), (12, .q 0), (13, .q 0), (14, .q 0), (15, .q 0), (16, .q 0)] (by kernel_rfl) ?_
 refine Lx_q (i := 0) rfl rfl _ (fun v17 hv18 => R_fieldAddr (off := 0) (oo := 0) Tryz.underlying47 rfl rfl Tryz.sizeOf39 rfl rfl ⟨rfl, Gr.refl _ _⟩) ?_
 refine Lx_q (i := 1) rfl rfl _ (fun v19 hv20 => R_load1 (v := (slV c.ph c.parents)) Tryz.isAgg39 rfl ((boxR_at ((H16.ext hv20).getOwn 1 rfl)).chunks 0 1 0 0 _ rfl rfl rfl) ⟨rfl, Gr.refl _ _⟩) ?_
 refine Lx_q (i := 2) rfl rfl _ (fun v21 hv22 => R_len_slice (a := c.ph.a) (n := c.parents.length) (c := c.ph.c) Tryz.underlying39 rfl ⟨rfl, Gr.refl _ _⟩) ?_
 refine Lx_q (i := 3) rfl rfl _ (fun v23 hv24 => R_cmp (a := ((c.parents.length : Nat) : Int)) (b := 2) (r := (decide (2 < ((c.parents.length : Nat) : Int)))) rfl rfl rfl ⟨rfl, Gr.refl _ _⟩) ?_
 refine Lx_q (i := 4) rfl rfl _ (fun v25 hv26 => R_move (v := (.bool (decide (2 < ((c.parents.length : Nat) : Int))))) rfl ⟨rfl, Gr.refl _ _⟩) ?_
 refine Lx_qg (i := 5) true (decide (2 < ((c.parents.length : Nat) : Int))) rfl rfl rfl rfl rfl (!(decide (2 < ((c.parents.length : Nat) : Int)))) ga_f _ (fun hA v27 hv28 => R_fieldAddr (off := 0) (oo := 0) Tryz.underlying47 rfl rfl Tryz.sizeOf39 rfl rfl ⟨rfl, Gr.refl _ _⟩) ?_
 refine Lx_qg (i := 6) true (decide (2 < ((c.parents.length : Nat) : Int))) rfl rfl rfl rfl rfl (!(decide (2 < ((c.parents.length : Nat) : Int)))) ga_f _ (fun hA v29 hv30 => R_load1 (v := (slV c.ph c.parents)) Tryz.isAgg39 (gv_t hA) ((boxR_at ((H16.ext hv30).getOwn 1 rfl)).chunks 0 1 0 0 _ rfl rfl rfl) ⟨rfl, Gr.refl _ _⟩) ?_
 refine Lx_qg (i := 7) true (decide (2 < ((c.parents.length : Nat) : Int))) rfl rfl rfl rfl rfl (!(decide (2 < ((c.parents.length : Nat) : Int)))) ga_f _ (fun hA v31 hv32 => R_buildL (vs := []) (v := aggOf [(idCells zeroId)]) rfl (fun _ => by kernel_rfl) ⟨rfl, Gr.refl _ _⟩) ?_
 refine Lx_qg (i := 8) true (decide (2 < ((c.parents.length : Nat) : Int))) rfl rfl rfl rfl rfl (!(decide (2 < ((c.parents.length : Nat) : Int)))) ga_f (.bool (c.parents.any (fun (x : ID) => decide (zeroId = x)))) (fun hA v33 hv34 => R_callL (vs := [(slV c.ph c.parents), (aggOf (idCh zeroId))]) obj_rightChange_c98 rfl (lst2 (gv_t hA) (gv_t hA)) (Contains_ID c.ph c.parents zeroId v33 ((H16.ext hv34).slOld 2 rfl))) ?_
 refine Lx_q (i := 9) rfl rfl _ (fun v35 hv36 => R_pick (t := (decide (2 < ((c.parents.length : Nat) : Int)))) (v := (.bool ((decide (2 < ((c.parents.length : Nat) : Int))) || (c.parents.any (fun (x : ID) => decide (zeroId = x)))))) rfl pk_or ⟨rfl, Gr.refl _ _⟩) ?_
 refine Lx_q (i := 10) rfl rfl _ (fun v37 hv38 => R_move (v := (.bool ((decide (2 < ((c.parents.length : Nat) : Int))) || (c.parents.any (fun (x : ID) => decide (zeroId = x)))))) rfl ⟨rfl, Gr.refl _ _⟩) ?_
 refine Lx_qg (i := 11) true ((decide (2 < ((c.parents.length : Nat) : Int))) || (c.parents.any (fun (x : ID) => decide (zeroId = x)))) rfl rfl rfl rfl rfl (!((decide (2 < ((c.parents.length : Nat) : Int))) || (c.parents.any (fun (x : ID) => decide (zeroId = x))))) ga_f _ (fun hA v39 hv40 => R_fieldAddr (off := 0) (oo := 0) Tryz.underlying47 rfl rfl Tryz.sizeOf39 rfl rfl ⟨rfl, Gr.refl _ _⟩) ?_
 refine Lx_qg (i := 12) true ((decide (2 < ((c.parents.length : Nat) : Int))) || (c.parents.any (fun (x : ID) => decide (zeroId = x)))) rfl rfl rfl rfl rfl (!((decide (2 < ((c.parents.length : Nat) : Int))) || (c.parents.any (fun (x : ID) => decide (zeroId = x))))) ga_f _ (fun hA v41 hv42 => R_load1 (v := (slV c.ph c.parents)) Tryz.isAgg39 (gv_t hA) ((boxR_at ((H16.ext hv42).getOwn 1 rfl)).chunks 0 1 0 0 _ rfl rfl rfl) ⟨rfl, Gr.refl _ _⟩) ?_
 refine Lx_qg (i := 13) true ((decide (2 < ((c.parents.length : Nat) : Int))) || (c.parents.any (fun (x : ID) => decide (zeroId = x)))) rfl rfl rfl rfl rfl (!((decide (2 < ((c.parents.length : Nat) : Int))) || (c.parents.any (fun (x : ID) => decide (zeroId = x))))) ga_f (.bool (riseBy cmpId c.parents)) (fun hA v43 hv44 => R_callL (vs := [(slV c.ph c.parents), (.func (.func 55) #[] #[])]) obj_rightChange_c99 rfl (lst2 (gv_t hA) rfl) (rise_ID c.ph c.parents 55 #[] cmpId v43 ((H16.ext hv44).slOld 2 rfl) obj_rightChange_c55 (fun x _ y _ w1 _ => callsCap0 (sha_Cmp x y w1)))) ?_
 refine Lx_qg (i := 14) true ((decide (2 < ((c.parents.length : Nat) : Int))) || (c.parents.any (fun (x : ID) => decide (zeroId = x)))) rfl rfl rfl rfl rfl (!((decide (2 < ((c.parents.length : Nat) : Int))) || (c.parents.any (fun (x : ID) => decide (zeroId = x))))) ga_f _ (fun hA v45 hv46 => R_not (gv_t hA) ⟨rfl, Gr.refl _ _⟩) ?_
 refine Lx_q (i := 15) rfl rfl _ (fun v47 hv48 => R_pick (t := ((decide (2 < ((c.parents.length : Nat) : Int))) || (c.parents.any (fun (x : ID) => decide (zeroId = x))))) (v := (.bool (((decide (2 < ((c.parents.length : Nat) : Int))) || (c.parents.any (fun (x : ID) => decide (zeroId = x)))) || (!(riseBy cmpId c.parents))))) rfl pk_or ⟨rfl, Gr.refl _ _⟩) ?_
 refine Lx_q (i := 16) rfl rfl _ (fun v49 hv50 => R_assign (v := (.bool (((decide (2 < ((c.parents.length : Nat) : Int))) || (c.parents.any (fun (x : ID) => decide (zeroId = x)))) || (!(riseBy cmpId c.parents))))) rfl ⟨rfl, Gr.refl _ _⟩) ?_
 refine Lx_nil (fun w51 hw52 => ?_)
 have H53 := H16.ext hw52
 refine Then_n ?_
 refine W_cond (t := (((decide (2 < ((c.parents.length : Nat) : Int))) || (c.parents.any (fun (x : ID) => decide (zeroId = x)))) || (!(riseBy cmpId c.parents)))) rfl (fun hc54 => ?_) (fun hc54 => ?_)
 ·have hc54 : (((2 < ((c.parents.length : Nat) : Int)) ∨ (c.parents.any (fun (x : ID) => decide (zeroId = x))) = true) ∨ (riseBy cmpId c.parents) = false) := (Or.imp (fun h => (Or.imp (fun h => (of_decide_eq_true h)) (fun h => h) (orT h))) (fun h => (notT h)) (orT hc54))
  refine W_skip (Blk_n (Then_n (W_seq (W_reg ?_))))
  refine O_v rfl (R_assign (v := (.bool false)) rfl ?_)
  refine O_nil (Then_n (W_ret ?_))
  refine ret_1 (v := (.bool false)) Tryz.results58 rfl ?_
  exact ⟨(change_f1 (by assumption)), H53.gr⟩
 ·have hc54 : ((¬ (2 < ((c.parents.length : Nat) : Int)) ∧ (c.parents.any (fun (x : ID) => decide (zeroId = x))) = false) ∧ (riseBy cmpId c.parents) = true) := (And.imp (fun h => (And.imp (fun h => (of_decide_eq_false h)) (fun h => h) (orF h))) (fun h => (notF h)) (orF hc54))
  refine W_seq ?_
  refine W_rg [(0, .q 0), (1, .q 0), (2, .q 0), (3, .q 0), (4, .q 0), (5, .q 0), (6, .q 0), (7, .q 0), (8, .q 0), (9, .q 0), (10, .q 0), (11, .q 0), (12, .q 0), (13, .q 0), (14, .q 0), (15, .q 0), (16, .q 0), (17, .q 0), (18, .q 0), (19, .q 0)] (by kernel_rfl) ?_
  refine Lx_q (i := 0) rfl rfl _ (fun v55 hv56 => R_fieldAddr (off := 1) (oo := 1) Tryz.underlying47 rfl rfl Tryz.sizeOf2 rfl rfl ⟨rfl, Gr.refl _ _⟩) ?_
  refine Lx_q (i := 1) rfl rfl _ (fun v57 hv58 => R_load1 (v := (.int .i64 c.time)) Tryz.isAgg2 rfl ((boxR_at ((H53.ext hv58).getOwn 1 rfl)).chunks 1 1 1 1 _ rfl rfl rfl) ⟨rfl, Gr.refl _ _⟩) ?_
  refine Lx_q (i := 2) rfl rfl _ (fun v59 hv60 => R_fieldAddr (off := 2) (oo := 2) Tryz.underlying47 rfl rfl Tryz.sizeOf3 rfl rfl ⟨rfl, Gr.refl _ _⟩) ?_
  refine Lx_q (i := 3) rfl rfl _ (fun v61 hv62 => R_load1 (v := (.int .i64 c.r)) Tryz.isAgg3 rfl ((boxR_at ((H53.ext hv62).getOwn 1 rfl)).chunks 2 1 2 2 _ rfl rfl rfl) ⟨rfl, Gr.refl _ _⟩) ?_
  refine Lx_q (i := 4) rfl rfl _ (fun v63 hv64 => R_buildL (vs := [(0, (.int .i64 c.time)), (1, (.int .i64 c.r))]) (v := aggOf [[(.int .i64 c.time)], [(.int .i64 c.r)]]) rfl (fun _ => by kernel_rfl) ⟨rfl, Gr.refl _ _⟩) ?_
  refine Lx_q (i := 5) rfl rfl (.bool (stRight ({ T := c.time, R := c.r } : Stamp))) (fun v65 hv66 => R_callL (vs := [(aggOf [[(.int .i64 c.time)], [(.int .i64 c.r)]])]) obj_rightChange_c100 rfl rfl (stamp_Right ({ T := c.time, R := c.r } : Stamp) v65 )) ?_
  refine Lx_q (i := 6) rfl rfl _ (fun v67 hv68 => R_not rfl ⟨rfl, Gr.refl _ _⟩) ?_
  refine Lx_q (i := 7) rfl rfl _ (fun v69 hv70 => R_move (v := (.bool (!(stRight ({ T := c.time, R := c.r } : Stamp))))) rfl ⟨rfl, Gr.refl _ _⟩) ?_
  refine Lx_qg (i := 8) true (!(stRight ({ T := c.time, R := c.r } : Stamp))) rfl rfl rfl rfl rfl (!(!(stRight ({ T := c.time, R := c.r } : Stamp)))) ga_f _ (fun hA v71 hv72 => R_fieldAddr (off := 36) (oo := 36) Tryz.underlying47 rfl rfl Tryz.sizeOf9 rfl rfl ⟨rfl, Gr.refl _ _⟩) ?_
  refine Lx_qg (i := 9) true (!(stRight ({ T := c.time, R := c.r } : Stamp))) rfl rfl rfl rfl rfl (!(!(stRight ({ T := c.time, R := c.r } : Stamp)))) ga_f _ (fun hA v73 hv74 => R_load1 (v := (.string c.msg)) Tryz.isAgg9 (gv_t hA) ((boxR_at ((H53.ext hv74).getOwn 1 rfl)).chunks 5 1 36 36 _ rfl rfl rfl) ⟨rfl, Gr.refl _ _⟩) ?_
  refine Lx_qg (i := 10) true (!(stRight ({ T := c.time, R := c.r } : Stamp))) rfl rfl rfl rfl rfl (!(!(stRight ({ T := c.time, R := c.r } : Stamp)))) ga_f _ (fun hA v75 hv76 => R_len_string Tryz.underlying9 (gv_t hA) ⟨rfl, Gr.refl _ _⟩) ?_
  refine Lx_qg (i := 11) true (!(stRight ({ T := c.time, R := c.r } : Stamp))) rfl rfl rfl rfl rfl (!(!(stRight ({ T := c.time, R := c.r } : Stamp)))) ga_f _ (fun hA v77 hv78 => R_cmp (a := ((c.msg.size : Nat) : Int)) (b := 200) (r := (decide (200 < ((c.msg.size : Nat) : Int)))) (gv_t hA) rfl rfl ⟨rfl, Gr.refl _ _⟩) ?_
  refine Lx_q (i := 12) rfl rfl _ (fun v79 hv80 => R_pick (t := (!(stRight ({ T := c.time, R := c.r } : Stamp)))) (v := (.bool ((!(stRight ({ T := c.time, R := c.r } : Stamp))) || (decide (200 < ((c.msg.size : Nat) : Int)))))) rfl pk_or ⟨rfl, Gr.refl _ _⟩) ?_
  refine Lx_q (i := 13) rfl rfl _ (fun v81 hv82 => R_move (v := (.bool ((!(stRight ({ T := c.time, R := c.r } : Stamp))) || (decide (200 < ((c.msg.size : Nat) : Int)))))) rfl ⟨rfl, Gr.refl _ _⟩) ?_
  refine Lx_qg (i := 14) true ((!(stRight ({ T := c.time, R := c.r } : Stamp))) || (decide (200 < ((c.msg.size : Nat) : Int)))) rfl rfl rfl rfl rfl (!((!(stRight ({ T := c.time, R := c.r } : Stamp))) || (decide (200 < ((c.msg.size : Nat) : Int))))) ga_f _ (fun hA v83 hv84 => R_fieldAddr (off := 4) (oo := 4) Tryz.underlying47 rfl rfl Tryz.sizeOf45 rfl rfl ⟨rfl, Gr.refl _ _⟩) ?_
  refine Lx_qg (i := 15) true ((!(stRight ({ T := c.time, R := c.r } : Stamp))) || (decide (200 < ((c.msg.size : Nat) : Int)))) rfl rfl rfl rfl rfl (!((!(stRight ({ T := c.time, R := c.r } : Stamp))) || (decide (200 < ((c.msg.size : Nat) : Int))))) ga_f _ (fun hA v85 hv86 => R_loadA (cs := [(idCells c.tree)]) Tryz.isAgg45 Tryz.sizeOf45 rfl (gv_t hA) ((boxR_at ((H53.ext hv86).getOwn 1 rfl)).chunks 4 1 4 4 _ rfl rfl rfl) ⟨rfl, Gr.refl _ _⟩) ?_
  refine Lx_qg (i := 16) true ((!(stRight ({ T := c.time, R := c.r } : Stamp))) || (decide (200 < ((c.msg.size : Nat) : Int)))) rfl rfl rfl rfl rfl (!((!(stRight ({ T := c.time, R := c.r } : Stamp))) || (decide (200 < ((c.msg.size : Nat) : Int))))) ga_f _ (fun hA v87 hv88 => R_buildL (vs := []) (v := aggOf [(idCells zeroId)]) rfl (fun _ => by kernel_rfl) ⟨rfl, Gr.refl _ _⟩) ?_
  refine Lx_qg (i := 17) true ((!(stRight ({ T := c.time, R := c.r } : Stamp))) || (decide (200 < ((c.msg.size : Nat) : Int)))) rfl rfl rfl rfl rfl (!((!(stRight ({ T := c.time, R := c.r } : Stamp))) || (decide (200 < ((c.msg.size : Nat) : Int))))) ga_f _ (fun hA v89 hv90 => R_eqv (a := c.tree) (b := zeroId) eqv_ID45 rfl Tryz.eqGuardType45 (gv_t hA) (gv_t hA) ⟨rfl, Gr.refl _ _⟩) ?_
  refine Lx_q (i := 18) rfl rfl _ (fun v91 hv92 => R_pick (t := ((!(stRight ({ T := c.time, R := c.r } : Stamp))) || (decide (200 < ((c.msg.size : Nat) : Int))))) (v := (.bool (((!(stRight ({ T := c.time, R := c.r } : Stamp))) || (decide (200 < ((c.msg.size : Nat) : Int)))) || (decide (c.tree = zeroId))))) rfl pk_or ⟨rfl, Gr.refl _ _⟩) ?_
  refine Lx_q (i := 19) rfl rfl _ (fun v93 hv94 => R_assign (v := (.bool (((!(stRight ({ T := c.time, R := c.r } : Stamp))) || (decide (200 < ((c.msg.size : Nat) : Int)))) || (decide (c.tree = zeroId))))) rfl ⟨rfl, Gr.refl _ _⟩) ?_
  refine Lx_nil (fun w95 hw96 => ?_)
  have H97 := H53.ext hw96
  refine Then_n ?_
  refine W_cond (t := (((!(stRight ({ T := c.time, R := c.r } : Stamp))) || (decide (200 < ((c.msg.size : Nat) : Int)))) || (decide (c.tree = zeroId)))) rfl (fun hc98 => ?_) (fun hc98 => ?_)
  ·have hc98 : (((stRight ({ T := c.time, R := c.r } : Stamp)) = false ∨ (200 < ((c.msg.size : Nat) : Int))) ∨ (c.tree = zeroId)) := (Or.imp (fun h => (Or.imp (fun h => (notT h)) (fun h => (of_decide_eq_true h)) (orT h))) (fun h => (of_decide_eq_true h)) (orT hc98))
   refine W_skip (Blk_n (Then_n (W_seq (W_reg ?_))))
   refine O_v rfl (R_assign (v := (.bool false)) rfl ?_)
   refine O_nil (Then_n (W_ret ?_))
   refine ret_1 (v := (.bool false)) Tryz.results58 rfl ?_
   exact ⟨(change_f2 (by assumption)), H97.gr⟩
  ·have hc98 : (((stRight ({ T := c.time, R := c.r } : Stamp)) = true ∧ ¬ (200 < ((c.msg.size : Nat) : Int))) ∧ ¬ (c.tree = zeroId)) := (And.imp (fun h => (And.imp (fun h => (notF h)) (fun h => (of_decide_eq_false h)) (orF h))) (fun h => (of_decide_eq_false h)) (orF hc98))
   refine W_seq ?_
   refine W_rg [(0, .q 0), (1, .q 0), (2, .q 0), (3, .q 0), (4, .q 0), (5, .q 0), (6, .q 0), (7, .q 0), (8, .q 0), (9, .q 0), (10, .q 0), (11, .q 0), (12, .q 0), (13, .q 0), (14, .q 0), (15, .q 0), (16, .q 0)] (by kernel_rfl) ?_
   refine Lx_q (i := 0) rfl rfl _ (fun v99 hv100 => R_fieldAddr (off := 3) (oo := 3) Tryz.underlying47 rfl rfl Tryz.sizeOf43 rfl rfl ⟨rfl, Gr.refl _ _⟩) ?_
   refine Lx_q (i := 1) rfl rfl _ (fun v101 hv102 => R_load1 (v := (slV c.oh c.ops)) Tryz.isAgg43 rfl ((boxR_at ((H97.ext hv102).getOwn 1 rfl)).chunks 3 1 3 3 _ rfl rfl rfl) ⟨rfl, Gr.refl _ _⟩) ?_
   refine Lx_q (i := 2) rfl rfl _ (fun v103 hv104 => R_len_slice (a := c.oh.a) (n := c.ops.length) (c := c.oh.c) Tryz.underlying43 rfl ⟨rfl, Gr.refl _ _⟩) ?_
   refine Lx_q (i := 3) rfl rfl _ (fun v105 hv106 => R_cmp (a := ((c.ops.length : Nat) : Int)) (b := 64) (r := (decide (64 < ((c.ops.length : Nat) : Int)))) rfl rfl rfl ⟨rfl, Gr.refl _ _⟩) ?_
   refine Lx_q (i := 4) rfl rfl _ (fun v107 hv108 => R_move (v := (.bool (decide (64 < ((c.ops.length : Nat) : Int))))) rfl ⟨rfl, Gr.refl _ _⟩) ?_
   refine Lx_qg (i := 5) true (decide (64 < ((c.ops.length : Nat) : Int))) rfl rfl rfl rfl rfl (!(decide (64 < ((c.ops.length : Nat) : Int)))) ga_f _ (fun hA v109 hv110 => R_fieldAddr (off := 0) (oo := 0) Tryz.underlying47 rfl rfl Tryz.sizeOf39 rfl rfl ⟨rfl, Gr.refl _ _⟩) ?_
   refine Lx_qg (i := 6) true (decide (64 < ((c.ops.length : Nat) : Int))) rfl rfl rfl rfl rfl (!(decide (64 < ((c.ops.length : Nat) : Int)))) ga_f _ (fun hA v111 hv112 => R_load1 (v := (slV c.ph c.parents)) Tryz.isAgg39 (gv_t hA) ((boxR_at ((H97.ext hv112).getOwn 1 rfl)).chunks 0 1 0 0 _ rfl rfl rfl) ⟨rfl, Gr.refl _ _⟩) ?_
   refine Lx_qg (i := 7) true (decide (64 < ((c.ops.length : Nat) : Int))) rfl rfl rfl rfl rfl (!(decide (64 < ((c.ops.length : Nat) : Int)))) ga_f _ (fun hA v113 hv114 => R_len_slice (a := c.ph.a) (n := c.parents.length) (c := c.ph.c) Tryz.underlying39 (gv_t hA) ⟨rfl, Gr.refl _ _⟩) ?_
   refine Lx_qg (i := 8) true (decide (64 < ((c.ops.length : Nat) : Int))) rfl rfl rfl rfl rfl (!(decide (64 < ((c.ops.length : Nat) : Int)))) ga_f _ (fun hA v115 hv116 => R_cmp (a := ((c.parents.length : Nat) : Int)) (b := 2) (r := (decide (((c.parents.length : Nat) : Int) = 2))) (gv_t hA) rfl rfl ⟨rfl, Gr.refl _ _⟩) ?_
   refine Lx_qg (i := 9) true (decide (64 < ((c.ops.length : Nat) : Int))) rfl rfl rfl rfl rfl (!(decide (64 < ((c.ops.length : Nat) : Int)))) ga_f _ (fun hA v117 hv118 => R_move (v := (.bool (decide (((c.parents.length : Nat) : Int) = 2)))) (gv_t hA) ⟨rfl, Gr.refl _ _⟩) ?_
   refine Lx_qg (i := 10) (!(decide (64 < ((c.ops.length : Nat) : Int)))) (decide (((c.parents.length : Nat) : Int) = 2)) rfl rfl rfl rfl rfl ((!(decide (64 < ((c.ops.length : Nat) : Int)))) && (decide (((c.parents.length : Nat) : Int) = 2))) gb_t _ (fun hA v119 hv120 => R_fieldAddr (off := 3) (oo := 3) Tryz.underlying47 rfl rfl Tryz.sizeOf43 rfl rfl ⟨rfl, Gr.refl _ _⟩) ?_
   refine Lx_qg (i := 11) (!(decide (64 < ((c.ops.length : Nat) : Int)))) (decide (((c.parents.length : Nat) : Int) = 2)) rfl rfl rfl rfl rfl ((!(decide (64 < ((c.ops.length : Nat) : Int)))) && (decide (((c.parents.length : Nat) : Int) = 2))) gb_t _ (fun hA v121 hv122 => R_load1 (v := (slV c.oh c.ops)) Tryz.isAgg43 (gv_t hA) ((boxR_at ((H97.ext hv122).getOwn 1 rfl)).chunks 3 1 3 3 _ rfl rfl rfl) ⟨rfl, Gr.refl _ _⟩) ?_
   refine Lx_qg (i := 12) (!(decide (64 < ((c.ops.length : Nat) : Int)))) (decide (((c.parents.length : Nat) : Int) = 2)) rfl rfl rfl rfl rfl ((!(decide (64 < ((c.ops.length : Nat) : Int)))) && (decide (((c.parents.length : Nat) : Int) = 2))) gb_t _ (fun hA v123 hv124 => R_len_slice (a := c.oh.a) (n := c.ops.length) (c := c.oh.c) Tryz.underlying43 (gv_t hA) ⟨rfl, Gr.refl _ _⟩) ?_
   refine Lx_qg (i := 13) (!(decide (64 < ((c.ops.length : Nat) : Int)))) (decide (((c.parents.length : Nat) : Int) = 2)) rfl rfl rfl rfl rfl ((!(decide (64 < ((c.ops.length : Nat) : Int)))) && (decide (((c.parents.length : Nat) : Int) = 2))) gb_t _ (fun hA v125 hv126 => R_cmp (a := ((c.ops.length : Nat) : Int)) (b := 0) (r := (decide (0 < ((c.ops.length : Nat) : Int)))) (gv_t hA) rfl rfl ⟨rfl, Gr.refl _ _⟩) ?_
   refine Lx_qg (i := 14) true (decide (64 < ((c.ops.length : Nat) : Int))) rfl rfl rfl rfl rfl (!(decide (64 < ((c.ops.length : Nat) : Int)))) ga_f _ (fun hA v127 hv128 => R_pick (t := (decide (((c.parents.length : Nat) : Int) = 2))) (v := (.bool ((decide (((c.parents.length : Nat) : Int) = 2)) && (decide (0 < ((c.ops.length : Nat) : Int)))))) (gv_t hA) (pk_andA hA) ⟨rfl, Gr.refl _ _⟩) ?_
   refine Lx_q (i := 15) rfl rfl _ (fun v129 hv130 => R_pick (t := (decide (64 < ((c.ops.length : Nat) : Int)))) (v := (.bool ((decide (64 < ((c.ops.length : Nat) : Int))) || ((decide (((c.parents.length : Nat) : Int) = 2)) && (decide (0 < ((c.ops.length : Nat) : Int))))))) rfl pk_or ⟨rfl, Gr.refl _ _⟩) ?_
   refine Lx_q (i := 16) rfl rfl _ (fun v131 hv132 => R_assign (v := (.bool ((decide (64 < ((c.ops.length : Nat) : Int))) || ((decide (((c.parents.length : Nat) : Int) = 2)) && (decide (0 < ((c.ops.length : Nat) : Int))))))) rfl ⟨rfl, Gr.refl _ _⟩) ?_
   refine Lx_nil (fun w133 hw134 => ?_)
   have H135 := H97.ext hw134
   refine Then_n ?_
   refine W_cond (t := ((decide (64 < ((c.ops.length : Nat) : Int))) || ((decide (((c.parents.length : Nat) : Int) = 2)) && (decide (0 < ((c.ops.length : Nat) : Int)))))) rfl (fun hc136 => ?_) (fun hc136 => ?_)
   ·have hc136 : ((64 < ((c.ops.length : Nat) : Int)) ∨ ((((c.parents.length : Nat) : Int) = 2) ∧ (0 < ((c.ops.length : Nat) : Int)))) := (Or.imp (fun h => (of_decide_eq_true h)) (fun h => (And.imp (fun h => (of_decide_eq_true h)) (fun h => (of_decide_eq_true h)) (andT h))) (orT hc136))
    refine W_skip (Blk_n (Then_n (W_seq (W_reg ?_))))
    refine O_v rfl (R_assign (v := (.bool false)) rfl ?_)
    refine O_nil (Then_n (W_ret ?_))
    refine ret_1 (v := (.bool false)) Tryz.results58 rfl ?_
    exact ⟨(change_f3 (by assumption)), H135.gr⟩
   ·have hc136 : (¬ (64 < ((c.ops.length : Nat) : Int)) ∧ (¬ (((c.parents.length : Nat) : Int) = 2) ∨ ¬ (0 < ((c.ops.length : Nat) : Int)))) := (And.imp (fun h => (of_decide_eq_false h)) (fun h => (Or.imp (fun h => (of_decide_eq_false h)) (fun h => (of_decide_eq_false h)) (andF h))) (orF hc136))
    refine W_seq ?_
    refine W_rg [(0, .q 0), (1, .q 0), (2, .q 0), (3, .q 0), (4, .q 0), (5, .q 0), (6, .q 0), (7, .q 0), (8, .q 0), (9, .q 0), (10, .q 0)] (by kernel_rfl) ?_
    refine Lx_q (i := 0) rfl rfl _ (fun v137 hv138 => R_fieldAddr (off := 3) (oo := 3) Tryz.underlying47 rfl rfl Tryz.sizeOf43 rfl rfl ⟨rfl, Gr.refl _ _⟩) ?_
    refine Lx_q (i := 1) rfl rfl _ (fun v139 hv140 => R_load1 (v := (slV c.oh c.ops)) Tryz.isAgg43 rfl ((boxR_at ((H135.ext hv140).getOwn 1 rfl)).chunks 3 1 3 3 _ rfl rfl rfl) ⟨rfl, Gr.refl _ _⟩) ?_
    refine Lx_q (i := 2) rfl rfl _ (fun v141 hv142 => R_makeFuncL (vs := [(.pointer (some ⟨b9, 0, none⟩))]) rfl ⟨rfl, Gr.refl _ _⟩) ?_
    refine Lx_q (i := 3) rfl rfl (.bool (c.ops.any (fun (x : OpS) => !ownOp c.time c.r x))) (fun v143 hv144 => R_callL (vs := [(slV c.oh c.ops), (.func (.func 102) #[] #[(.pointer (some ⟨b9, 0, none⟩))])]) obj_rightChange_c101 rfl rfl (ContainsFunc_Op c.oh c.ops 102 #[(.pointer (some ⟨b9, 0, none⟩))] (fun (x : OpS) => !ownOp c.time c.r x) v143 ((H135.ext hv144).slOld 1 rfl) obj_rightChange_c102 (fun x hx w1 he => callsCat (rightChange_2 x b9 b4 c w1 (((H135.ext hv144).deepOld 0 rfl _ hx).ext he) (((H135.ext hv144).ext he).getOwn 1 rfl) (((H135.ext hv144).ext he).getOwn 0 rfl))))) ?_
    refine Lx_q (i := 4) rfl rfl _ (fun v145 hv146 => R_not rfl ⟨rfl, Gr.refl _ _⟩) ?_
    refine Lx_q (i := 5) rfl rfl _ (fun v147 hv148 => R_move (v := (.bool (!(c.ops.any (fun (x : OpS) => !ownOp c.time c.r x))))) rfl ⟨rfl, Gr.refl _ _⟩) ?_
    refine Lx_qg (i := 6) true (!(c.ops.any (fun (x : OpS) => !ownOp c.time c.r x))) rfl rfl rfl rfl rfl (!(c.ops.any (fun (x : OpS) => !ownOp c.time c.r x))) ga_t _ (fun hA v149 hv150 => R_fieldAddr (off := 3) (oo := 3) Tryz.underlying47 rfl rfl Tryz.sizeOf43 rfl rfl ⟨rfl, Gr.refl _ _⟩) ?_
    refine Lx_qg (i := 7) true (!(c.ops.any (fun (x : OpS) => !ownOp c.time c.r x))) rfl rfl rfl rfl rfl (!(c.ops.any (fun (x : OpS) => !ownOp c.time c.r x))) ga_t _ (fun hA v151 hv152 => R_load1 (v := (slV c.oh c.ops)) Tryz.isAgg43 (gv_t hA) ((boxR_at ((H135.ext hv152).getOwn 1 rfl)).chunks 3 1 3 3 _ rfl rfl rfl) ⟨rfl, Gr.refl _ _⟩) ?_
    refine Lx_qg (i := 8) true (!(c.ops.any (fun (x : OpS) => !ownOp c.time c.r x))) rfl rfl rfl rfl rfl (!(c.ops.any (fun (x : OpS) => !ownOp c.time c.r x))) ga_t (.bool (riseBy (fun (a b : OpS) => cmpSt a.tm b.tm) c.ops)) (fun hA v153 hv154 => R_callL (vs := [(slV c.oh c.ops), (.func (.func 104) #[] #[])]) obj_rightChange_c103 rfl (lst2 (gv_t hA) rfl) (rise_Op c.oh c.ops 104 #[] (fun (a b : OpS) => cmpSt a.tm b.tm) v153 ((H135.ext hv154).slOld 1 rfl) obj_rightChange_c104 (fun x hx y hy w1 he => callsCap0 (rightChange_3 x y w1 (((H135.ext hv154).deepOld 0 rfl _ hx).ext he) (((H135.ext hv154).deepOld 0 rfl _ hy).ext he))))) ?_
    refine Lx_q (i := 9) rfl rfl _ (fun v155 hv156 => R_pick (t := (!(c.ops.any (fun (x : OpS) => !ownOp c.time c.r x)))) (v := (.bool ((!(c.ops.any (fun (x : OpS) => !ownOp c.time c.r x))) && (riseBy (fun (a b : OpS) => cmpSt a.tm b.tm) c.ops)))) rfl pk_and ⟨rfl, Gr.refl _ _⟩) ?_
    refine Lx_q (i := 10) rfl rfl _ (fun v157 hv158 => R_assign (v := (.bool ((!(c.ops.any (fun (x : OpS) => !ownOp c.time c.r x))) && (riseBy (fun (a b : OpS) => cmpSt a.tm b.tm) c.ops)))) rfl ⟨rfl, Gr.refl _ _⟩) ?_
    refine Lx_nil (fun w159 hw160 => ?_)
    have H161 := H135.ext hw160
    refine Then_n (W_ret (Blk_r (Then_r ?_)))
    refine ret_1 (v := (.bool ((!(c.ops.any (fun (x : OpS) => !ownOp c.time c.r x))) && (riseBy (fun (a b : OpS) => cmpSt a.tm b.tm) c.ops)))) Tryz.results58 rfl ?_
    exact ⟨(change_t (by assumption) (by assumption) (by assumption)), H161.gr⟩

end Go.Proofs.YthjdhfoeckfmbaaGreat
namespace Go.Proofs.YthjdhfoeckfmbaaGreat
open Go
set_option maxRecDepth 100000
set_option linter.unusedVariables false
set_option linter.unusedSimpArgs false
set_option linter.unusedSectionVars false
variable [DD]
set_option maxHeartbeats 1000000 in
theorem Reader_Good (br : Nat) (r : RdS) (Sr : Nat → Prop) (q : List UInt8 × Bool) (w : World) (Qr : RdQ 132 br Sr r w) (Er : r.st = q) :
    Calls Tryz.prog 48 #[(.pointer (some ⟨br, 0, none⟩))] w (Ret fun v w' => ∃ (r' : RdS), v = (.bool (!q.2)) ∧ Gr (fun c => c = br) w w' ∧ RdQ 132 br Sr r' w' ∧ r'.st = q) := by
 refine calls_W Tryz.func48 rfl Tryz.ntmps48 rfl ?_
 have H0 := Qr
 refine W_seq (W_reg ?_)
 refine O_v rfl (R_assign (v := (.bool false)) rfl ?_)
 refine O_nil (Then_n (W_seq (W_reg ?_)))
 refine O_v rfl (R_move (v := (.pointer (some ⟨br, 0, none⟩))) rfl ?_)
 refine O_v rfl (R_nilCheck rfl ?_)
 refine O_v rfl (R_fieldAddr (off := 1) (oo := 1) Tryz.underlying132 rfl rfl Tryz.sizeOf4 rfl rfl ?_)
 refine O_v rfl (R_load1 (v := (.bool r.bad)) Tryz.isAgg4 rfl ((boxR_at (H0.getOwn 0 rfl)).chunks 1 1 1 1 _ rfl rfl rfl) ?_)
 refine O_v rfl (R_not rfl ?_)
 refine O_v rfl (R_assign (v := (.bool (!r.bad))) rfl ?_)
 refine O_nil (Then_n (W_ret ?_))
 refine ret_1 (v := (.bool (!r.bad))) Tryz.results48 rfl ?_
 have HQ := ((H0.pick (B' := [boxR br 132 (rdCh r)]) (I' := [slI Sr encB 1 r.bh r.b]) [0] (by decide) rfl (List.forall_mem_cons.2 ⟨List.mem_of_getElem? (i := 0) rfl, fun _ h => (nomatch h)⟩)).rdStart)
 exact ⟨r, (by rw [← Er]; rfl), H0.gr, HQ, Er⟩

end Go.Proofs.YthjdhfoeckfmbaaGreat
namespace Go.Proofs.YthjdhfoeckfmbaaGreat
open Go
set_option maxRecDepth 100000
set_option linter.unusedVariables false
set_option linter.unusedSimpArgs false
set_option linter.unusedSectionVars false
variable [DD]
theorem stamp_get_c46 : callable Tryz.prog 46 = true := by kernel_rfl
set_option maxHeartbeats 1000000 in
theorem stamp_get (br : Nat) (r : RdS) (Sr : Nat → Prop) (q : List UInt8 × Bool) (w : World) (Qr : RdQ 132 br Sr r w) (Er : r.st = q) :
    Calls Tryz.prog 106 #[(.pointer (some ⟨br, 0, none⟩))] w (Ret fun v w' => ∃ (r' : RdS), v = (aggOf (stampCh ((rdAt q).1))) ∧ Gr (fun c => c = br) w w' ∧ RdQ 132 br Sr r' w' ∧ r'.st = (rdAt q).2) := by
 refine calls_W Tryz.func106 rfl Tryz.ntmps106 rfl ?_
 have H0 := Qr
 refine W_seq (W_reg ?_)
 refine O_v rfl (C_alloc H0 [[(.int .i64 0)], [(.int .i64 0)]] Tryz.zeroValue69 ?_)
 intro b1 w2 hb3 hx4 H5
 refine O_nil (Then_n (W_seq (W_reg ?_)))
 refine O_v rfl (R_move (v := (.pointer (some ⟨br, 0, none⟩))) rfl ?_)
 refine O_v rfl (R_callL (vs := [(.pointer (some ⟨br, 0, none⟩)), (.int .i64 1099511627776)]) stamp_get_c46 rfl rfl ((Reader_Num br r Sr q 1099511627776 w2 ((H5.pick (B' := [boxR br 132 (rdCh r)]) (I' := [slI Sr encB 1 r.bh r.b]) [1] (by decide) rfl (List.forall_mem_cons.2 ⟨List.mem_of_getElem? (i := 0) rfl, fun _ h => (nomatch h)⟩)).rdStart) Er).ret ?_))
 rintro _ w7 ⟨r6, rfl, hg8, hQ9, hr10⟩
 have H11 := H5.rdUpd (r := r) 1 0 rfl rfl hg8 hQ9
 refine O_v rfl (R_assign (v := (.int .i64 ((((rdNum q 1099511627776).1) : Nat) : Int))) rfl ?_)
 refine O_nil (Then_n (W_seq (W_reg ?_)))
 refine O_v rfl (R_move (v := (.int .i64 ((((rdNum q 1099511627776).1) : Nat) : Int))) rfl ?_)
 refine O_v rfl (R_move (v := (.pointer (some ⟨br, 0, none⟩))) rfl ?_)
 refine O_v rfl (R_callL (vs := [(.pointer (some ⟨br, 0, none⟩)), (.int .i64 65536)]) stamp_get_c46 rfl rfl ((Reader_Num br r6 Sr ((rdNum q 1099511627776).2) 65536 w7 ((H11.pick (B' := [boxR br 132 (rdCh r6)]) (I' := [slI Sr encB 1 r6.bh r6.b]) [1] (by decide) rfl (List.forall_mem_cons.2 ⟨List.mem_of_getElem? (i := 0) rfl, fun _ h => (nomatch h)⟩)).rdStart) hr10).ret ?_))
 rintro _ w13 ⟨r12, rfl, hg14, hQ15, hr16⟩
 have H17 := H11.rdUpd (r := r6) 1 0 rfl rfl hg14 hQ15
 refine O_v rfl (R_buildL (vs := [(0, (.int .i64 ((((rdNum q 1099511627776).1) : Nat) : Int))), (1, (.int .i64 ((((rdNum ((rdNum q 1099511627776).2) 65536).1) : Nat) : Int)))]) (v := aggOf [[(.int .i64 ((((rdNum q 1099511627776).1) : Nat) : Int))], [(.int .i64 ((((rdNum ((rdNum q 1099511627776).2) 65536).1) : Nat) : Int))]]) rfl (fun _ => by kernel_rfl) ?_)
 refine O_u (C_storeA H17 0 rfl 0 (sub := [[(.int .i64 ((((rdNum q 1099511627776).1) : Nat) : Int))], [(.int .i64 ((((rdNum ((rdNum q 1099511627776).2) 65536).1) : Nat) : Int))]]) [[(.int .i64 ((((rdNum q 1099511627776).1) : Nat) : Int))], [(.int .i64 ((((rdNum ((rdNum q 1099511627776).2) 65536).1) : Nat) : Int))]] Tryz.sizeOf69 rfl rfl rfl rfl ⟨[[(.int .i64 0)], [(.int .i64 0)]], [], rfl, rfl, rfl⟩ rfl ?_)
 intro w18 hg19 H20
 refine O_nil (Then_n (W_ret ?_))
 refine ret_c Tryz.results106 (inMem (cs := [[(.int .i64 ((((rdNum q 1099511627776).1) : Nat) : Int))], [(.int .i64 ((((rdNum ((rdNum q 1099511627776).2) 65536).1) : Nat) : Int))]]) rfl Tryz.isAgg69 Tryz.sizeOf69 rfl (boxR_at (H20.getOwn 0 rfl))) ?_
 have HQ := ((H20.pick (B' := [boxR br 132 (rdCh r12)]) (I' := [slI Sr encB 1 r12.bh r12.b]) [1] (by decide) rfl (List.forall_mem_cons.2 ⟨List.mem_of_getElem? (i := 0) rfl, fun _ h => (nomatch h)⟩)).rdStart)
 exact ⟨r12, rfl, H20.gr, HQ, (hr16)⟩

end Go.Proofs.YthjdhfoeckfmbaaGreat
/- Items, operations, commits: read from bytes, in plain words. -/
namespace Go.Proofs.YthjdhfoeckfmbaaGreat
open Go
set_option linter.unusedVariables false
set_option linter.unusedSimpArgs false
abbrev RSt := List UInt8 × Bool
theorem rdTake_len1 (q : RSt) : (rdTake q 1).1 = [] ∨ (rdTake q 1).1.length = 1 := (take_len q 1).symm
theorem rdNumGo_le {most : Int} : ∀ (f k u : Nat) (q : RSt) {m : Nat}, most = (m : Int) → (rdNumGo most f k u q).1 ≤ m
  | 0, _, _, _, m, _ => Nat.zero_le _
  | f + 1, k, u, q, m, hm => by
    rw [rdNumGo]
    split
    · exact Nat.zero_le _
    · simp only
      split
      · exact rdNumGo_le f _ _ _ hm
      · split
        · exact Nat.zero_le _
        · show _ ≤ m
          omega
theorem rdNum_le (q : RSt) {m : Nat} {most : Int} (hm : most = (m : Int)) : (rdNum q most).1 ≤ m := rdNumGo_le 9 0 0 q hm
structure ItemC where
  node : Stamp
  tm : Stamp
  name : ByteArray
  sub : ID
  heads : List Head
  deriving DecidableEq, Inhabited
def ItemS.core (x : ItemS) : ItemC := ⟨x.node, x.tm, x.name, x.sub, x.heads⟩
def rdHead (q : RSt) : Head × RSt := (⟨(rdAt q).1, (rdId (rdAt q).2).1⟩, (rdId (rdAt q).2).2)
/-- So many heads more; none behind one that isn't there. -/
def rdHeads : Nat → List Head → RSt → List Head × RSt
  | 0, a, q => (a, q)
  | n + 1, a, q => if (rdHead q).2.2 = true then (a ++ [(rdHead q).1], (rdHead q).2) else rdHeads n (a ++ [(rdHead q).1]) (rdHead q).2
def rdItem (q : RSt) : ItemC × RSt :=
  (⟨(rdAt q).1, (rdAt (rdAt q).2).1, (rdText (rdAt (rdAt q).2).2 60).1, (rdId (rdText (rdAt (rdAt q).2).2 60).2).1, (rdHeads (rdNum (rdId (rdText (rdAt (rdAt q).2).2 60).2).2 1000).1 [] (rdNum (rdId (rdText (rdAt (rdAt q).2).2 60).2).2 1000).2).1⟩,
    (rdHeads (rdNum (rdId (rdText (rdAt (rdAt q).2).2 60).2).2 1000).1 [] (rdNum (rdId (rdText (rdAt (rdAt q).2).2 60).2).2 1000).2).2)
section
variable {n k : Nat} {acc : List Head} {q : RSt} {H : List Head × RSt}
theorem heads_next (h : rdHeads (n - k) acc q = H) (hk : k < n) (hb : (rdHead q).2.2 = false) : rdHeads (n - (k + 1)) (acc ++ [(rdHead q).1]) (rdHead q).2 = H := by
  rw [show n - k = (n - (k + 1)) + 1 from by omega, rdHeads, hb] at h
  exact h
theorem heads_brk (h : rdHeads (n - k) acc q = H) (hk : k < n) (hb : (rdHead q).2.2 = true) : (acc ++ [(rdHead q).1], (rdHead q).2) = H := by
  rw [show n - k = (n - (k + 1)) + 1 from by omega, rdHeads, if_pos hb] at h
  exact h
theorem heads_end (h : rdHeads (n - k) acc q = H) (hk : n ≤ k) : (acc, q) = H := by
  rw [show n - k = 0 from by omega] at h
  exact h
end
def rdAts : Nat → List Stamp → RSt → List Stamp × RSt
  | 0, a, q => (a, q)
  | n + 1, a, q => rdAts n (a ++ [(rdAt q).1]) (rdAt q).2
section
variable {n k : Nat} {acc : List Stamp} {q : RSt} {H : List Stamp × RSt}
theorem ats_next (h : rdAts (n - k) acc q = H) (hk : k < n) : rdAts (n - (k + 1)) (acc ++ [(rdAt q).1]) (rdAt q).2 = H := by
  rw [show n - k = (n - (k + 1)) + 1 from by omega] at h
  exact h
theorem ats_end (h : rdAts (n - k) acc q = H) (hk : n ≤ k) : (acc, q) = H := by
  rw [show n - k = 0 from by omega] at h
  exact h
end
def zeroOpC : OpC := ⟨0, ⟨0, 0⟩, ⟨0, 0⟩, ⟨0, 0⟩, ByteArray.empty, zeroId, []⟩
/-- An operation, be it right or not. -/
def opRead (q : RSt) : OpC × RSt :=
  if (((rdNum q 2).1 : Nat) : Int) = 1 then
    (⟨((rdNum q 2).1 : Nat), (rdAt (rdNum q 2).2).1, (rdAt (rdAt (rdNum q 2).2).2).1, (rdAt (rdAt (rdAt (rdNum q 2).2).2).2).1, (rdText (rdAt (rdAt (rdAt (rdNum q 2).2).2).2).2 60).1, zeroId, []⟩, (rdText (rdAt (rdAt (rdAt (rdNum q 2).2).2).2).2 60).2)
  else
    (⟨((rdNum q 2).1 : Nat), (rdAt (rdNum q 2).2).1, (rdAt (rdAt (rdNum q 2).2).2).1, ⟨0, 0⟩, ByteArray.empty, (rdId (rdAt (rdAt (rdNum q 2).2).2).2).1,
      (rdAts (rdNum (rdId (rdAt (rdAt (rdNum q 2).2).2).2).2 64).1 [] (rdNum (rdId (rdAt (rdAt (rdNum q 2).2).2).2).2 64).2).1⟩, (rdAts (rdNum (rdId (rdAt (rdAt (rdNum q 2).2).2).2).2 64).1 [] (rdNum (rdId (rdAt (rdAt (rdNum q 2).2).2).2).2 64).2).2)
def rdOp (q : RSt) : OpC × RSt := if (opRead q).2.2 = false ∧ (opRead q).1.good = true then opRead q else (zeroOpC, ([], true))
section
variable {q rq : RSt} {x : OpC × RSt}
theorem op_ok (hx : opRead q = x) (h : x.2.2 = false ∧ x.1.good = true) : rdOp q = x := by
  subst hx; exact if_pos h
theorem op_fail (hx : opRead q = x) (h : x.2.2 = true ∨ x.1.good = false) : rdOp q = (zeroOpC, ([], true)) := by
  subst hx
  refine if_neg fun hh => ?_
  rcases h with h | h
  · rw [hh.1] at h; cases h
  · rw [hh.2] at h; cases h
theorem opRead_m (h : (((rdNum q 2).1 : Nat) : Int) = 1) : opRead q =
    (⟨((rdNum q 2).1 : Nat), (rdAt (rdNum q 2).2).1, (rdAt (rdAt (rdNum q 2).2).2).1, (rdAt (rdAt (rdAt (rdNum q 2).2).2).2).1, (rdText (rdAt (rdAt (rdAt (rdNum q 2).2).2).2).2 60).1, zeroId, []⟩, (rdText (rdAt (rdAt (rdAt (rdNum q 2).2).2).2).2 60).2) := if_pos h
theorem opRead_e {k : Nat} {acc : List Stamp} (h : ¬ (((rdNum q 2).1 : Nat) : Int) = 1) (hgo : rdAts ((rdNum (rdId (rdAt (rdAt (rdNum q 2).2).2).2).2 64).1 - k) acc rq = rdAts (rdNum (rdId (rdAt (rdAt (rdNum q 2).2).2).2).2 64).1 [] (rdNum (rdId (rdAt (rdAt (rdNum q 2).2).2).2).2 64).2)
    (hk : (rdNum (rdId (rdAt (rdAt (rdNum q 2).2).2).2).2 64).1 ≤ k) : opRead q = (⟨((rdNum q 2).1 : Nat), (rdAt (rdNum q 2).2).1, (rdAt (rdAt (rdNum q 2).2).2).1, ⟨0, 0⟩, ByteArray.empty, (rdId (rdAt (rdAt (rdNum q 2).2).2).2).1, acc⟩, rq) := by
  have e := ats_end hgo hk
  rw [opRead, if_neg h, ← e]
end
/-! ### Directories -/
def ItemC.toS (x : ItemC) : ItemS := { node := x.node, tm := x.tm, name := x.name, sub := x.sub, heads := x.heads, hh := nilH }
def dirOkC (l : List ItemC) : Bool := dirOk (l.map ItemC.toS)
theorem nth_map {α β : Type} [Inhabited α] [Inhabited β] (f : α → β) {l : List α} {i : Nat} (hi : i < l.length) : nth (l.map f) i = f (nth l i) := by
  rw [nth_eq (by simpa using hi), nth_eq hi, List.getElem_map]
theorem dirOk_core (l : List ItemS) : dirOk l = dirOkC (l.map ItemS.core) := by
  unfold dirOkC dirOk
  rw [decide_eq_decide, List.map_map, List.length_map]
  refine and_congr Iff.rfl (forall_congr' fun i => ?_)
  refine imp_congr_right fun hi => ?_
  rw [nth_map _ hi, nth_map _ (by omega : i - 1 < l.length)]
  exact Iff.rfl
def rdItems : Nat → List ItemC → RSt → List ItemC × RSt
  | 0, a, q => (a, q)
  | n + 1, a, q => if (rdItem q).2.2 = true then (a ++ [(rdItem q).1], (rdItem q).2) else rdItems n (a ++ [(rdItem q).1]) (rdItem q).2
def dirRd (b : List UInt8) : List ItemC × RSt := rdItems (rdNum (openSt b 2) 1000).1 [] (rdNum (openSt b 2) 1000).2
def dirOf (b : List UInt8) : List ItemC × Int := if rdDone (dirRd b).2 = true ∧ dirOkC (dirRd b).1 = true then ((dirRd b).1, 0) else ([], 20)
section
variable {n k : Nat} {acc : List ItemS} {q : RSt} {H : List ItemC × RSt} {x : ItemS} {b : List UInt8}
theorem items_next (h : rdItems (n - k) (acc.map ItemS.core) q = H) (hk : k < n) (hx : x.core = (rdItem q).1) (hb : (rdItem q).2.2 = false) : rdItems (n - (k + 1)) ((acc ++ [x]).map ItemS.core) (rdItem q).2 = H := by
  rw [show n - k = (n - (k + 1)) + 1 from by omega, rdItems, hb] at h
  rw [List.map_append, List.map_singleton, hx]
  exact h
theorem items_brk (h : rdItems (n - k) (acc.map ItemS.core) q = H) (hk : k < n) (hx : x.core = (rdItem q).1) (hb : (rdItem q).2.2 = true) : ((acc ++ [x]).map ItemS.core, (rdItem q).2) = H := by
  rw [show n - k = (n - (k + 1)) + 1 from by omega, rdItems, if_pos hb] at h
  rw [List.map_append, List.map_singleton, hx]
  exact h
theorem items_end (h : rdItems (n - k) (acc.map ItemS.core) q = H) (hk : n ≤ k) : (acc.map ItemS.core, q) = H := by
  rw [show n - k = 0 from by omega] at h
  exact h
theorem dir_no {l : List ItemS} (h : (l.map ItemS.core, q) = dirRd b) (hb : rdDone q = false ∨ dirOk l = false) : (([] : List ItemS).map ItemS.core, (20 : Int)) = dirOf b := by
  unfold dirOf
  rw [← h, if_neg]
  · rfl
  · rintro ⟨h1, h2⟩
    rw [← dirOk_core] at h2
    rcases hb with hb | hb
    · rw [h1] at hb; cases hb
    · rw [h2] at hb; cases hb
theorem dir_yes {l : List ItemS} (h : (l.map ItemS.core, q) = dirRd b) (hb : rdDone q = true ∧ dirOk l = true) : (l.map ItemS.core, (0 : Int)) = dirOf b := by
  unfold dirOf
  rw [← h, if_pos ⟨hb.1, by rw [← dirOk_core]; exact hb.2⟩]
end
/-! ### Commits -/
structure ChangeC where
  parents : List ID
  time : Int
  r : Int
  ops : List OpC
  tree : ID
  msg : ByteArray
  deriving DecidableEq, Inhabited
def ChangeS.core (c : ChangeS) : ChangeC := ⟨c.parents, c.time, c.r, c.ops.map OpS.core, c.tree, c.msg⟩
def OpC.toS (o : OpC) : OpS := { kind := o.kind, tm := o.tm, node := o.node, par := o.par, name := o.name, data := o.data, over := o.over, oh := nilH }
def ChangeC.toS (c : ChangeC) : ChangeS := { parents := c.parents, ph := nilH, time := c.time, r := c.r, ops := c.ops.map OpC.toS, oh := nilH, tree := c.tree, msg := c.msg }
def changeOkC (c : ChangeC) : Bool := changeOk c.toS
theorem riseBy_map {α β : Type} [Inhabited α] [Inhabited β] (f : α → β) (g : β → β → Int) (l : List α) : riseBy g (l.map f) = riseBy (fun a b => g (f a) (f b)) l := by
  unfold riseBy
  rw [decide_eq_decide, List.length_map]
  refine forall_congr' fun i => imp_congr_right fun hi => ?_
  rw [nth_map _ hi, nth_map _ (by omega : i - 1 < l.length)]
theorem changeOk_core (c : ChangeS) : changeOk c = changeOkC c.core := by
  unfold changeOkC changeOk
  rw [decide_eq_decide]
  have e : c.core.toS.ops = c.ops.map (fun o => o.core.toS) := by simp [ChangeS.core, ChangeC.toS, Function.comp_def]
  have e1 : c.core.toS.ops.length = c.ops.length := by rw [e, List.length_map]
  have e2 : (c.core.toS.ops.any fun x => !ownOp c.core.toS.time c.core.toS.r x) = c.ops.any fun x => !ownOp c.time c.r x := by
    rw [e, List.any_map]; rfl
  have e3 : riseBy (fun (a b : OpS) => cmpSt a.tm b.tm) c.core.toS.ops = riseBy (fun (a b : OpS) => cmpSt a.tm b.tm) c.ops := by
    rw [e, riseBy_map]; rfl
  rw [e1, e2, e3]
  exact Iff.rfl
def rdIds : Nat → List ID → RSt → List ID × RSt
  | 0, a, q => (a, q)
  | n + 1, a, q => rdIds n (a ++ [(rdId q).1]) (rdId q).2
def rdOps : Nat → List OpC → RSt → List OpC × RSt
  | 0, a, q => (a, q)
  | n + 1, a, q => rdOps n (a ++ [(rdOp q).1]) (rdOp q).2
/-- The bytes behind the parents. -/
def changeRest (P : List ID × RSt) (O : List OpC × RSt) : ChangeC × RSt :=
  (⟨P.1, ((rdNum P.2 1099511627776).1 : Nat), ((rdNum (rdNum P.2 1099511627776).2 65536).1 : Nat), O.1, (rdId O.2).1, (rdText (rdId O.2).2 200).1⟩, (rdText (rdId O.2).2 200).2)
def changePar (b : List UInt8) : List ID × RSt := rdIds (rdNum (openSt b 3) 2).1 [] (rdNum (openSt b 3) 2).2
def changeOps (q : RSt) : List OpC × RSt := rdOps (rdNum (rdNum (rdNum q 1099511627776).2 65536).2 64).1 [] (rdNum (rdNum (rdNum q 1099511627776).2 65536).2 64).2
def changeRd (b : List UInt8) : ChangeC × RSt := changeRest (changePar b) (changeOps (changePar b).2)
def zeroChange : ChangeC := ⟨[], 0, 0, [], zeroId, ByteArray.empty⟩
def changeOf (b : List UInt8) : ChangeC × Int := if rdDone (changeRd b).2 = true ∧ changeOkC (changeRd b).1 = true then ((changeRd b).1, 0) else (zeroChange, 20)
section
variable {n k : Nat} {q rq rq2 : RSt} {b : List UInt8} {pacc : List ID} {oacc : List OpS} {x : OpS} {HI : List ID × RSt} {HO : List OpC × RSt}
theorem ids_next (h : rdIds (n - k) pacc q = HI) (hk : k < n) : rdIds (n - (k + 1)) (pacc ++ [(rdId q).1]) (rdId q).2 = HI := by
  rw [show n - k = (n - (k + 1)) + 1 from by omega] at h
  exact h
theorem ids_end (h : rdIds (n - k) pacc q = HI) (hk : n ≤ k) : (pacc, q) = HI := by
  rw [show n - k = 0 from by omega] at h
  exact h
theorem ops_next (h : rdOps (n - k) (oacc.map OpS.core) q = HO) (hk : k < n) (hx : x.core = (rdOp q).1) : rdOps (n - (k + 1)) ((oacc ++ [x]).map OpS.core) (rdOp q).2 = HO := by
  rw [show n - k = (n - (k + 1)) + 1 from by omega] at h
  rw [List.map_append, List.map_singleton, hx]
  exact h
theorem ops_end (h : rdOps (n - k) (oacc.map OpS.core) q = HO) (hk : n ≤ k) : (oacc.map OpS.core, q) = HO := by
  rw [show n - k = 0 from by omega] at h
  exact h
theorem change_rd (hP : (pacc, rq) = changePar b) (hO : (oacc.map OpS.core, rq2) = changeOps rq) : changeRest (pacc, rq) (oacc.map OpS.core, rq2) = changeRd b := by
  rw [changeRd, ← hP, hO]
theorem change_no {X : ChangeS} (hb : rdDone q = false ∨ changeOk X = false) (h : (X.core, q) = changeRd b) : (zeroChange, (20 : Int)) = changeOf b := by
  unfold changeOf
  rw [← h, if_neg]
  rintro ⟨h1, h2⟩
  rw [← changeOk_core] at h2
  rcases hb with hb | hb
  · rw [h1] at hb; cases hb
  · rw [h2] at hb; cases hb
theorem change_yes {X : ChangeS} (hb : rdDone q = true ∧ changeOk X = true) (h : (X.core, q) = changeRd b) : (X.core, (0 : Int)) = changeOf b := by
  unfold changeOf
  rw [← h, if_pos ⟨hb.1, by rw [← changeOk_core]; exact hb.2⟩]
end
/-! ### Kinds -/
def kindOf (b : List UInt8) : Int :=
  if b.length = 0 then 0
  else if (nth b 0).toNat = 1 then (if blobE b = 0 then 1 else 0)
  else if (nth b 0).toNat = 2 then (if (dirOf b).2 = 0 then 2 else 0)
  else if (nth b 0).toNat = 3 then (if (changeOf b).2 = 0 then 3 else 0)
  else if (nth b 0).toNat = 4 then (if (labelOf b).2 = 0 then 4 else 0)
  else 0
section
variable {b : List UInt8}
theorem kind_0 (h : ((b.length : Nat) : Int) = 0) : kindOf b = 0 := if_pos (by omega)
theorem kind_1 (h : ¬ ((b.length : Nat) : Int) = 0) (h1 : ((nth b 0).toNat : Int) = 1) : kindOf b = if blobE b = 0 then 1 else 0 := by
  rw [kindOf, if_neg (by omega), if_pos (by omega)]
theorem kind_2 (h : ¬ ((b.length : Nat) : Int) = 0) (h1 : ¬ ((nth b 0).toNat : Int) = 1) (h2 : ((nth b 0).toNat : Int) = 2) : kindOf b = if (dirOf b).2 = 0 then 2 else 0 := by
  rw [kindOf, if_neg (by omega), if_neg (by omega), if_pos (by omega)]
theorem kind_3 (h : ¬ ((b.length : Nat) : Int) = 0) (h1 : ¬ ((nth b 0).toNat : Int) = 1) (h2 : ¬ ((nth b 0).toNat : Int) = 2) (h3 : ((nth b 0).toNat : Int) = 3) : kindOf b = if (changeOf b).2 = 0 then 3 else 0 := by
  rw [kindOf, if_neg (by omega), if_neg (by omega), if_neg (by omega), if_pos (by omega)]
theorem kind_4 (h : ¬ ((b.length : Nat) : Int) = 0) (h1 : ¬ ((nth b 0).toNat : Int) = 1) (h2 : ¬ ((nth b 0).toNat : Int) = 2) (h3 : ¬ ((nth b 0).toNat : Int) = 3) (h4 : ((nth b 0).toNat : Int) = 4) : kindOf b = if (labelOf b).2 = 0 then 4 else 0 := by
  rw [kindOf, if_neg (by omega), if_neg (by omega), if_neg (by omega), if_neg (by omega), if_pos (by omega)]
theorem kind_5 (h : ¬ ((b.length : Nat) : Int) = 0) (h1 : ¬ ((nth b 0).toNat : Int) = 1) (h2 : ¬ ((nth b 0).toNat : Int) = 2) (h3 : ¬ ((nth b 0).toNat : Int) = 3) (h4 : ¬ ((nth b 0).toNat : Int) = 4) : kindOf b = 0 := by
  rw [kindOf, if_neg (by omega), if_neg (by omega), if_neg (by omega), if_neg (by omega), if_neg (by omega)]
end
theorem take_snoc {α : Type} [Inhabited α] {l : List α} {k : Nat} (hk : k < l.length) : l.take (k + 1) = l.take k ++ [nth l k] := by
  rw [List.take_succ_eq_append_getElem hk, nth_eq hk]
/-- The bits of a byte. -/
def lenTab : ByteArray := ⟨#[0, 1, 2, 2, 3, 3, 3, 3, 4, 4, 4, 4, 4, 4, 4, 4, 5, 5, 5, 5, 5, 5, 5, 5, 5, 5, 5, 5, 5, 5, 5, 5, 6, 6, 6, 6, 6, 6, 6, 6, 6, 6, 6, 6, 6, 6, 6, 6, 6, 6, 6, 6, 6, 6, 6, 6, 6, 6, 6, 6, 6, 6, 6, 6, 7, 7, 7, 7, 7, 7, 7, 7, 7, 7, 7, 7, 7, 7, 7, 7, 7, 7, 7, 7, 7, 7, 7, 7, 7, 7, 7, 7, 7, 7, 7, 7, 7, 7, 7, 7, 7, 7, 7, 7, 7, 7, 7, 7, 7, 7, 7, 7, 7, 7, 7, 7, 7, 7, 7, 7, 7, 7, 7, 7, 7, 7, 7, 7, 8, 8, 8, 8, 8, 8, 8, 8, 8, 8, 8, 8, 8, 8, 8, 8, 8, 8, 8, 8, 8, 8, 8, 8, 8, 8, 8, 8, 8, 8, 8, 8, 8, 8, 8, 8, 8, 8, 8, 8, 8, 8, 8, 8, 8, 8, 8, 8, 8, 8, 8, 8, 8, 8, 8, 8, 8, 8, 8, 8, 8, 8, 8, 8, 8, 8, 8, 8, 8, 8, 8, 8, 8, 8, 8, 8, 8, 8, 8, 8, 8, 8, 8, 8, 8, 8, 8, 8, 8, 8, 8, 8, 8, 8, 8, 8, 8, 8, 8, 8, 8, 8, 8, 8, 8, 8, 8, 8, 8, 8, 8, 8, 8, 8, 8, 8, 8, 8, 8, 8, 8, 8, 8, 8, 8, 8, 8, 8]⟩
set_option maxRecDepth 10000 in
theorem len01 {x : Nat} (h : x ≤ 1) : Value.int .i64 (0 + ((sbyte lenTab (UInt8.ofNat x).toNat).toNat : Int)) = Value.int .i64 ((x : Nat) : Int) := by
  have : x = 0 ∨ x = 1 := by omega
  rcases this with rfl | rfl <;> rfl
/-! ### What an object names, each time that it does -/
def itemIds (x : ItemC) : List ID := x.sub :: x.heads.map (·.data)
def linksRaw (b : List UInt8) : List ID :=
  if kindOf b = 2 then ((dirOf b).1.map itemIds).flatten
  else if kindOf b = 3 then (changeOf b).1.parents ++ [(changeOf b).1.tree] ++ (changeOf b).1.ops.map (·.data)
  else if kindOf b = 4 then [(labelOf b).1.target]
  else []
def links1 (b : List UInt8) : List ID := (linksRaw b).filter (fun x => !decide (x = zeroId))
def rawTo (l : List ItemC) (k : Nat) : List ID := ((l.take k).map itemIds).flatten
section
variable {b : List UInt8} {acc acc2 : List ID} {l : List ItemS} {k j : Nat} {e : Int}
theorem flat_le {α : Type} : ∀ (l : List (List α)) (k : Nat), ((l.take k).flatten).length ≤ l.flatten.length
  | [], k => by simp
  | x :: l, 0 => by simp
  | x :: l, k + 1 => by
    have := flat_le l k
    simp only [List.take_succ_cons, List.flatten_cons, List.length_append]
    omega
theorem rawTo_succ {l : List ItemC} {k : Nat} (hk : k < l.length) : rawTo l (k + 1) = rawTo l k ++ itemIds (nth l k) := by
  unfold rawTo
  rw [List.take_succ_eq_append_getElem hk, List.map_append, List.flatten_append, nth_eq hk]
  simp
theorem rawTo_le (l : List ItemC) (k : Nat) : (rawTo l k).length ≤ (rawTo l l.length).length := by
  unfold rawTo
  rw [List.take_length, List.map_take]
  exact flat_le _ _
theorem links_dir (hk : kindOf b = 2) (hr : (l.map ItemS.core, e) = dirOf b) : linksRaw b = rawTo (l.map ItemS.core) (l.map ItemS.core).length := by
  rw [linksRaw, if_pos hk, ← congrArg Prod.fst hr, rawTo, List.take_length]
/-- Ahead of an item's heads. -/
theorem links_in (hk : kindOf b = 2) (hr : (l.map ItemS.core, e) = dirOf b) (ha : acc = rawTo (l.map ItemS.core) k) (hlt : k < l.length) (h1 : (linksRaw b).length ≤ 1) :
    acc = [] ∧ (nth l k).heads = [] := by
  have e1 := links_dir hk hr
  have h2 := rawTo_succ (l := l.map ItemS.core) (k := k) (by simpa using hlt)
  have h3 := rawTo_le (l.map ItemS.core) (k + 1)
  rw [h2, ← e1, List.length_append, nth_map _ hlt, itemIds, List.length_cons, List.length_map] at h3
  exact ⟨by rw [ha]; exact List.length_eq_zero_iff.1 (by omega), List.length_eq_zero_iff.1 (by show (nth l k).core.heads.length = 0; omega)⟩
theorem raw_ge : ∀ (l : List ItemC), l.length ≤ ((l.map itemIds).flatten).length
  | [] => by simp
  | x :: l => by
    have := raw_ge l
    simp only [List.map_cons, List.flatten_cons, List.length_append, List.length_cons, itemIds]
    omega
theorem links_len (hk : kindOf b = 2) (hr : (l.map ItemS.core, e) = dirOf b) (h1 : (linksRaw b).length ≤ 1) : l.length ≤ 1 := by
  rw [links_dir hk hr, rawTo, List.take_length] at h1
  have := raw_ge (l.map ItemS.core)
  rw [List.length_map] at this
  omega
theorem links_step (ha : acc = rawTo (l.map ItemS.core) k) (hlt : k < l.length) (hh : (nth l k).heads = []) : acc ++ [(nth l k).sub] = rawTo (l.map ItemS.core) (k + 1) := by
  rw [rawTo_succ (by simpa using hlt), nth_map _ hlt, ha, itemIds]
  show _ = _ ++ (_ :: ((nth l k).heads).map _)
  rw [hh]; rfl
theorem links_chg {X : ChangeS} (hk : kindOf b = 3) (hr : (X.core, e) = changeOf b) : linksRaw b = X.parents ++ [X.tree] ++ X.ops.map (·.data) := by
  rw [linksRaw, if_neg (by omega), if_pos hk, ← congrArg Prod.fst hr]
  show _ ++ (X.ops.map OpS.core).map _ = _
  rw [List.map_map]; rfl
theorem links_one {X : ChangeS} (hk : kindOf b = 3) (hr : (X.core, e) = changeOf b) (h1 : (linksRaw b).length ≤ 1) : X.parents = [] ∧ X.ops = [] := by
  rw [links_chg hk hr] at h1
  simp only [List.length_append, List.length_map, List.length_cons, List.length_nil] at h1
  exact ⟨List.length_eq_zero_iff.1 (by omega), List.length_eq_zero_iff.1 (by omega)⟩
theorem links_chgE {X : ChangeS} (hk : kindOf b = 3) (hr : (X.core, e) = changeOf b) (ha : acc = X.parents ++ [X.tree]) (h1 : X.ops = []) : acc = linksRaw b := by
  rw [links_chg hk hr, ha, h1]; simp
theorem links_dirE (hk : kindOf b = 2) (hr : (l.map ItemS.core, e) = dirOf b) (ha : acc = rawTo (l.map ItemS.core) k) (he : k = l.length) : acc = linksRaw b := by
  rw [links_dir hk hr, ha, he, List.length_map]
theorem lenraw (h : acc = linksRaw b) (h1 : (linksRaw b).length ≤ 1) : acc.length ≤ 1 := by rw [h]; exact h1
theorem links_lab (hk : kindOf b = 4) : linksRaw b = [(labelOf b).1.target] := by
  rw [linksRaw, if_neg (by omega), if_neg (by omega), if_pos hk]
theorem links_none (h2 : ¬ kindOf b = 2) (h3 : ¬ kindOf b = 3) (h4 : ¬ kindOf b = 4) : linksRaw b = [] := by
  rw [linksRaw, if_neg h2, if_neg h3, if_neg h4]
theorem links_z (hr : acc = linksRaw b) (h1 : (linksRaw b).length ≤ 1) (hz : (0 : Int) < ((acc.length : Nat) : Int) ∧ nth acc 0 = zeroId) : acc.drop 1 = links1 b := by
  subst hr
  unfold links1
  match h : linksRaw b, h1, hz with
  | [x], _, hz => rw [List.filter_cons_of_neg (by have h0 : x = zeroId := hz.2; simp [h0])]; rfl
  | [], _, hz => rfl
theorem links_n (hr : acc = linksRaw b) (h1 : (linksRaw b).length ≤ 1) (hz : ¬ (0 : Int) < ((acc.length : Nat) : Int) ∨ ¬ nth acc 0 = zeroId) : acc = links1 b := by
  subst hr
  unfold links1
  match h : linksRaw b, h1, hz with
  | [x], _, hz =>
    rcases hz with hz | hz
    · simp at hz
    · rw [List.filter_cons_of_pos (by have h0 : ¬ x = zeroId := hz; simp [h0])]; rfl
  | [], _, hz => rfl
end
end Go.Proofs.YthjdhfoeckfmbaaGreat
namespace Go.Proofs.YthjdhfoeckfmbaaGreat
open Go
set_option maxRecDepth 100000
set_option linter.unusedVariables false
set_option linter.unusedSimpArgs false
set_option linter.unusedSectionVars false
theorem stamp_Get_c46 : callable Tryz.prog 46 = true := by kernel_rfl
theorem stamp_Get_c48 : callable Tryz.prog 48 = true := by kernel_rfl
theorem stamp_Get_c63 : callable Tryz.prog 63 = true := by kernel_rfl
theorem stamp_Get_c65 : callable Tryz.prog 65 = true := by kernel_rfl
theorem stamp_Get_c87 : callable Tryz.prog 87 = true := by kernel_rfl
theorem stamp_Get_c97 : callable Tryz.prog 97 = true := by kernel_rfl
theorem stamp_Get_c106 : callable Tryz.prog 106 = true := by kernel_rfl
set_option maxHeartbeats 2000000 in
theorem stamp_Get (br : Nat) (r : RdS) (Sr : Nat → Prop) (q : List UInt8 × Bool) (w : World) (Qr : RdQ 132 br Sr r w) (Er : r.st = q) :
    Calls Tryz.prog 64 #[(.pointer (some ⟨br, 0, none⟩))] w (Ret fun v w' => ∃ (r' : RdS) (X : OpS), v = opV X ∧ Gr (fun c => c = br) w w' ∧ RdQ 132 br Sr r' w' ∧ r'.st = (rdOp q).2 ∧ OwnS w.heap.size 69 2 stampCh X.oh X.over w' ∧ (X.core = (rdOp q).1)) := by
 refine calls_W Tryz.func64 rfl Tryz.ntmps64 rfl ?_
 have H0 := Qr
 refine W_seq (W_reg ?_)
 refine O_v rfl (C_alloc H0 [[(.int .i64 0)], [(.int .i64 0)], [(.int .i64 0)], [(.int .i64 0)], [(.int .i64 0)], [(.int .i64 0)], [(.int .i64 0)], [(.string ByteArray.empty)], (idCells zeroId), [(.slice none 0 0)]] Tryz.zeroValue72 ?_)
 intro b1 w2 hb3 hx4 H5
 refine O_nil (Then_n (W_seq (W_reg ?_)))
 refine O_v rfl (R_move (v := (.pointer (some ⟨br, 0, none⟩))) rfl ?_)
 refine O_v rfl (R_callL (vs := [(.pointer (some ⟨br, 0, none⟩)), (.int .i64 2)]) stamp_Get_c46 rfl rfl ((Reader_Num br r Sr q 2 w2 ((H5.pick (B' := [boxR br 132 (rdCh r)]) (I' := [slI Sr encB 1 r.bh r.b]) [1] (by decide) rfl (List.forall_mem_cons.2 ⟨List.mem_of_getElem? (i := 0) rfl, fun _ h => (nomatch h)⟩)).rdStart) Er).ret ?_))
 rintro _ w7 ⟨r6, rfl, hg8, hQ9, hr10⟩
 have H11 := H5.rdUpd (r := r) 1 0 rfl rfl hg8 hQ9
 refine O_v rfl (R_buildL (vs := [(0, (.int .i64 ((((rdNum q 2).1) : Nat) : Int)))]) (v := aggOf [[(.int .i64 ((((rdNum q 2).1) : Nat) : Int))], [(.int .i64 0)], [(.int .i64 0)], [(.int .i64 0)], [(.int .i64 0)], [(.int .i64 0)], [(.int .i64 0)], [(.string ByteArray.empty)], (idCells zeroId), [(.slice none 0 0)]]) rfl (fun _ => by kernel_rfl) ?_)
 refine O_v rfl (C_alloc H11 [[(.int .i64 0)], [(.int .i64 0)], [(.int .i64 0)], [(.int .i64 0)], [(.int .i64 0)], [(.int .i64 0)], [(.int .i64 0)], [(.string ByteArray.empty)], (idCells zeroId), [(.slice none 0 0)]] Tryz.zeroValue72 ?_)
 intro b12 w13 hb14 hx15 H16
 refine O_u (C_storeA H16 0 rfl 0 (sub := [[(.int .i64 ((((rdNum q 2).1) : Nat) : Int))], [(.int .i64 0)], [(.int .i64 0)], [(.int .i64 0)], [(.int .i64 0)], [(.int .i64 0)], [(.int .i64 0)], [(.string ByteArray.empty)], (idCells zeroId), [(.slice none 0 0)]]) [[(.int .i64 ((((rdNum q 2).1) : Nat) : Int))], [(.int .i64 0)], [(.int .i64 0)], [(.int .i64 0)], [(.int .i64 0)], [(.int .i64 0)], [(.int .i64 0)], [(.string ByteArray.empty)], (idCells zeroId), [(.slice none 0 0)]] Tryz.sizeOf72 rfl rfl rfl rfl ⟨[[(.int .i64 0)], [(.int .i64 0)], [(.int .i64 0)], [(.int .i64 0)], [(.int .i64 0)], [(.int .i64 0)], [(.int .i64 0)], [(.string ByteArray.empty)], (idCells zeroId), [(.slice none 0 0)]], [], rfl, rfl, rfl⟩ rfl ?_)
 intro w17 hg18 H19
 refine O_nil (Then_n (W_seq (W_reg ?_)))
 refine O_v rfl (R_move (v := (.pointer (some ⟨br, 0, none⟩))) rfl ?_)
 refine O_v rfl (R_callL (vs := [(.pointer (some ⟨br, 0, none⟩))]) stamp_Get_c106 rfl rfl ((stamp_get br r6 Sr ((rdNum q 2).2) w17 ((H19.pick (B' := [boxR br 132 (rdCh r6)]) (I' := [slI Sr encB 1 r6.bh r6.b]) [2] (by decide) rfl (List.forall_mem_cons.2 ⟨List.mem_of_getElem? (i := 0) rfl, fun _ h => (nomatch h)⟩)).rdStart) hr10).ret ?_))
 rintro _ w21 ⟨r20, rfl, hg22, hQ23, hr24⟩
 have H25 := H19.rdUpd (r := r6) 2 0 rfl rfl hg22 hQ23
 refine O_v rfl (R_fieldAddr (off := 1) (oo := 1) Tryz.underlying72 rfl rfl Tryz.sizeOf69 rfl rfl ?_)
 refine O_u (C_storeA H25 0 rfl 1 (sub := [[(.int .i64 (((rdAt ((rdNum q 2).2)).1).T))], [(.int .i64 (((rdAt ((rdNum q 2).2)).1).R))]]) [[(.int .i64 ((((rdNum q 2).1) : Nat) : Int))], [(.int .i64 (((rdAt ((rdNum q 2).2)).1).T))], [(.int .i64 (((rdAt ((rdNum q 2).2)).1).R))], [(.int .i64 0)], [(.int .i64 0)], [(.int .i64 0)], [(.int .i64 0)], [(.string ByteArray.empty)], (idCells zeroId), [(.slice none 0 0)]] Tryz.sizeOf69 rfl rfl rfl rfl ⟨[[(.int .i64 0)], [(.int .i64 0)]], [[(.int .i64 0)], [(.int .i64 0)], [(.int .i64 0)], [(.int .i64 0)], [(.string ByteArray.empty)], (idCells zeroId), [(.slice none 0 0)]], rfl, rfl, rfl⟩ rfl ?_)
 intro w26 hg27 H28
 refine O_nil (Then_n (W_seq (W_reg ?_)))
 refine O_v rfl (R_move (v := (.pointer (some ⟨br, 0, none⟩))) rfl ?_)
 refine O_v rfl (R_callL (vs := [(.pointer (some ⟨br, 0, none⟩))]) stamp_Get_c106 rfl rfl ((stamp_get br r20 Sr ((rdAt ((rdNum q 2).2)).2) w26 ((H28.pick (B' := [boxR br 132 (rdCh r20)]) (I' := [slI Sr encB 1 r20.bh r20.b]) [2] (by decide) rfl (List.forall_mem_cons.2 ⟨List.mem_of_getElem? (i := 0) rfl, fun _ h => (nomatch h)⟩)).rdStart) hr24).ret ?_))
 rintro _ w30 ⟨r29, rfl, hg31, hQ32, hr33⟩
 have H34 := H28.rdUpd (r := r20) 2 0 rfl rfl hg31 hQ32
 refine O_v rfl (R_fieldAddr (off := 3) (oo := 3) Tryz.underlying72 rfl rfl Tryz.sizeOf69 rfl rfl ?_)
 refine O_u (C_storeA H34 0 rfl 3 (sub := [[(.int .i64 (((rdAt ((rdAt ((rdNum q 2).2)).2)).1).T))], [(.int .i64 (((rdAt ((rdAt ((rdNum q 2).2)).2)).1).R))]]) [[(.int .i64 ((((rdNum q 2).1) : Nat) : Int))], [(.int .i64 (((rdAt ((rdNum q 2).2)).1).T))], [(.int .i64 (((rdAt ((rdNum q 2).2)).1).R))], [(.int .i64 (((rdAt ((rdAt ((rdNum q 2).2)).2)).1).T))], [(.int .i64 (((rdAt ((rdAt ((rdNum q 2).2)).2)).1).R))], [(.int .i64 0)], [(.int .i64 0)], [(.string ByteArray.empty)], (idCells zeroId), [(.slice none 0 0)]] Tryz.sizeOf69 rfl rfl rfl rfl ⟨[[(.int .i64 0)], [(.int .i64 0)]], [[(.int .i64 0)], [(.int .i64 0)], [(.string ByteArray.empty)], (idCells zeroId), [(.slice none 0 0)]], rfl, rfl, rfl⟩ rfl ?_)
 intro w35 hg36 H37
 refine O_nil (Then_n (W_seq (W_seq (W_reg ?_))))
 refine O_v rfl (R_fieldAddr (off := 0) (oo := 0) Tryz.underlying72 rfl rfl Tryz.sizeOf3 rfl rfl ?_)
 refine O_v rfl (R_load1 (v := (.int .i64 ((((rdNum q 2).1) : Nat) : Int))) Tryz.isAgg3 rfl ((boxR_at (H37.getOwn 0 rfl)).chunks 0 1 0 0 _ rfl rfl rfl) ?_)
 refine O_v rfl (R_cmp (a := ((((rdNum q 2).1) : Nat) : Int)) (b := 1) (r := (decide (((((rdNum q 2).1) : Nat) : Int) = 1))) rfl rfl rfl ?_)
 refine O_nil (Then_n ?_)
 refine W_cond (t := (decide (((((rdNum q 2).1) : Nat) : Int) = 1))) rfl (fun hc38 => ?_) (fun hc38 => ?_)
 ·have hc38 : (((((rdNum q 2).1) : Nat) : Int) = 1) := (of_decide_eq_true hc38)
  have hK := hc38
  refine W_seq (W_reg ?_)
  refine O_v rfl (R_move (v := (.pointer (some ⟨br, 0, none⟩))) rfl ?_)
  refine O_v rfl (R_callL (vs := [(.pointer (some ⟨br, 0, none⟩))]) stamp_Get_c106 rfl rfl ((stamp_get br r29 Sr ((rdAt ((rdAt ((rdNum q 2).2)).2)).2) w35 ((H37.pick (B' := [boxR br 132 (rdCh r29)]) (I' := [slI Sr encB 1 r29.bh r29.b]) [2] (by decide) rfl (List.forall_mem_cons.2 ⟨List.mem_of_getElem? (i := 0) rfl, fun _ h => (nomatch h)⟩)).rdStart) hr33).ret ?_))
  rintro _ w40 ⟨r39, rfl, hg41, hQ42, hr43⟩
  have H44 := H37.rdUpd (r := r29) 2 0 rfl rfl hg41 hQ42
  refine O_v rfl (R_fieldAddr (off := 5) (oo := 5) Tryz.underlying72 rfl rfl Tryz.sizeOf69 rfl rfl ?_)
  refine O_u (C_storeA H44 0 rfl 5 (sub := [[(.int .i64 (((rdAt ((rdAt ((rdAt ((rdNum q 2).2)).2)).2)).1).T))], [(.int .i64 (((rdAt ((rdAt ((rdAt ((rdNum q 2).2)).2)).2)).1).R))]]) [[(.int .i64 ((((rdNum q 2).1) : Nat) : Int))], [(.int .i64 (((rdAt ((rdNum q 2).2)).1).T))], [(.int .i64 (((rdAt ((rdNum q 2).2)).1).R))], [(.int .i64 (((rdAt ((rdAt ((rdNum q 2).2)).2)).1).T))], [(.int .i64 (((rdAt ((rdAt ((rdNum q 2).2)).2)).1).R))], [(.int .i64 (((rdAt ((rdAt ((rdAt ((rdNum q 2).2)).2)).2)).1).T))], [(.int .i64 (((rdAt ((rdAt ((rdAt ((rdNum q 2).2)).2)).2)).1).R))], [(.string ByteArray.empty)], (idCells zeroId), [(.slice none 0 0)]] Tryz.sizeOf69 rfl rfl rfl rfl ⟨[[(.int .i64 0)], [(.int .i64 0)]], [[(.string ByteArray.empty)], (idCells zeroId), [(.slice none 0 0)]], rfl, rfl, rfl⟩ rfl ?_)
  intro w45 hg46 H47
  refine O_nil (Then_n (W_reg ?_))
  refine O_v rfl (R_move (v := (.pointer (some ⟨br, 0, none⟩))) rfl ?_)
  refine O_v rfl (R_callL (vs := [(.pointer (some ⟨br, 0, none⟩)), (.int .i64 60)]) stamp_Get_c65 rfl rfl ((Reader_Text br r39 Sr ((rdAt ((rdAt ((rdAt ((rdNum q 2).2)).2)).2)).2) 60 w45 ((H47.pick (B' := [boxR br 132 (rdCh r39)]) (I' := [slI Sr encB 1 r39.bh r39.b]) [2] (by decide) rfl (List.forall_mem_cons.2 ⟨List.mem_of_getElem? (i := 0) rfl, fun _ h => (nomatch h)⟩)).rdStart) hr43).ret ?_))
  rintro _ w49 ⟨r48, rfl, hg50, hQ51, hr52⟩
  have H53 := H47.rdUpd (r := r39) 2 0 rfl rfl hg50 hQ51
  refine O_v rfl (R_fieldAddr (off := 7) (oo := 7) Tryz.underlying72 rfl rfl Tryz.sizeOf9 rfl rfl ?_)
  refine O_u (C_store1 H53 0 rfl 7 (v := (.string ((rdText ((rdAt ((rdAt ((rdAt ((rdNum q 2).2)).2)).2)).2) 60).1))) [[(.int .i64 ((((rdNum q 2).1) : Nat) : Int))], [(.int .i64 (((rdAt ((rdNum q 2).2)).1).T))], [(.int .i64 (((rdAt ((rdNum q 2).2)).1).R))], [(.int .i64 (((rdAt ((rdAt ((rdNum q 2).2)).2)).1).T))], [(.int .i64 (((rdAt ((rdAt ((rdNum q 2).2)).2)).1).R))], [(.int .i64 (((rdAt ((rdAt ((rdAt ((rdNum q 2).2)).2)).2)).1).T))], [(.int .i64 (((rdAt ((rdAt ((rdAt ((rdNum q 2).2)).2)).2)).1).R))], [(.string ((rdText ((rdAt ((rdAt ((rdAt ((rdNum q 2).2)).2)).2)).2) 60).1))], (idCells zeroId), [(.slice none 0 0)]] Tryz.sizeOf9 rfl rfl rfl rfl rfl rfl rfl ?_)
  intro w54 hg55 H56
  refine O_nil (Then_n (W_seq (W_seq ?_)))
  refine W_rgM (fun c => c = br) (fun i => if i == 1 then 1 else 0) [(0, .q 2), (1, .c 1), (2, .q 2), (3, .q 2), (4, .q 1), (5, .q 0), (6, .q 2), (7, .q 2)] (by kernel_rfl) ?_
  refine Lx_q (i := 0) rfl rfl _ (fun v57 hv58 => R_move (v := (.pointer (some ⟨br, 0, none⟩))) rfl ⟨rfl, Gr.refl _ _⟩) ?_
  refine Lx_c (i := 1) rfl rfl (fun w59 hw60 => ?_)
  have H61 := H56.ext hw60
  refine (R_callL (vs := [(.pointer (some ⟨br, 0, none⟩))]) stamp_Get_c48 rfl rfl ((Reader_Good br r48 Sr ((rdText ((rdAt ((rdAt ((rdAt ((rdNum q 2).2)).2)).2)).2) 60).2) w59 ((H61.pick (B' := [boxR br 132 (rdCh r48)]) (I' := [slI Sr encB 1 r48.bh r48.b]) [2] (by decide) rfl (List.forall_mem_cons.2 ⟨List.mem_of_getElem? (i := 0) rfl, fun _ h => (nomatch h)⟩)).rdStart) hr52).ret ?_))
  rintro _ w63 ⟨r62, rfl, hg64, hQ65, hr66⟩
  have H67 := H61.rdUpd (r := r48) 2 0 rfl rfl hg64 hQ65
  refine ⟨hg64, ?_⟩
  refine Lx_q (i := 2) rfl rfl _ (fun v68 hv69 => R_not rfl ⟨rfl, Gr.refl _ _⟩) ?_
  refine Lx_q (i := 3) rfl rfl _ (fun v70 hv71 => R_move (v := (.bool (!(!(((rdText ((rdAt ((rdAt ((rdAt ((rdNum q 2).2)).2)).2)).2) 60).2).2))))) rfl ⟨rfl, Gr.refl _ _⟩) ?_
  refine Lx_qg (i := 4) true (!(!(((rdText ((rdAt ((rdAt ((rdAt ((rdNum q 2).2)).2)).2)).2) 60).2).2))) rfl rfl rfl rfl rfl (!(!(!(((rdText ((rdAt ((rdAt ((rdAt ((rdNum q 2).2)).2)).2)).2) 60).2).2)))) ga_f _ (fun hA v72 hv73 => R_loadA (cs := [[(.int .i64 ((((rdNum q 2).1) : Nat) : Int))], [(.int .i64 (((rdAt ((rdNum q 2).2)).1).T))], [(.int .i64 (((rdAt ((rdNum q 2).2)).1).R))], [(.int .i64 (((rdAt ((rdAt ((rdNum q 2).2)).2)).1).T))], [(.int .i64 (((rdAt ((rdAt ((rdNum q 2).2)).2)).1).R))], [(.int .i64 (((rdAt ((rdAt ((rdAt ((rdNum q 2).2)).2)).2)).1).T))], [(.int .i64 (((rdAt ((rdAt ((rdAt ((rdNum q 2).2)).2)).2)).1).R))], [(.string ((rdText ((rdAt ((rdAt ((rdAt ((rdNum q 2).2)).2)).2)).2) 60).1))], (idCells zeroId), [(.slice none 0 0)]]) Tryz.isAgg72 Tryz.sizeOf72 rfl rfl ((boxR_at (H67.ownGr 0 2 (by decide) rfl rfl hv73 (fun _ h => congrArg some h.symm))).chunks 0 10 0 0 _ rfl rfl rfl) ⟨rfl, Gr.refl _ _⟩) ?_
  refine Lx_qg (i := 5) true (!(!(((rdText ((rdAt ((rdAt ((rdAt ((rdNum q 2).2)).2)).2)).2) 60).2).2))) rfl rfl rfl rfl rfl (!(!(!(((rdText ((rdAt ((rdAt ((rdAt ((rdNum q 2).2)).2)).2)).2) 60).2).2)))) ga_f (.bool (goodOp ({ kind := ((((rdNum q 2).1) : Nat) : Int), tm := ((rdAt ((rdNum q 2).2)).1), node := ((rdAt ((rdAt ((rdNum q 2).2)).2)).1), par := ((rdAt ((rdAt ((rdAt ((rdNum q 2).2)).2)).2)).1), name := (rdText ((rdAt ((rdAt ((rdAt ((rdNum q 2).2)).2)).2)).2) 60).1, data := zeroId, over := [], oh := nilH } : OpS))) (fun hA v74 hv75 => R_callL (vs := [(aggOf [[(.int .i64 ((((rdNum q 2).1) : Nat) : Int))], [(.int .i64 (((rdAt ((rdNum q 2).2)).1).T))], [(.int .i64 (((rdAt ((rdNum q 2).2)).1).R))], [(.int .i64 (((rdAt ((rdAt ((rdNum q 2).2)).2)).1).T))], [(.int .i64 (((rdAt ((rdAt ((rdNum q 2).2)).2)).1).R))], [(.int .i64 (((rdAt ((rdAt ((rdAt ((rdNum q 2).2)).2)).2)).1).T))], [(.int .i64 (((rdAt ((rdAt ((rdAt ((rdNum q 2).2)).2)).2)).1).R))], [(.string ((rdText ((rdAt ((rdAt ((rdAt ((rdNum q 2).2)).2)).2)).2) 60).1))], (idCells zeroId), [(.slice none 0 0)]])]) stamp_Get_c97 rfl (lst1 (gv_t hA)) (stamp_Good ({ kind := ((((rdNum q 2).1) : Nat) : Int), tm := ((rdAt ((rdNum q 2).2)).1), node := ((rdAt ((rdAt ((rdNum q 2).2)).2)).1), par := ((rdAt ((rdAt ((rdAt ((rdNum q 2).2)).2)).2)).1), name := (rdText ((rdAt ((rdAt ((rdAt ((rdNum q 2).2)).2)).2)).2) 60).1, data := zeroId, over := [], oh := nilH } : OpS) v74 (Sl.nil _ _ _ _))) ?_
  refine Lx_qg (i := 6) true (!(!(((rdText ((rdAt ((rdAt ((rdAt ((rdNum q 2).2)).2)).2)).2) 60).2).2))) rfl rfl rfl rfl rfl (!(!(!(((rdText ((rdAt ((rdAt ((rdAt ((rdNum q 2).2)).2)).2)).2) 60).2).2)))) ga_f _ (fun hA v76 hv77 => R_not (gv_t hA) ⟨rfl, Gr.refl _ _⟩) ?_
  refine Lx_q (i := 7) rfl rfl _ (fun v78 hv79 => R_pick (t := (!(!(((rdText ((rdAt ((rdAt ((rdAt ((rdNum q 2).2)).2)).2)).2) 60).2).2)))) (v := (.bool ((!(!(((rdText ((rdAt ((rdAt ((rdAt ((rdNum q 2).2)).2)).2)).2) 60).2).2))) || (!(goodOp ({ kind := ((((rdNum q 2).1) : Nat) : Int), tm := ((rdAt ((rdNum q 2).2)).1), node := ((rdAt ((rdAt ((rdNum q 2).2)).2)).1), par := ((rdAt ((rdAt ((rdAt ((rdNum q 2).2)).2)).2)).1), name := (rdText ((rdAt ((rdAt ((rdAt ((rdNum q 2).2)).2)).2)).2) 60).1, data := zeroId, over := [], oh := nilH } : OpS)))))) rfl pk_or ⟨rfl, Gr.refl _ _⟩) ?_
  refine Lx_nil (fun w80 hw81 => ?_)
  have H82 := H67.ext hw81
  refine Then_n ?_
  refine W_cond (t := ((!(!(((rdText ((rdAt ((rdAt ((rdAt ((rdNum q 2).2)).2)).2)).2) 60).2).2))) || (!(goodOp ({ kind := ((((rdNum q 2).1) : Nat) : Int), tm := ((rdAt ((rdNum q 2).2)).1), node := ((rdAt ((rdAt ((rdNum q 2).2)).2)).1), par := ((rdAt ((rdAt ((rdAt ((rdNum q 2).2)).2)).2)).1), name := (rdText ((rdAt ((rdAt ((rdAt ((rdNum q 2).2)).2)).2)).2) 60).1, data := zeroId, over := [], oh := nilH } : OpS))))) rfl (fun hc83 => ?_) (fun hc83 => ?_)
  ·have hc83 : ((((rdText ((rdAt ((rdAt ((rdAt ((rdNum q 2).2)).2)).2)).2) 60).2).2) = true ∨ (goodOp ({ kind := ((((rdNum q 2).1) : Nat) : Int), tm := ((rdAt ((rdNum q 2).2)).1), node := ((rdAt ((rdAt ((rdNum q 2).2)).2)).1), par := ((rdAt ((rdAt ((rdAt ((rdNum q 2).2)).2)).2)).1), name := (rdText ((rdAt ((rdAt ((rdAt ((rdNum q 2).2)).2)).2)).2) 60).1, data := zeroId, over := [], oh := nilH } : OpS)) = false) := (Or.imp (fun h => (notF (notT h))) (fun h => (notT h)) (orT hc83))
   refine W_seq (W_reg ?_)
   refine O_v rfl (R_move (v := (.pointer (some ⟨br, 0, none⟩))) rfl ?_)
   refine O_v rfl (R_callL (vs := [(.pointer (some ⟨br, 0, none⟩))]) stamp_Get_c87 rfl rfl ((Reader_Fail br r62 Sr ((rdText ((rdAt ((rdAt ((rdAt ((rdNum q 2).2)).2)).2)).2) 60).2) w80 ((H82.pick (B' := [boxR br 132 (rdCh r62)]) (I' := [slI Sr encB 1 r62.bh r62.b]) [2] (by decide) rfl (List.forall_mem_cons.2 ⟨List.mem_of_getElem? (i := 0) rfl, fun _ h => (nomatch h)⟩)).rdStart) hr66).ret ?_))
   rintro _ w85 ⟨r84, rfl, hg86, hQ87, hr88⟩
   have H89 := H82.rdUpd (r := r62) 2 0 rfl rfl hg86 hQ87
   refine O_nil (Then_n (W_seq (W_reg ?_)))
   refine O_v rfl (R_buildL (vs := []) (v := aggOf [[(.int .i64 0)], [(.int .i64 0)], [(.int .i64 0)], [(.int .i64 0)], [(.int .i64 0)], [(.int .i64 0)], [(.int .i64 0)], [(.string ByteArray.empty)], (idCells zeroId), [(.slice none 0 0)]]) rfl (fun _ => by kernel_rfl) ?_)
   refine O_u (C_storeA H89 1 rfl 0 (sub := [[(.int .i64 0)], [(.int .i64 0)], [(.int .i64 0)], [(.int .i64 0)], [(.int .i64 0)], [(.int .i64 0)], [(.int .i64 0)], [(.string ByteArray.empty)], (idCells zeroId), [(.slice none 0 0)]]) [[(.int .i64 0)], [(.int .i64 0)], [(.int .i64 0)], [(.int .i64 0)], [(.int .i64 0)], [(.int .i64 0)], [(.int .i64 0)], [(.string ByteArray.empty)], (idCells zeroId), [(.slice none 0 0)]] Tryz.sizeOf72 rfl rfl rfl rfl ⟨[[(.int .i64 0)], [(.int .i64 0)], [(.int .i64 0)], [(.int .i64 0)], [(.int .i64 0)], [(.int .i64 0)], [(.int .i64 0)], [(.string ByteArray.empty)], (idCells zeroId), [(.slice none 0 0)]], [], rfl, rfl, rfl⟩ rfl ?_)
   intro w90 hg91 H92
   refine O_nil (Then_n (W_ret (Then_r ?_)))
   refine ret_c Tryz.results64 (inMem (cs := [[(.int .i64 0)], [(.int .i64 0)], [(.int .i64 0)], [(.int .i64 0)], [(.int .i64 0)], [(.int .i64 0)], [(.int .i64 0)], [(.string ByteArray.empty)], (idCells zeroId), [(.slice none 0 0)]]) rfl Tryz.isAgg72 Tryz.sizeOf72 rfl (boxR_at (H92.getOwn 1 rfl))) ?_
   have H93 := H92.addNil 69 2 stampCh
   have HQ := ((H93.pick (B' := [boxR br 132 (rdCh r84)]) (I' := [slI Sr encB 1 r84.bh r84.b]) [3] (by decide) rfl (List.forall_mem_cons.2 ⟨List.mem_of_getElem? (i := 0) rfl, fun _ h => (nomatch h)⟩)).rdStart)
   exact ⟨r84, ({ kind := 0, tm := ({ T := 0, R := 0 } : Stamp), node := ({ T := 0, R := 0 } : Stamp), par := ({ T := 0, R := 0 } : Stamp), name := ByteArray.empty, data := zeroId, over := [], oh := nilH } : OpS), rfl, H93.gr, HQ, (hr88.trans (congrArg Prod.snd (op_fail (opRead_m hK) hc83)).symm), H93.retRowM 3 0 (by decide) rfl rfl, (congrArg Prod.fst (op_fail (opRead_m hK) hc83)).symm⟩
  ·have hc83 : ((((rdText ((rdAt ((rdAt ((rdAt ((rdNum q 2).2)).2)).2)).2) 60).2).2) = false ∧ (goodOp ({ kind := ((((rdNum q 2).1) : Nat) : Int), tm := ((rdAt ((rdNum q 2).2)).1), node := ((rdAt ((rdAt ((rdNum q 2).2)).2)).1), par := ((rdAt ((rdAt ((rdAt ((rdNum q 2).2)).2)).2)).1), name := (rdText ((rdAt ((rdAt ((rdAt ((rdNum q 2).2)).2)).2)).2) 60).1, data := zeroId, over := [], oh := nilH } : OpS)) = true) := (And.imp (fun h => (notT (notF h))) (fun h => (notF h)) (orF hc83))
   refine W_skip (Then_n (W_seq (W_reg ?_)))
   refine O_v rfl (R_loadA (cs := [[(.int .i64 ((((rdNum q 2).1) : Nat) : Int))], [(.int .i64 (((rdAt ((rdNum q 2).2)).1).T))], [(.int .i64 (((rdAt ((rdNum q 2).2)).1).R))], [(.int .i64 (((rdAt ((rdAt ((rdNum q 2).2)).2)).1).T))], [(.int .i64 (((rdAt ((rdAt ((rdNum q 2).2)).2)).1).R))], [(.int .i64 (((rdAt ((rdAt ((rdAt ((rdNum q 2).2)).2)).2)).1).T))], [(.int .i64 (((rdAt ((rdAt ((rdAt ((rdNum q 2).2)).2)).2)).1).R))], [(.string ((rdText ((rdAt ((rdAt ((rdAt ((rdNum q 2).2)).2)).2)).2) 60).1))], (idCells zeroId), [(.slice none 0 0)]]) Tryz.isAgg72 Tryz.sizeOf72 rfl rfl ((boxR_at (H82.getOwn 0 rfl)).chunks 0 10 0 0 _ rfl rfl rfl) ?_)
   refine O_u (C_storeA H82 1 rfl 0 (sub := [[(.int .i64 ((((rdNum q 2).1) : Nat) : Int))], [(.int .i64 (((rdAt ((rdNum q 2).2)).1).T))], [(.int .i64 (((rdAt ((rdNum q 2).2)).1).R))], [(.int .i64 (((rdAt ((rdAt ((rdNum q 2).2)).2)).1).T))], [(.int .i64 (((rdAt ((rdAt ((rdNum q 2).2)).2)).1).R))], [(.int .i64 (((rdAt ((rdAt ((rdAt ((rdNum q 2).2)).2)).2)).1).T))], [(.int .i64 (((rdAt ((rdAt ((rdAt ((rdNum q 2).2)).2)).2)).1).R))], [(.string ((rdText ((rdAt ((rdAt ((rdAt ((rdNum q 2).2)).2)).2)).2) 60).1))], (idCells zeroId), [(.slice none 0 0)]]) [[(.int .i64 ((((rdNum q 2).1) : Nat) : Int))], [(.int .i64 (((rdAt ((rdNum q 2).2)).1).T))], [(.int .i64 (((rdAt ((rdNum q 2).2)).1).R))], [(.int .i64 (((rdAt ((rdAt ((rdNum q 2).2)).2)).1).T))], [(.int .i64 (((rdAt ((rdAt ((rdNum q 2).2)).2)).1).R))], [(.int .i64 (((rdAt ((rdAt ((rdAt ((rdNum q 2).2)).2)).2)).1).T))], [(.int .i64 (((rdAt ((rdAt ((rdAt ((rdNum q 2).2)).2)).2)).1).R))], [(.string ((rdText ((rdAt ((rdAt ((rdAt ((rdNum q 2).2)).2)).2)).2) 60).1))], (idCells zeroId), [(.slice none 0 0)]] Tryz.sizeOf72 rfl rfl rfl rfl ⟨[[(.int .i64 0)], [(.int .i64 0)], [(.int .i64 0)], [(.int .i64 0)], [(.int .i64 0)], [(.int .i64 0)], [(.int .i64 0)], [(.string ByteArray.empty)], (idCells zeroId), [(.slice none 0 0)]], [], rfl, rfl, rfl⟩ rfl ?_)
   intro w94 hg95 H96
   refine O_nil (Then_n (W_ret ?_))
   refine ret_c Tryz.results64 (inMem (cs := [[(.int .i64 ((((rdNum q 2).1) : Nat) : Int))], [(.int .i64 (((rdAt ((rdNum q 2).2)).1).T))], [(.int .i64 (((rdAt ((rdNum q 2).2)).1).R))], [(.int .i64 (((rdAt ((rdAt ((rdNum q 2).2)).2)).1).T))], [(.int .i64 (((rdAt ((rdAt ((rdNum q 2).2)).2)).1).R))], [(.int .i64 (((rdAt ((rdAt ((rdAt ((rdNum q 2).2)).2)).2)).1).T))], [(.int .i64 (((rdAt ((rdAt ((rdAt ((rdNum q 2).2)).2)).2)).1).R))], [(.string ((rdText ((rdAt ((rdAt ((rdAt ((rdNum q 2).2)).2)).2)).2) 60).1))], (idCells zeroId), [(.slice none 0 0)]]) rfl Tryz.isAgg72 Tryz.sizeOf72 rfl (boxR_at (H96.getOwn 1 rfl))) ?_
   have H97 := H96.addNil 69 2 stampCh
   have HQ := ((H97.pick (B' := [boxR br 132 (rdCh r62)]) (I' := [slI Sr encB 1 r62.bh r62.b]) [3] (by decide) rfl (List.forall_mem_cons.2 ⟨List.mem_of_getElem? (i := 0) rfl, fun _ h => (nomatch h)⟩)).rdStart)
   exact ⟨r62, ({ kind := ((((rdNum q 2).1) : Nat) : Int), tm := ((rdAt ((rdNum q 2).2)).1), node := ((rdAt ((rdAt ((rdNum q 2).2)).2)).1), par := ((rdAt ((rdAt ((rdAt ((rdNum q 2).2)).2)).2)).1), name := (rdText ((rdAt ((rdAt ((rdAt ((rdNum q 2).2)).2)).2)).2) 60).1, data := zeroId, over := [], oh := nilH } : OpS), rfl, H97.gr, HQ, (hr66.trans (congrArg Prod.snd (op_ok (opRead_m hK) hc83)).symm), H97.retRowM 3 0 (by decide) rfl rfl, (congrArg Prod.fst (op_ok (opRead_m hK) hc83)).symm⟩
 ·have hc38 : ¬ (((((rdNum q 2).1) : Nat) : Int) = 1) := (of_decide_eq_false hc38)
  have hK := hc38
  refine W_seq (W_reg ?_)
  refine O_v rfl (R_move (v := (.pointer (some ⟨br, 0, none⟩))) rfl ?_)
  refine O_v rfl (R_callL (vs := [(.pointer (some ⟨br, 0, none⟩))]) stamp_Get_c63 rfl rfl ((Reader_Id br r29 Sr ((rdAt ((rdAt ((rdNum q 2).2)).2)).2) w35 ((H37.pick (B' := [boxR br 132 (rdCh r29)]) (I' := [slI Sr encB 1 r29.bh r29.b]) [2] (by decide) rfl (List.forall_mem_cons.2 ⟨List.mem_of_getElem? (i := 0) rfl, fun _ h => (nomatch h)⟩)).rdStart) hr33).ret ?_))
  rintro _ w99 ⟨r98, rfl, hg100, hQ101, hr102⟩
  have H103 := H37.rdUpd (r := r29) 2 0 rfl rfl hg100 hQ101
  refine O_v rfl (R_fieldAddr (off := 8) (oo := 8) Tryz.underlying72 rfl rfl Tryz.sizeOf45 rfl rfl ?_)
  refine O_u (C_storeA H103 0 rfl 8 (sub := [(idCells ((rdId ((rdAt ((rdAt ((rdNum q 2).2)).2)).2)).1))]) [[(.int .i64 ((((rdNum q 2).1) : Nat) : Int))], [(.int .i64 (((rdAt ((rdNum q 2).2)).1).T))], [(.int .i64 (((rdAt ((rdNum q 2).2)).1).R))], [(.int .i64 (((rdAt ((rdAt ((rdNum q 2).2)).2)).1).T))], [(.int .i64 (((rdAt ((rdAt ((rdNum q 2).2)).2)).1).R))], [(.int .i64 0)], [(.int .i64 0)], [(.string ByteArray.empty)], (idCells ((rdId ((rdAt ((rdAt ((rdNum q 2).2)).2)).2)).1)), [(.slice none 0 0)]] Tryz.sizeOf45 rfl rfl rfl rfl ⟨[(idCells zeroId)], [[(.slice none 0 0)]], rfl, rfl, rfl⟩ rfl ?_)
  intro w104 hg105 H106
  refine O_nil (Then_n (W_seq (W_reg ?_)))
  refine O_v rfl (R_move (v := (.pointer (some ⟨br, 0, none⟩))) rfl ?_)
  refine O_v rfl (R_callL (vs := [(.pointer (some ⟨br, 0, none⟩)), (.int .i64 64)]) stamp_Get_c46 rfl rfl ((Reader_Num br r98 Sr ((rdId ((rdAt ((rdAt ((rdNum q 2).2)).2)).2)).2) 64 w104 ((H106.pick (B' := [boxR br 132 (rdCh r98)]) (I' := [slI Sr encB 1 r98.bh r98.b]) [2] (by decide) rfl (List.forall_mem_cons.2 ⟨List.mem_of_getElem? (i := 0) rfl, fun _ h => (nomatch h)⟩)).rdStart) hr102).ret ?_))
  rintro _ w108 ⟨r107, rfl, hg109, hQ110, hr111⟩
  have H112 := H106.rdUpd (r := r98) 2 0 rfl rfl hg109 hQ110
  refine O_v rfl (R_move (v := (.int .i64 0)) rfl ?_)
  refine O_nil (Then_n (W_block ?_))
  have H113 := H112.addNil 69 2 stampCh
  refine W_loop (fun m114 e115 w116 => ∃ (k : Nat), ∃ (acc : List Stamp), ∃ (rr : RdS), ∃ (rq : List UInt8 × Bool), ∃ (ho : SlH), m114 = (rdNum (rdId (rdAt (rdAt (rdNum q 2).2).2).2).2 64).1 - k ∧ (k ≤ (rdNum (rdId (rdAt (rdAt (rdNum q 2).2).2).2).2 64).1) ∧ ((rdNum (rdId (rdAt (rdAt (rdNum q 2).2).2).2).2 64).1 ≤ 64) ∧ (acc.length ≤ k) ∧ (rr.st = rq) ∧ (rdAts ((rdNum (rdId (rdAt (rdAt (rdNum q 2).2).2).2).2 64).1 - k) acc rq = rdAts (rdNum (rdId (rdAt (rdAt (rdNum q 2).2).2).2).2 64).1 [] (rdNum (rdId (rdAt (rdAt (rdNum q 2).2).2).2).2 64).2) ∧ ∃ eb117, e115 = envL [(0, (.pointer (some ⟨br, 0, none⟩))), (2, (.pointer (some ⟨b1, 0, none⟩))), (3, (.pointer (some ⟨b12, 0, none⟩))), (26, (.int .i64 ((((rdNum ((rdId ((rdAt ((rdAt ((rdNum q 2).2)).2)).2)).2) 64).1) : Nat) : Int))), (27, (.int .i64 ((k : Nat) : Int)))] eb117 ∧ Ctx w (fun c => c = br) w116 [rowR 69 2 stampCh ho acc, boxR b12 72 [[(.int .i64 ((((rdNum q 2).1) : Nat) : Int))], [(.int .i64 (((rdAt ((rdNum q 2).2)).1).T))], [(.int .i64 (((rdAt ((rdNum q 2).2)).1).R))], [(.int .i64 (((rdAt ((rdAt ((rdNum q 2).2)).2)).1).T))], [(.int .i64 (((rdAt ((rdAt ((rdNum q 2).2)).2)).1).R))], [(.int .i64 0)], [(.int .i64 0)], [(.string ByteArray.empty)], (idCells ((rdId ((rdAt ((rdAt ((rdNum q 2).2)).2)).2)).1)), [(slV ho acc)]], boxR b1 72 [[(.int .i64 0)], [(.int .i64 0)], [(.int .i64 0)], [(.int .i64 0)], [(.int .i64 0)], [(.int .i64 0)], [(.int .i64 0)], [(.string ByteArray.empty)], (idCells zeroId), [(.slice none 0 0)]], boxR br 132 [[(slV rr.bh rr.b)], [(.bool rr.bad)]]] [slI Sr encB 1 rr.bh rr.b]) _ ⟨0, [], r107, ((rdNum (rdId (rdAt (rdAt (rdNum q 2).2).2).2).2 64).2), nilH, rfl, (by omega), (rdNum_le _ (by decide)), (by simp), hr111, rfl, _, envL_self ⟨rfl, rfl, rfl, rfl, rfl, trivial⟩, H113⟩ ?_
  rintro m114 _ w116 ⟨k, acc, rr, rq, ho, rfl, hk, hm, hal, hrr, hgo, eb117, rfl, H118⟩
  refine W_seq (W_reg ?_)
  refine O_v rfl (R_cmp (a := ((k : Nat) : Int)) (b := ((((rdNum ((rdId ((rdAt ((rdAt ((rdNum q 2).2)).2)).2)).2) 64).1) : Nat) : Int)) (r := (decide (((k : Nat) : Int) < ((((rdNum ((rdId ((rdAt ((rdAt ((rdNum q 2).2)).2)).2)).2) 64).1) : Nat) : Int)))) rfl rfl rfl ?_)
  refine O_nil (Then_n (W_seq ?_))
  refine W_cond (t := (decide (((k : Nat) : Int) < ((((rdNum ((rdId ((rdAt ((rdAt ((rdNum q 2).2)).2)).2)).2) 64).1) : Nat) : Int)))) rfl (fun hc119 => ?_) (fun hc119 => ?_)
  ·have hc119 : (((k : Nat) : Int) < ((((rdNum ((rdId ((rdAt ((rdAt ((rdNum q 2).2)).2)).2)).2) 64).1) : Nat) : Int)) := (of_decide_eq_true hc119)
   refine W_skip (Then_n (W_seq (W_block ?_)))
   refine W_rgdM TryzMixed (fun c => c = br) (fun i => if i == 3 then 1 else if i == 5 || i == 7 then 2 else 0) [(0, .q 2), (1, .q 1), (2, .q 2), (3, .c 1), (4, .c 0), (5, .c 2), (6, .q 2), (7, .c 2)] (by kernel_rfl) ?_
   refine Lx_q (i := 0) rfl rfl _ (fun v120 hv121 => R_fieldAddr (off := 40) (oo := 40) Tryz.underlying72 rfl rfl Tryz.sizeOf70 rfl rfl ⟨rfl, Gr.refl _ _⟩) ?_
   refine Lx_q (i := 1) rfl rfl _ (fun v122 hv123 => R_load1 (v := (slV ho acc)) Tryz.isAgg70 rfl ((boxR_at (H118.ownGr 1 3 (by decide) rfl rfl hv123 (fun _ h => congrArg some h.symm))).chunks 9 1 40 40 _ rfl rfl rfl) ⟨rfl, Gr.refl _ _⟩) ?_
   refine Lx_q (i := 2) rfl rfl _ (fun v124 hv125 => R_move (v := (.pointer (some ⟨br, 0, none⟩))) rfl ⟨rfl, Gr.refl _ _⟩) ?_
   refine Lx_c (i := 3) rfl rfl (fun w126 hw127 => ?_)
   have H128 := H118.ext hw127
   refine (R_callL (vs := [(.pointer (some ⟨br, 0, none⟩))]) stamp_Get_c106 rfl rfl ((stamp_get br rr Sr rq w126 ((H128.pick (B' := [boxR br 132 (rdCh rr)]) (I' := [slI Sr encB 1 rr.bh rr.b]) [3] (by decide) rfl (List.forall_mem_cons.2 ⟨List.mem_of_getElem? (i := 0) rfl, fun _ h => (nomatch h)⟩)).rdStart) hrr).ret ?_))
   rintro _ w130 ⟨r129, rfl, hg131, hQ132, hr133⟩
   have H134 := H128.rdUpd (r := rr) 3 0 rfl rfl hg131 hQ132
   refine ⟨hg131, ?_⟩
   refine Lx_c (i := 4) rfl rfl (fun w135 hw136 => ?_)
   have H137 := H134.ext hw136
   refine (C_buildSliceL H137 (enc := stampCh) (val := stampV) ([(rdAt rq).1] : List Stamp) Tryz.underlying70 Tryz.sizeOf69 Tryz.zeroValue69 rfl (by decide) (fun _ => rfl) (fun _ => rfl) rfl rfl (by decide) ?_)
   intro b138 w139 hb140 hx141 H142
   refine ⟨GrF.ofExt hx141, ?_⟩
   refine Lx_c (i := 5) rfl rfl (fun w143 hw144 => ?_)
   have H145 := H142.ext hw144
   refine (C_append H145 1 rfl (bytes := 16) (l := acc) (ys := ([(rdAt rq).1] : List Stamp)) Tryz.underlying70 rfl rfl rfl rfl rfl (by decide) rfl rfl (OwnS.sl (H145.getOwn 0 rfl) (fun _ => rfl)) (fun _ => rfl) (fun _ => rfl) (by simp only [List.length_append, List.length_cons, List.length_nil]; omega) (by decide) ?_)
   intro h146 w147 hg148 H149
   refine ⟨Gr.mono (M' := fun _ => True) hg148 (fun _ _ => trivial), ?_⟩
   refine Lx_q (i := 6) rfl rfl _ (fun v150 hv151 => R_fieldAddr (off := 40) (oo := 40) Tryz.underlying72 rfl rfl Tryz.sizeOf70 rfl rfl ⟨rfl, Gr.refl _ _⟩) ?_
   refine Lx_cu (i := 7) rfl (fun w152 hw153 => ?_)
   have H154 := H149.ext hw153
   refine (C_store1 H154 2 rfl 9 (v := (slV h146 (acc ++ ([(rdAt rq).1] : List Stamp)))) [[(.int .i64 ((((rdNum q 2).1) : Nat) : Int))], [(.int .i64 (((rdAt ((rdNum q 2).2)).1).T))], [(.int .i64 (((rdAt ((rdNum q 2).2)).1).R))], [(.int .i64 (((rdAt ((rdAt ((rdNum q 2).2)).2)).1).T))], [(.int .i64 (((rdAt ((rdAt ((rdNum q 2).2)).2)).1).R))], [(.int .i64 0)], [(.int .i64 0)], [(.string ByteArray.empty)], (idCells ((rdId ((rdAt ((rdAt ((rdNum q 2).2)).2)).2)).1)), [(slV h146 (acc ++ ([(rdAt rq).1] : List Stamp)))]] Tryz.sizeOf70 rfl rfl rfl rfl rfl rfl rfl ?_)
   intro w155 hg156 H157
   refine ⟨Gr.mono (M' := fun _ => True) hg156 (fun _ _ => trivial), ?_⟩
   refine Lx_nil (fun w158 hw159 => ?_)
   have H160 := H157.ext hw159
   refine Blk_n (Then_n (W_reg ?_))
   refine O_v rfl (R_arith (a := ((k : Nat) : Int)) (b := 1) (r0 := ((k : Nat) : Int) + 1) (r := ((k + 1 : Nat) : Int)) rfl rfl rfl (wrapN _ (by omega)) ?_)
   refine O_v rfl (R_move (v := (.int .i64 ((k + 1 : Nat) : Int))) rfl ?_)
   refine O_nil (Then_n ?_)
   have H161 := H160.sub (B' := [rowR 69 2 stampCh h146 (acc ++ ([(rdAt rq).1] : List Stamp)), boxR b12 72 [[(.int .i64 ((((rdNum q 2).1) : Nat) : Int))], [(.int .i64 (((rdAt ((rdNum q 2).2)).1).T))], [(.int .i64 (((rdAt ((rdNum q 2).2)).1).R))], [(.int .i64 (((rdAt ((rdAt ((rdNum q 2).2)).2)).1).T))], [(.int .i64 (((rdAt ((rdAt ((rdNum q 2).2)).2)).1).R))], [(.int .i64 0)], [(.int .i64 0)], [(.string ByteArray.empty)], (idCells ((rdId ((rdAt ((rdAt ((rdNum q 2).2)).2)).2)).1)), [(slV h146 (acc ++ ([(rdAt rq).1] : List Stamp)))]], boxR b1 72 [[(.int .i64 0)], [(.int .i64 0)], [(.int .i64 0)], [(.int .i64 0)], [(.int .i64 0)], [(.int .i64 0)], [(.int .i64 0)], [(.string ByteArray.empty)], (idCells zeroId), [(.slice none 0 0)]], boxR br 132 [[(slV r129.bh r129.b)], [(.bool r129.bad)]]]) (I' := [slI Sr encB 1 r129.bh r129.b]) (List.Sublist.cons _ (List.Sublist.cons_cons _ (List.Sublist.cons_cons _ (List.Sublist.cons_cons _ (List.Sublist.cons_cons _ List.Sublist.slnil))))) (List.forall_mem_cons.2 ⟨List.mem_of_getElem? (i := 0) rfl, fun _ h => (nomatch h)⟩)
   refine ⟨_, ?_, (k + 1), (acc ++ ([(rdAt rq).1] : List Stamp)), r129, ((rdAt rq).2), h146, rfl, (by omega), hm, (by simp only [List.length_append, List.length_cons, List.length_nil]; omega), hr133, (ats_next hgo (by omega)), _, envL_self ⟨rfl, rfl, rfl, rfl, rfl, trivial⟩, H161⟩
   omega
  ·have hc119 : ¬ (((k : Nat) : Int) < ((((rdNum ((rdId ((rdAt ((rdAt ((rdNum q 2).2)).2)).2)).2) 64).1) : Nat) : Int)) := (of_decide_eq_false hc119)
   refine W_exit (Then_x (Then_x (Blk_x (Then_n (W_seq (W_seq ?_))))))
   refine W_rgM (fun c => c = br) (fun i => if i == 1 then 1 else 0) [(0, .q 2), (1, .c 1), (2, .q 2), (3, .q 2), (4, .q 1), (5, .q 0), (6, .q 2), (7, .q 2)] (by kernel_rfl) ?_
   refine Lx_q (i := 0) rfl rfl _ (fun v162 hv163 => R_move (v := (.pointer (some ⟨br, 0, none⟩))) rfl ⟨rfl, Gr.refl _ _⟩) ?_
   refine Lx_c (i := 1) rfl rfl (fun w164 hw165 => ?_)
   have H166 := H118.ext hw165
   refine (R_callL (vs := [(.pointer (some ⟨br, 0, none⟩))]) stamp_Get_c48 rfl rfl ((Reader_Good br rr Sr rq w164 ((H166.pick (B' := [boxR br 132 (rdCh rr)]) (I' := [slI Sr encB 1 rr.bh rr.b]) [3] (by decide) rfl (List.forall_mem_cons.2 ⟨List.mem_of_getElem? (i := 0) rfl, fun _ h => (nomatch h)⟩)).rdStart) hrr).ret ?_))
   rintro _ w168 ⟨r167, rfl, hg169, hQ170, hr171⟩
   have H172 := H166.rdUpd (r := rr) 3 0 rfl rfl hg169 hQ170
   refine ⟨hg169, ?_⟩
   refine Lx_q (i := 2) rfl rfl _ (fun v173 hv174 => R_not rfl ⟨rfl, Gr.refl _ _⟩) ?_
   refine Lx_q (i := 3) rfl rfl _ (fun v175 hv176 => R_move (v := (.bool (!(!rq.2)))) rfl ⟨rfl, Gr.refl _ _⟩) ?_
   refine Lx_qg (i := 4) true (!(!rq.2)) rfl rfl rfl rfl rfl (!(!(!rq.2))) ga_f _ (fun hA v177 hv178 => R_loadA (cs := [[(.int .i64 ((((rdNum q 2).1) : Nat) : Int))], [(.int .i64 (((rdAt ((rdNum q 2).2)).1).T))], [(.int .i64 (((rdAt ((rdNum q 2).2)).1).R))], [(.int .i64 (((rdAt ((rdAt ((rdNum q 2).2)).2)).1).T))], [(.int .i64 (((rdAt ((rdAt ((rdNum q 2).2)).2)).1).R))], [(.int .i64 0)], [(.int .i64 0)], [(.string ByteArray.empty)], (idCells ((rdId ((rdAt ((rdAt ((rdNum q 2).2)).2)).2)).1)), [(slV ho acc)]]) Tryz.isAgg72 Tryz.sizeOf72 rfl rfl ((boxR_at (H172.ownGr 1 3 (by decide) rfl rfl hv178 (fun _ h => congrArg some h.symm))).chunks 0 10 0 0 _ rfl rfl rfl) ⟨rfl, Gr.refl _ _⟩) ?_
   refine Lx_qg (i := 5) true (!(!rq.2)) rfl rfl rfl rfl rfl (!(!(!rq.2))) ga_f (.bool (goodOp ({ kind := ((((rdNum q 2).1) : Nat) : Int), tm := ((rdAt ((rdNum q 2).2)).1), node := ((rdAt ((rdAt ((rdNum q 2).2)).2)).1), par := ({ T := 0, R := 0 } : Stamp), name := ByteArray.empty, data := (rdId ((rdAt ((rdAt ((rdNum q 2).2)).2)).2)).1, over := acc, oh := ho } : OpS))) (fun hA v179 hv180 => R_callL (vs := [(aggOf [[(.int .i64 ((((rdNum q 2).1) : Nat) : Int))], [(.int .i64 (((rdAt ((rdNum q 2).2)).1).T))], [(.int .i64 (((rdAt ((rdNum q 2).2)).1).R))], [(.int .i64 (((rdAt ((rdAt ((rdNum q 2).2)).2)).1).T))], [(.int .i64 (((rdAt ((rdAt ((rdNum q 2).2)).2)).1).R))], [(.int .i64 0)], [(.int .i64 0)], [(.string ByteArray.empty)], (idCells ((rdId ((rdAt ((rdAt ((rdNum q 2).2)).2)).2)).1)), [(slV ho acc)]])]) stamp_Get_c97 rfl (lst1 (gv_t hA)) (stamp_Good ({ kind := ((((rdNum q 2).1) : Nat) : Int), tm := ((rdAt ((rdNum q 2).2)).1), node := ((rdAt ((rdAt ((rdNum q 2).2)).2)).1), par := ({ T := 0, R := 0 } : Stamp), name := ByteArray.empty, data := (rdId ((rdAt ((rdAt ((rdNum q 2).2)).2)).2)).1, over := acc, oh := ho } : OpS) v179 ((H172.ext hv180).rowSl 0 rfl (fun _ => rfl)))) ?_
   refine Lx_qg (i := 6) true (!(!rq.2)) rfl rfl rfl rfl rfl (!(!(!rq.2))) ga_f _ (fun hA v181 hv182 => R_not (gv_t hA) ⟨rfl, Gr.refl _ _⟩) ?_
   refine Lx_q (i := 7) rfl rfl _ (fun v183 hv184 => R_pick (t := (!(!rq.2))) (v := (.bool ((!(!rq.2)) || (!(goodOp ({ kind := ((((rdNum q 2).1) : Nat) : Int), tm := ((rdAt ((rdNum q 2).2)).1), node := ((rdAt ((rdAt ((rdNum q 2).2)).2)).1), par := ({ T := 0, R := 0 } : Stamp), name := ByteArray.empty, data := (rdId ((rdAt ((rdAt ((rdNum q 2).2)).2)).2)).1, over := acc, oh := ho } : OpS)))))) rfl pk_or ⟨rfl, Gr.refl _ _⟩) ?_
   refine Lx_nil (fun w185 hw186 => ?_)
   have H187 := H172.ext hw186
   refine Then_n ?_
   refine W_cond (t := ((!(!rq.2)) || (!(goodOp ({ kind := ((((rdNum q 2).1) : Nat) : Int), tm := ((rdAt ((rdNum q 2).2)).1), node := ((rdAt ((rdAt ((rdNum q 2).2)).2)).1), par := ({ T := 0, R := 0 } : Stamp), name := ByteArray.empty, data := (rdId ((rdAt ((rdAt ((rdNum q 2).2)).2)).2)).1, over := acc, oh := ho } : OpS))))) rfl (fun hc188 => ?_) (fun hc188 => ?_)
   ·have hc188 : (rq.2 = true ∨ (goodOp ({ kind := ((((rdNum q 2).1) : Nat) : Int), tm := ((rdAt ((rdNum q 2).2)).1), node := ((rdAt ((rdAt ((rdNum q 2).2)).2)).1), par := ({ T := 0, R := 0 } : Stamp), name := ByteArray.empty, data := (rdId ((rdAt ((rdAt ((rdNum q 2).2)).2)).2)).1, over := acc, oh := ho } : OpS)) = false) := (Or.imp (fun h => (notF (notT h))) (fun h => (notT h)) (orT hc188))
    refine W_seq (W_reg ?_)
    refine O_v rfl (R_move (v := (.pointer (some ⟨br, 0, none⟩))) rfl ?_)
    refine O_v rfl (R_callL (vs := [(.pointer (some ⟨br, 0, none⟩))]) stamp_Get_c87 rfl rfl ((Reader_Fail br r167 Sr rq w185 ((H187.pick (B' := [boxR br 132 (rdCh r167)]) (I' := [slI Sr encB 1 r167.bh r167.b]) [3] (by decide) rfl (List.forall_mem_cons.2 ⟨List.mem_of_getElem? (i := 0) rfl, fun _ h => (nomatch h)⟩)).rdStart) hr171).ret ?_))
    rintro _ w190 ⟨r189, rfl, hg191, hQ192, hr193⟩
    have H194 := H187.rdUpd (r := r167) 3 0 rfl rfl hg191 hQ192
    refine O_nil (Then_n (W_seq (W_reg ?_)))
    refine O_v rfl (R_buildL (vs := []) (v := aggOf [[(.int .i64 0)], [(.int .i64 0)], [(.int .i64 0)], [(.int .i64 0)], [(.int .i64 0)], [(.int .i64 0)], [(.int .i64 0)], [(.string ByteArray.empty)], (idCells zeroId), [(.slice none 0 0)]]) rfl (fun _ => by kernel_rfl) ?_)
    refine O_u (C_storeA H194 2 rfl 0 (sub := [[(.int .i64 0)], [(.int .i64 0)], [(.int .i64 0)], [(.int .i64 0)], [(.int .i64 0)], [(.int .i64 0)], [(.int .i64 0)], [(.string ByteArray.empty)], (idCells zeroId), [(.slice none 0 0)]]) [[(.int .i64 0)], [(.int .i64 0)], [(.int .i64 0)], [(.int .i64 0)], [(.int .i64 0)], [(.int .i64 0)], [(.int .i64 0)], [(.string ByteArray.empty)], (idCells zeroId), [(.slice none 0 0)]] Tryz.sizeOf72 rfl rfl rfl rfl ⟨[[(.int .i64 0)], [(.int .i64 0)], [(.int .i64 0)], [(.int .i64 0)], [(.int .i64 0)], [(.int .i64 0)], [(.int .i64 0)], [(.string ByteArray.empty)], (idCells zeroId), [(.slice none 0 0)]], [], rfl, rfl, rfl⟩ rfl ?_)
    intro w195 hg196 H197
    refine O_nil (Then_n (W_ret (Then_r ?_)))
    refine ret_c Tryz.results64 (inMem (cs := [[(.int .i64 0)], [(.int .i64 0)], [(.int .i64 0)], [(.int .i64 0)], [(.int .i64 0)], [(.int .i64 0)], [(.int .i64 0)], [(.string ByteArray.empty)], (idCells zeroId), [(.slice none 0 0)]]) rfl Tryz.isAgg72 Tryz.sizeOf72 rfl (boxR_at (H197.getOwn 2 rfl))) ?_
    have H198 := H197.addNil 69 2 stampCh
    have HQ := ((H198.pick (B' := [boxR br 132 (rdCh r189)]) (I' := [slI Sr encB 1 r189.bh r189.b]) [4] (by decide) rfl (List.forall_mem_cons.2 ⟨List.mem_of_getElem? (i := 0) rfl, fun _ h => (nomatch h)⟩)).rdStart)
    exact ⟨r189, ({ kind := 0, tm := ({ T := 0, R := 0 } : Stamp), node := ({ T := 0, R := 0 } : Stamp), par := ({ T := 0, R := 0 } : Stamp), name := ByteArray.empty, data := zeroId, over := [], oh := nilH } : OpS), rfl, H198.gr, HQ, (hr193.trans (congrArg Prod.snd (op_fail (opRead_e hK hgo (by omega)) hc188)).symm), H198.retRowM 4 0 (by decide) rfl rfl, (congrArg Prod.fst (op_fail (opRead_e hK hgo (by omega)) hc188)).symm⟩
   ·have hc188 : (rq.2 = false ∧ (goodOp ({ kind := ((((rdNum q 2).1) : Nat) : Int), tm := ((rdAt ((rdNum q 2).2)).1), node := ((rdAt ((rdAt ((rdNum q 2).2)).2)).1), par := ({ T := 0, R := 0 } : Stamp), name := ByteArray.empty, data := (rdId ((rdAt ((rdAt ((rdNum q 2).2)).2)).2)).1, over := acc, oh := ho } : OpS)) = true) := (And.imp (fun h => (notT (notF h))) (fun h => (notF h)) (orF hc188))
    refine W_skip (Then_n (W_seq (W_reg ?_)))
    refine O_v rfl (R_loadA (cs := [[(.int .i64 ((((rdNum q 2).1) : Nat) : Int))], [(.int .i64 (((rdAt ((rdNum q 2).2)).1).T))], [(.int .i64 (((rdAt ((rdNum q 2).2)).1).R))], [(.int .i64 (((rdAt ((rdAt ((rdNum q 2).2)).2)).1).T))], [(.int .i64 (((rdAt ((rdAt ((rdNum q 2).2)).2)).1).R))], [(.int .i64 0)], [(.int .i64 0)], [(.string ByteArray.empty)], (idCells ((rdId ((rdAt ((rdAt ((rdNum q 2).2)).2)).2)).1)), [(slV ho acc)]]) Tryz.isAgg72 Tryz.sizeOf72 rfl rfl ((boxR_at (H187.getOwn 1 rfl)).chunks 0 10 0 0 _ rfl rfl rfl) ?_)
    refine O_u (C_storeA H187 2 rfl 0 (sub := [[(.int .i64 ((((rdNum q 2).1) : Nat) : Int))], [(.int .i64 (((rdAt ((rdNum q 2).2)).1).T))], [(.int .i64 (((rdAt ((rdNum q 2).2)).1).R))], [(.int .i64 (((rdAt ((rdAt ((rdNum q 2).2)).2)).1).T))], [(.int .i64 (((rdAt ((rdAt ((rdNum q 2).2)).2)).1).R))], [(.int .i64 0)], [(.int .i64 0)], [(.string ByteArray.empty)], (idCells ((rdId ((rdAt ((rdAt ((rdNum q 2).2)).2)).2)).1)), [(slV ho acc)]]) [[(.int .i64 ((((rdNum q 2).1) : Nat) : Int))], [(.int .i64 (((rdAt ((rdNum q 2).2)).1).T))], [(.int .i64 (((rdAt ((rdNum q 2).2)).1).R))], [(.int .i64 (((rdAt ((rdAt ((rdNum q 2).2)).2)).1).T))], [(.int .i64 (((rdAt ((rdAt ((rdNum q 2).2)).2)).1).R))], [(.int .i64 0)], [(.int .i64 0)], [(.string ByteArray.empty)], (idCells ((rdId ((rdAt ((rdAt ((rdNum q 2).2)).2)).2)).1)), [(slV ho acc)]] Tryz.sizeOf72 rfl rfl rfl rfl ⟨[[(.int .i64 0)], [(.int .i64 0)], [(.int .i64 0)], [(.int .i64 0)], [(.int .i64 0)], [(.int .i64 0)], [(.int .i64 0)], [(.string ByteArray.empty)], (idCells zeroId), [(.slice none 0 0)]], [], rfl, rfl, rfl⟩ rfl ?_)
    intro w199 hg200 H201
    refine O_nil (Then_n (W_ret ?_))
    refine ret_c Tryz.results64 (inMem (cs := [[(.int .i64 ((((rdNum q 2).1) : Nat) : Int))], [(.int .i64 (((rdAt ((rdNum q 2).2)).1).T))], [(.int .i64 (((rdAt ((rdNum q 2).2)).1).R))], [(.int .i64 (((rdAt ((rdAt ((rdNum q 2).2)).2)).1).T))], [(.int .i64 (((rdAt ((rdAt ((rdNum q 2).2)).2)).1).R))], [(.int .i64 0)], [(.int .i64 0)], [(.string ByteArray.empty)], (idCells ((rdId ((rdAt ((rdAt ((rdNum q 2).2)).2)).2)).1)), [(slV ho acc)]]) rfl Tryz.isAgg72 Tryz.sizeOf72 rfl (boxR_at (H201.getOwn 2 rfl))) ?_
    have HQ := ((H201.pick (B' := [boxR br 132 (rdCh r167)]) (I' := [slI Sr encB 1 r167.bh r167.b]) [3] (by decide) rfl (List.forall_mem_cons.2 ⟨List.mem_of_getElem? (i := 0) rfl, fun _ h => (nomatch h)⟩)).rdStart)
    exact ⟨r167, ({ kind := ((((rdNum q 2).1) : Nat) : Int), tm := ((rdAt ((rdNum q 2).2)).1), node := ((rdAt ((rdAt ((rdNum q 2).2)).2)).1), par := ({ T := 0, R := 0 } : Stamp), name := ByteArray.empty, data := (rdId ((rdAt ((rdAt ((rdNum q 2).2)).2)).2)).1, over := acc, oh := ho } : OpS), rfl, H201.gr, HQ, (hr171.trans (congrArg Prod.snd (op_ok (opRead_e hK hgo (by omega)) hc188)).symm), H201.retRowM 3 0 (by decide) rfl rfl, (congrArg Prod.fst (op_ok (opRead_e hK hgo (by omega)) hc188)).symm⟩

end Go.Proofs.YthjdhfoeckfmbaaGreat
namespace Go.Proofs.YthjdhfoeckfmbaaGreat
open Go
set_option maxRecDepth 100000
set_option linter.unusedVariables false
set_option linter.unusedSimpArgs false
set_option linter.unusedSectionVars false
theorem obj_Change_c45 : callable Tryz.prog 45 = true := by kernel_rfl
theorem obj_Change_c46 : callable Tryz.prog 46 = true := by kernel_rfl
theorem obj_Change_c49 : callable Tryz.prog 49 = true := by kernel_rfl
theorem obj_Change_c58 : callable Tryz.prog 58 = true := by kernel_rfl
theorem obj_Change_c63 : callable Tryz.prog 63 = true := by kernel_rfl
theorem obj_Change_c64 : callable Tryz.prog 64 = true := by kernel_rfl
theorem obj_Change_c65 : callable Tryz.prog 65 = true := by kernel_rfl
set_option maxHeartbeats 4000000 in
theorem obj_Change (hb : SlH) (b : List UInt8) (w : World) (Sb : Sl (Old w) encB 1 hb b w) (hl : b.length ≤ 140737488355328) :
    Calls Tryz.prog 25 #[(slV hb b)] w (Ret fun v w' => ∃ (X : ChangeS) (SX : Nat → Prop) (e : Int), v = .tuple #[changeV X, .int .i64 e] ∧ Ext w w' ∧ (∀ b, SX b → w.heap.size ≤ b ∧ b < w'.heap.size) ∧ Sl SX idCh 32 X.ph X.parents w' ∧ Sl SX opCh 41 X.oh X.ops w' ∧ (∀ x ∈ X.ops, Sl SX stampCh 2 x.oh x.over w') ∧ ((X.core, e) = changeOf b)) := by
 refine calls_W Tryz.func25 rfl Tryz.ntmps25 rfl ?_
 have H0 := Ctx.start w nob
 have H1 := H0.addSl _ Sb (fun b hb => ⟨hb, fun _ ho => (nomatch ho)⟩)
 have LSb := Sb.len
 refine W_seq (W_reg ?_)
 refine O_v rfl (C_alloc H1 [[(.slice none 0 0)], [(.int .i64 0)], [(.int .i64 0)], [(.slice none 0 0)], (idCells zeroId), [(.string ByteArray.empty)]] Tryz.zeroValue47 ?_)
 intro b2 w3 hb4 hx5 H6
 refine O_v rfl (R_assign (v := (.int .i64 0)) rfl ?_)
 refine O_nil (Then_n (W_seq (W_reg ?_)))
 refine O_v rfl (R_move (v := (slV hb b)) rfl ?_)
 refine O_v rfl (R_callL (vs := [(slV hb b), (.int .u8 3)]) obj_Change_c45 rfl rfl ((obj_open hb b 3 w3 (H6.slOld 0 rfl) (by omega)).ret ?_))
 rintro _ w10 ⟨b7, r8, S9, rfl, hx11, hb12, hS13, hQ14, hr15⟩
 have H16 := H6.addRd hx11 hb12 hS13 hQ14
 refine O_v rfl (R_assign (v := (.pointer (some ⟨b7, 0, none⟩))) rfl ?_)
 refine O_nil (Then_n (W_seq (W_reg ?_)))
 refine O_v rfl (C_alloc H16 [[(.slice none 0 0)], [(.int .i64 0)], [(.int .i64 0)], [(.slice none 0 0)], (idCells zeroId), [(.string ByteArray.empty)]] Tryz.zeroValue47 ?_)
 intro b17 w18 hb19 hx20 H21
 refine O_nil (Then_n (W_seq (W_seq (W_reg ?_))))
 refine O_v rfl (R_move (v := (.pointer (some ⟨b7, 0, none⟩))) rfl ?_)
 refine O_v rfl (R_callL (vs := [(.pointer (some ⟨b7, 0, none⟩)), (.int .i64 2)]) obj_Change_c46 rfl rfl ((Reader_Num b7 r8 S9 (openSt b 3) 2 w18 ((H21.pick (B' := [boxR b7 132 (rdCh r8)]) (I' := [slI S9 encB 1 r8.bh r8.b]) [1] (by decide) rfl (List.forall_mem_cons.2 ⟨List.mem_of_getElem? (i := 0) rfl, fun _ h => (nomatch h)⟩)).rdStart) hr15).ret ?_))
 rintro _ w23 ⟨r22, rfl, hg24, hQ25, hr26⟩
 have H27 := H21.rdUpd (r := r8) 1 0 rfl rfl hg24 hQ25
 refine O_v rfl (R_move (v := (.int .i64 0)) rfl ?_)
 refine O_nil (Then_n (W_block ?_))
 have H28 := H27.addNil 45 32 idCh
 refine W_loop (fun m29 e30 w31 => ∃ (k : Nat), ∃ (pacc : List ID), ∃ (rr : RdS), ∃ (rq : List UInt8 × Bool), ∃ (hp : SlH), m29 = (rdNum (openSt b 3) 2).1 - k ∧ (k ≤ (rdNum (openSt b 3) 2).1) ∧ ((rdNum (openSt b 3) 2).1 ≤ 2) ∧ (pacc.length ≤ k) ∧ (rr.st = rq) ∧ (rdIds ((rdNum (openSt b 3) 2).1 - k) pacc rq = rdIds (rdNum (openSt b 3) 2).1 [] (rdNum (openSt b 3) 2).2) ∧ ∃ eb32, e30 = envL [(2, (.pointer (some ⟨b2, 0, none⟩))), (3, (.int .i64 0)), (4, (.pointer (some ⟨b7, 0, none⟩))), (5, (.pointer (some ⟨b17, 0, none⟩))), (9, (.int .i64 ((((rdNum (openSt b 3) 2).1) : Nat) : Int))), (10, (.int .i64 ((k : Nat) : Int)))] eb32 ∧ Ctx w nob w31 [rowR 45 32 idCh hp pacc, boxR b17 47 [[(slV hp pacc)], [(.int .i64 0)], [(.int .i64 0)], [(.slice none 0 0)], (idCells zeroId), [(.string ByteArray.empty)]], boxR b7 132 [[(slV rr.bh rr.b)], [(.bool rr.bad)]], boxR b2 47 [[(.slice none 0 0)], [(.int .i64 0)], [(.int .i64 0)], [(.slice none 0 0)], (idCells zeroId), [(.string ByteArray.empty)]]] [slI S9 encB 1 rr.bh rr.b, slI (Old w) encB 1 hb b]) _ ⟨0, [], r22, ((rdNum (openSt b 3) 2).2), nilH, rfl, (by omega), (rdNum_le _ (by decide)), (by simp), hr26, rfl, _, envL_self ⟨rfl, rfl, rfl, rfl, rfl, rfl, trivial⟩, H28⟩ ?_
 rintro m29 _ w31 ⟨k, pacc, rr, rq, hp, rfl, hk, hm, hal, hrr, hgo, eb32, rfl, H33⟩
 refine W_seq (W_reg ?_)
 refine O_v rfl (R_cmp (a := ((k : Nat) : Int)) (b := ((((rdNum (openSt b 3) 2).1) : Nat) : Int)) (r := (decide (((k : Nat) : Int) < ((((rdNum (openSt b 3) 2).1) : Nat) : Int)))) rfl rfl rfl ?_)
 refine O_nil (Then_n (W_seq ?_))
 refine W_cond (t := (decide (((k : Nat) : Int) < ((((rdNum (openSt b 3) 2).1) : Nat) : Int)))) rfl (fun hc34 => ?_) (fun hc34 => ?_)
 ·have hc34 : (((k : Nat) : Int) < ((((rdNum (openSt b 3) 2).1) : Nat) : Int)) := (of_decide_eq_true hc34)
  refine W_skip (Then_n (W_seq (W_block ?_)))
  refine W_rgdM TryzMixed (fun c => c = b7) (fun i => if i == 3 then 1 else if i == 5 || i == 7 then 2 else 0) [(0, .q 2), (1, .q 1), (2, .q 2), (3, .c 1), (4, .c 0), (5, .c 2), (6, .q 2), (7, .c 2)] (by kernel_rfl) ?_
  refine Lx_q (i := 0) rfl rfl _ (fun v35 hv36 => R_fieldAddr (off := 0) (oo := 0) Tryz.underlying47 rfl rfl Tryz.sizeOf39 rfl rfl ⟨rfl, Gr.refl _ _⟩) ?_
  refine Lx_q (i := 1) rfl rfl _ (fun v37 hv38 => R_load1 (v := (slV hp pacc)) Tryz.isAgg39 rfl ((boxR_at (H33.ownGr 1 2 (by decide) rfl rfl hv38 (fun _ h => congrArg some h.symm))).chunks 0 1 0 0 _ rfl rfl rfl) ⟨rfl, Gr.refl _ _⟩) ?_
  refine Lx_q (i := 2) rfl rfl _ (fun v39 hv40 => R_move (v := (.pointer (some ⟨b7, 0, none⟩))) rfl ⟨rfl, Gr.refl _ _⟩) ?_
  refine Lx_c (i := 3) rfl rfl (fun w41 hw42 => ?_)
  have H43 := H33.ext hw42
  refine (R_callL (vs := [(.pointer (some ⟨b7, 0, none⟩))]) obj_Change_c63 rfl rfl ((Reader_Id b7 rr S9 rq w41 ((H43.pick (B' := [boxR b7 132 (rdCh rr)]) (I' := [slI S9 encB 1 rr.bh rr.b]) [2] (by decide) rfl (List.forall_mem_cons.2 ⟨List.mem_of_getElem? (i := 0) rfl, fun _ h => (nomatch h)⟩)).rdStart) hrr).ret ?_))
  rintro _ w45 ⟨r44, rfl, hg46, hQ47, hr48⟩
  have H49 := H43.rdUpd (r := rr) 2 0 rfl rfl hg46 hQ47
  refine ⟨hg46, ?_⟩
  refine Lx_c (i := 4) rfl rfl (fun w50 hw51 => ?_)
  have H52 := H49.ext hw51
  refine (C_buildSliceL H52 (enc := idCh) (val := idV) ([(rdId rq).1] : List ID) Tryz.underlying39 Tryz.sizeOf45 Tryz.zeroValue45 rfl (by decide) (fun _ => rfl) (fun _ => rfl) rfl rfl (by decide) ?_)
  intro b53 w54 hb55 hx56 H57
  refine ⟨GrF.ofExt hx56, ?_⟩
  refine Lx_c (i := 5) rfl rfl (fun w58 hw59 => ?_)
  have H60 := H57.ext hw59
  refine (C_append H60 1 rfl (bytes := 32) (l := pacc) (ys := ([(rdId rq).1] : List ID)) Tryz.underlying39 rfl rfl rfl rfl rfl (by decide) rfl rfl (OwnS.sl (H60.getOwn 0 rfl) (fun _ => rfl)) (fun _ => rfl) (fun _ => rfl) (by simp only [List.length_append, List.length_cons, List.length_nil]; omega) (by decide) ?_)
  intro h61 w62 hg63 H64
  refine ⟨Gr.mono (M' := fun _ => True) hg63 (fun _ _ => trivial), ?_⟩
  refine Lx_q (i := 6) rfl rfl _ (fun v65 hv66 => R_fieldAddr (off := 0) (oo := 0) Tryz.underlying47 rfl rfl Tryz.sizeOf39 rfl rfl ⟨rfl, Gr.refl _ _⟩) ?_
  refine Lx_cu (i := 7) rfl (fun w67 hw68 => ?_)
  have H69 := H64.ext hw68
  refine (C_store1 H69 2 rfl 0 (v := (slV h61 (pacc ++ ([(rdId rq).1] : List ID)))) [[(slV h61 (pacc ++ ([(rdId rq).1] : List ID)))], [(.int .i64 0)], [(.int .i64 0)], [(.slice none 0 0)], (idCells zeroId), [(.string ByteArray.empty)]] Tryz.sizeOf39 rfl rfl rfl rfl rfl rfl rfl ?_)
  intro w70 hg71 H72
  refine ⟨Gr.mono (M' := fun _ => True) hg71 (fun _ _ => trivial), ?_⟩
  refine Lx_nil (fun w73 hw74 => ?_)
  have H75 := H72.ext hw74
  refine Blk_n (Then_n (W_reg ?_))
  refine O_v rfl (R_arith (a := ((k : Nat) : Int)) (b := 1) (r0 := ((k : Nat) : Int) + 1) (r := ((k + 1 : Nat) : Int)) rfl rfl rfl (wrapN _ (by omega)) ?_)
  refine O_v rfl (R_move (v := (.int .i64 ((k + 1 : Nat) : Int))) rfl ?_)
  refine O_nil (Then_n ?_)
  have H76 := H75.sub (B' := [rowR 45 32 idCh h61 (pacc ++ ([(rdId rq).1] : List ID)), boxR b17 47 [[(slV h61 (pacc ++ ([(rdId rq).1] : List ID)))], [(.int .i64 0)], [(.int .i64 0)], [(.slice none 0 0)], (idCells zeroId), [(.string ByteArray.empty)]], boxR b7 132 [[(slV r44.bh r44.b)], [(.bool r44.bad)]], boxR b2 47 [[(.slice none 0 0)], [(.int .i64 0)], [(.int .i64 0)], [(.slice none 0 0)], (idCells zeroId), [(.string ByteArray.empty)]]]) (I' := [slI S9 encB 1 r44.bh r44.b, slI (Old w) encB 1 hb b]) (List.Sublist.cons _ (List.Sublist.cons_cons _ (List.Sublist.cons_cons _ (List.Sublist.cons_cons _ (List.Sublist.cons_cons _ List.Sublist.slnil))))) (List.forall_mem_cons.2 ⟨List.mem_of_getElem? (i := 0) rfl, List.forall_mem_cons.2 ⟨List.mem_of_getElem? (i := 1) rfl, fun _ h => (nomatch h)⟩⟩)
  refine ⟨_, ?_, (k + 1), (pacc ++ ([(rdId rq).1] : List ID)), r44, ((rdId rq).2), h61, rfl, (by omega), hm, (by simp only [List.length_append, List.length_cons, List.length_nil]; omega), hr48, (ids_next hgo (by omega)), _, envL_self ⟨rfl, rfl, rfl, rfl, rfl, rfl, trivial⟩, H76⟩
  omega
 ·have hc34 : ¬ (((k : Nat) : Int) < ((((rdNum (openSt b 3) 2).1) : Nat) : Int)) := (of_decide_eq_false hc34)
  refine W_exit (Then_x (Then_x (Blk_x (Then_n (W_seq (W_reg ?_))))))
  refine O_v rfl (R_move (v := (.pointer (some ⟨b7, 0, none⟩))) rfl ?_)
  refine O_v rfl (R_callL (vs := [(.pointer (some ⟨b7, 0, none⟩)), (.int .i64 1099511627776)]) obj_Change_c46 rfl rfl ((Reader_Num b7 rr S9 rq 1099511627776 w31 ((H33.pick (B' := [boxR b7 132 (rdCh rr)]) (I' := [slI S9 encB 1 rr.bh rr.b]) [2] (by decide) rfl (List.forall_mem_cons.2 ⟨List.mem_of_getElem? (i := 0) rfl, fun _ h => (nomatch h)⟩)).rdStart) hrr).ret ?_))
  rintro _ w78 ⟨r77, rfl, hg79, hQ80, hr81⟩
  have H82 := H33.rdUpd (r := rr) 2 0 rfl rfl hg79 hQ80
  refine O_v rfl (R_fieldAddr (off := 1) (oo := 1) Tryz.underlying47 rfl rfl Tryz.sizeOf2 rfl rfl ?_)
  refine O_u (C_store1 H82 1 rfl 1 (v := (.int .i64 ((((rdNum rq 1099511627776).1) : Nat) : Int))) [[(slV hp pacc)], [(.int .i64 ((((rdNum rq 1099511627776).1) : Nat) : Int))], [(.int .i64 0)], [(.slice none 0 0)], (idCells zeroId), [(.string ByteArray.empty)]] Tryz.sizeOf2 rfl rfl rfl rfl rfl rfl rfl ?_)
  intro w83 hg84 H85
  refine O_nil (Then_n (W_seq (W_reg ?_)))
  refine O_v rfl (R_move (v := (.pointer (some ⟨b7, 0, none⟩))) rfl ?_)
  refine O_v rfl (R_callL (vs := [(.pointer (some ⟨b7, 0, none⟩)), (.int .i64 65536)]) obj_Change_c46 rfl rfl ((Reader_Num b7 r77 S9 ((rdNum rq 1099511627776).2) 65536 w83 ((H85.pick (B' := [boxR b7 132 (rdCh r77)]) (I' := [slI S9 encB 1 r77.bh r77.b]) [2] (by decide) rfl (List.forall_mem_cons.2 ⟨List.mem_of_getElem? (i := 0) rfl, fun _ h => (nomatch h)⟩)).rdStart) hr81).ret ?_))
  rintro _ w87 ⟨r86, rfl, hg88, hQ89, hr90⟩
  have H91 := H85.rdUpd (r := r77) 2 0 rfl rfl hg88 hQ89
  refine O_v rfl (R_fieldAddr (off := 2) (oo := 2) Tryz.underlying47 rfl rfl Tryz.sizeOf3 rfl rfl ?_)
  refine O_u (C_store1 H91 1 rfl 2 (v := (.int .i64 ((((rdNum ((rdNum rq 1099511627776).2) 65536).1) : Nat) : Int))) [[(slV hp pacc)], [(.int .i64 ((((rdNum rq 1099511627776).1) : Nat) : Int))], [(.int .i64 ((((rdNum ((rdNum rq 1099511627776).2) 65536).1) : Nat) : Int))], [(.slice none 0 0)], (idCells zeroId), [(.string ByteArray.empty)]] Tryz.sizeOf3 rfl rfl rfl rfl rfl rfl rfl ?_)
  intro w92 hg93 H94
  refine O_nil (Then_n (W_seq (W_seq (W_reg ?_))))
  refine O_v rfl (R_move (v := (.pointer (some ⟨b7, 0, none⟩))) rfl ?_)
  refine O_v rfl (R_callL (vs := [(.pointer (some ⟨b7, 0, none⟩)), (.int .i64 64)]) obj_Change_c46 rfl rfl ((Reader_Num b7 r86 S9 ((rdNum ((rdNum rq 1099511627776).2) 65536).2) 64 w92 ((H94.pick (B' := [boxR b7 132 (rdCh r86)]) (I' := [slI S9 encB 1 r86.bh r86.b]) [2] (by decide) rfl (List.forall_mem_cons.2 ⟨List.mem_of_getElem? (i := 0) rfl, fun _ h => (nomatch h)⟩)).rdStart) hr90).ret ?_))
  rintro _ w96 ⟨r95, rfl, hg97, hQ98, hr99⟩
  have H100 := H94.rdUpd (r := r86) 2 0 rfl rfl hg97 hQ98
  refine O_v rfl (R_move (v := (.int .i64 0)) rfl ?_)
  refine O_nil (Then_n (W_block ?_))
  have H101 := H100.addNil 72 41 opCh
  have H102 := H101.deepNil stampCh 2 (fun x : OpS => x.oh) (fun x : OpS => x.over)
  refine W_loop (fun m103 e104 w105 => ∃ (j : Nat), ∃ (oacc : List OpS), ∃ (S : Nat → Prop), ∃ (rr2 : RdS), ∃ (rq2 : List UInt8 × Bool), ∃ (ho : SlH), m103 = (rdNum (rdNum (rdNum rq 1099511627776).2 65536).2 64).1 - j ∧ (j ≤ (rdNum (rdNum (rdNum rq 1099511627776).2 65536).2 64).1) ∧ ((rdNum (rdNum (rdNum rq 1099511627776).2 65536).2 64).1 ≤ 64) ∧ (oacc.length ≤ j) ∧ (∀ b, S b → w.heap.size ≤ b) ∧ (rr2.st = rq2) ∧ (rdOps ((rdNum (rdNum (rdNum rq 1099511627776).2 65536).2 64).1 - j) (oacc.map OpS.core) rq2 = rdOps (rdNum (rdNum (rdNum rq 1099511627776).2 65536).2 64).1 [] (rdNum (rdNum (rdNum rq 1099511627776).2 65536).2 64).2) ∧ ∃ eb106, e104 = envL [(2, (.pointer (some ⟨b2, 0, none⟩))), (3, (.int .i64 0)), (4, (.pointer (some ⟨b7, 0, none⟩))), (5, (.pointer (some ⟨b17, 0, none⟩))), (27, (.int .i64 ((((rdNum ((rdNum ((rdNum rq 1099511627776).2) 65536).2) 64).1) : Nat) : Int))), (28, (.int .i64 ((j : Nat) : Int)))] eb106 ∧ Ctx w nob w105 [rowR 72 41 opCh ho oacc, rowR 45 32 idCh hp pacc, boxR b17 47 [[(slV hp pacc)], [(.int .i64 ((((rdNum rq 1099511627776).1) : Nat) : Int))], [(.int .i64 ((((rdNum ((rdNum rq 1099511627776).2) 65536).1) : Nat) : Int))], [(slV ho oacc)], (idCells zeroId), [(.string ByteArray.empty)]], boxR b7 132 [[(slV rr2.bh rr2.b)], [(.bool rr2.bad)]], boxR b2 47 [[(.slice none 0 0)], [(.int .i64 0)], [(.int .i64 0)], [(.slice none 0 0)], (idCells zeroId), [(.string ByteArray.empty)]]] [deepI S stampCh 2 (fun x : OpS => x.oh) (fun x : OpS => x.over) oacc, slI S9 encB 1 rr2.bh rr2.b, slI (Old w) encB 1 hb b]) _ ⟨0, [], nob, r95, ((rdNum (rdNum (rdNum rq 1099511627776).2 65536).2 64).2), nilH, rfl, (by omega), (rdNum_le _ (by decide)), (by simp), (fun _ h => h.elim), hr99, rfl, _, envL_self ⟨rfl, rfl, rfl, rfl, rfl, rfl, trivial⟩, H102⟩ ?_
  rintro m103 _ w105 ⟨j, oacc, S, rr2, rq2, ho, rfl, hj, hm2, hal2, hS, hrr2, hgo2, eb106, rfl, H107⟩
  refine W_seq (W_reg ?_)
  refine O_v rfl (R_cmp (a := ((j : Nat) : Int)) (b := ((((rdNum ((rdNum ((rdNum rq 1099511627776).2) 65536).2) 64).1) : Nat) : Int)) (r := (decide (((j : Nat) : Int) < ((((rdNum ((rdNum ((rdNum rq 1099511627776).2) 65536).2) 64).1) : Nat) : Int)))) rfl rfl rfl ?_)
  refine O_nil (Then_n (W_seq ?_))
  refine W_cond (t := (decide (((j : Nat) : Int) < ((((rdNum ((rdNum ((rdNum rq 1099511627776).2) 65536).2) 64).1) : Nat) : Int)))) rfl (fun hc108 => ?_) (fun hc108 => ?_)
  ·have hc108 : (((j : Nat) : Int) < ((((rdNum ((rdNum ((rdNum rq 1099511627776).2) 65536).2) 64).1) : Nat) : Int)) := (of_decide_eq_true hc108)
   refine W_skip (Then_n (W_seq (W_block ?_)))
   refine W_rgdM TryzMixed (fun c => c = b7) (fun i => if i == 3 then 1 else if i == 5 || i == 7 then 2 else 0) [(0, .q 2), (1, .q 1), (2, .q 2), (3, .c 1), (4, .c 0), (5, .c 2), (6, .q 2), (7, .c 2)] (by kernel_rfl) ?_
   refine Lx_q (i := 0) rfl rfl _ (fun v109 hv110 => R_fieldAddr (off := 3) (oo := 3) Tryz.underlying47 rfl rfl Tryz.sizeOf43 rfl rfl ⟨rfl, Gr.refl _ _⟩) ?_
   refine Lx_q (i := 1) rfl rfl _ (fun v111 hv112 => R_load1 (v := (slV ho oacc)) Tryz.isAgg43 rfl ((boxR_at (H107.ownGr 2 3 (by decide) rfl rfl hv112 (fun _ h => congrArg some h.symm))).chunks 3 1 3 3 _ rfl rfl rfl) ⟨rfl, Gr.refl _ _⟩) ?_
   refine Lx_q (i := 2) rfl rfl _ (fun v113 hv114 => R_move (v := (.pointer (some ⟨b7, 0, none⟩))) rfl ⟨rfl, Gr.refl _ _⟩) ?_
   refine Lx_c (i := 3) rfl rfl (fun w115 hw116 => ?_)
   have H117 := H107.ext hw116
   refine (R_callL (vs := [(.pointer (some ⟨b7, 0, none⟩))]) obj_Change_c64 rfl rfl ((stamp_Get b7 rr2 S9 rq2 w115 ((H117.pick (B' := [boxR b7 132 (rdCh rr2)]) (I' := [slI S9 encB 1 rr2.bh rr2.b]) [3] (by decide) rfl (List.forall_mem_cons.2 ⟨List.mem_of_getElem? (i := 1) rfl, fun _ h => (nomatch h)⟩)).rdStart) hrr2).ret ?_))
   rintro _ w119 ⟨r118, x124, rfl, hg120, hQ121, hr122, ho125, hx126⟩
   have H123 := H117.rdRow (r := rr2) 3 1 rfl rfl hg120 hQ121 ho125
   refine ⟨hg120, ?_⟩
   refine Lx_c (i := 4) rfl rfl (fun w127 hw128 => ?_)
   have H129 := H123.ext hw128
   refine (C_buildSliceL H129 (enc := opCh) (val := opV) ([x124] : List OpS) Tryz.underlying43 Tryz.sizeOf72 Tryz.zeroValue72 rfl (by decide) (fun _ => rfl) (fun _ => rfl) rfl rfl (by decide) ?_)
   intro b130 w131 hb132 hx133 H134
   refine ⟨GrF.ofExt hx133, ?_⟩
   refine Lx_c (i := 5) rfl rfl (fun w135 hw136 => ?_)
   have H137 := H134.ext hw136
   refine (C_append H137 2 rfl (bytes := 128) (l := oacc) (ys := ([x124] : List OpS)) Tryz.underlying43 rfl rfl rfl rfl rfl (by decide) rfl rfl (OwnS.sl (H137.getOwn 0 rfl) (fun _ => rfl)) (fun _ => rfl) (fun _ => rfl) (by simp only [List.length_append, List.length_cons, List.length_nil]; omega) (by decide) ?_)
   intro h138 w139 hg140 H141
   refine ⟨Gr.mono (M' := fun _ => True) hg140 (fun _ _ => trivial), ?_⟩
   refine Lx_q (i := 6) rfl rfl _ (fun v142 hv143 => R_fieldAddr (off := 3) (oo := 3) Tryz.underlying47 rfl rfl Tryz.sizeOf43 rfl rfl ⟨rfl, Gr.refl _ _⟩) ?_
   refine Lx_cu (i := 7) rfl (fun w144 hw145 => ?_)
   have H146 := H141.ext hw145
   refine (C_store1 H146 4 rfl 3 (v := (slV h138 (oacc ++ ([x124] : List OpS)))) [[(slV hp pacc)], [(.int .i64 ((((rdNum rq 1099511627776).1) : Nat) : Int))], [(.int .i64 ((((rdNum ((rdNum rq 1099511627776).2) 65536).1) : Nat) : Int))], [(slV h138 (oacc ++ ([x124] : List OpS)))], (idCells zeroId), [(.string ByteArray.empty)]] Tryz.sizeOf43 rfl rfl rfl rfl rfl rfl rfl ?_)
   intro w147 hg148 H149
   refine ⟨Gr.mono (M' := fun _ => True) hg148 (fun _ _ => trivial), ?_⟩
   refine Lx_nil (fun w150 hw151 => ?_)
   have H152 := H149.ext hw151
   refine Blk_n (Then_n (W_reg ?_))
   refine O_v rfl (R_arith (a := ((j : Nat) : Int)) (b := 1) (r0 := ((j : Nat) : Int) + 1) (r := ((j + 1 : Nat) : Int)) rfl rfl rfl (wrapN _ (by omega)) ?_)
   refine O_v rfl (R_move (v := (.int .i64 ((j + 1 : Nat) : Int))) rfl ?_)
   refine O_nil (Then_n ?_)
   have H153 := H152.freeze 1 rfl (fun _ => rfl)
   have H154 := H153.deepSnoc 1 rfl 0 rfl (x124) rfl rfl
   have H155 := H154.sub (B' := [rowR 72 41 opCh h138 (oacc ++ ([x124] : List OpS)), rowR 45 32 idCh hp pacc, boxR b17 47 [[(slV hp pacc)], [(.int .i64 ((((rdNum rq 1099511627776).1) : Nat) : Int))], [(.int .i64 ((((rdNum ((rdNum rq 1099511627776).2) 65536).1) : Nat) : Int))], [(slV h138 (oacc ++ ([x124] : List OpS)))], (idCells zeroId), [(.string ByteArray.empty)]], boxR b7 132 [[(slV r118.bh r118.b)], [(.bool r118.bad)]], boxR b2 47 [[(.slice none 0 0)], [(.int .i64 0)], [(.int .i64 0)], [(.slice none 0 0)], (idCells zeroId), [(.string ByteArray.empty)]]]) (I' := [deepI (fun b => S b ∨ (fun z_ => (slV x124.oh x124.over).ownBlock = some z_) b) stampCh 2 (fun x : OpS => x.oh) (fun x : OpS => x.over) (oacc ++ ([x124] : List OpS)), slI S9 encB 1 r118.bh r118.b, slI (Old w) encB 1 hb b]) (List.Sublist.cons _ (List.Sublist.cons_cons _ (List.Sublist.cons_cons _ (List.Sublist.cons_cons _ (List.Sublist.cons_cons _ (List.Sublist.cons_cons _ List.Sublist.slnil)))))) (List.forall_mem_cons.2 ⟨List.mem_of_getElem? (i := 0) rfl, List.forall_mem_cons.2 ⟨List.mem_of_getElem? (i := 3) rfl, List.forall_mem_cons.2 ⟨List.mem_of_getElem? (i := 4) rfl, fun _ h => (nomatch h)⟩⟩⟩)
   refine ⟨_, ?_, (j + 1), (oacc ++ ([x124] : List OpS)), (fun b => S b ∨ (fun z_ => (slV x124.oh x124.over).ownBlock = some z_) b), r118, ((rdOp rq2).2), h138, rfl, (by omega), hm2, (by simp only [List.length_append, List.length_cons, List.length_nil]; omega), (fun b hb => hb.elim (hS b) (H152.newRow 1 rfl b)), hr122, (ops_next hgo2 (by omega) hx126), _, envL_self ⟨rfl, rfl, rfl, rfl, rfl, rfl, trivial⟩, H155⟩
   omega
  ·have hc108 : ¬ (((j : Nat) : Int) < ((((rdNum ((rdNum ((rdNum rq 1099511627776).2) 65536).2) 64).1) : Nat) : Int)) := (of_decide_eq_false hc108)
   refine W_exit (Then_x (Then_x (Blk_x (Then_n (W_seq (W_reg ?_))))))
   refine O_v rfl (R_move (v := (.pointer (some ⟨b7, 0, none⟩))) rfl ?_)
   refine O_v rfl (R_callL (vs := [(.pointer (some ⟨b7, 0, none⟩))]) obj_Change_c63 rfl rfl ((Reader_Id b7 rr2 S9 rq2 w105 ((H107.pick (B' := [boxR b7 132 (rdCh rr2)]) (I' := [slI S9 encB 1 rr2.bh rr2.b]) [3] (by decide) rfl (List.forall_mem_cons.2 ⟨List.mem_of_getElem? (i := 1) rfl, fun _ h => (nomatch h)⟩)).rdStart) hrr2).ret ?_))
   rintro _ w157 ⟨r156, rfl, hg158, hQ159, hr160⟩
   have H161 := H107.rdUpd (r := rr2) 3 1 rfl rfl hg158 hQ159
   refine O_v rfl (R_fieldAddr (off := 4) (oo := 4) Tryz.underlying47 rfl rfl Tryz.sizeOf45 rfl rfl ?_)
   refine O_u (C_storeA H161 2 rfl 4 (sub := [(idCells ((rdId rq2).1))]) [[(slV hp pacc)], [(.int .i64 ((((rdNum rq 1099511627776).1) : Nat) : Int))], [(.int .i64 ((((rdNum ((rdNum rq 1099511627776).2) 65536).1) : Nat) : Int))], [(slV ho oacc)], (idCells ((rdId rq2).1)), [(.string ByteArray.empty)]] Tryz.sizeOf45 rfl rfl rfl rfl ⟨[(idCells zeroId)], [[(.string ByteArray.empty)]], rfl, rfl, rfl⟩ rfl ?_)
   intro w162 hg163 H164
   refine O_nil (Then_n (W_seq (W_reg ?_)))
   refine O_v rfl (R_move (v := (.pointer (some ⟨b7, 0, none⟩))) rfl ?_)
   refine O_v rfl (R_callL (vs := [(.pointer (some ⟨b7, 0, none⟩)), (.int .i64 200)]) obj_Change_c65 rfl rfl ((Reader_Text b7 r156 S9 ((rdId rq2).2) 200 w162 ((H164.pick (B' := [boxR b7 132 (rdCh r156)]) (I' := [slI S9 encB 1 r156.bh r156.b]) [3] (by decide) rfl (List.forall_mem_cons.2 ⟨List.mem_of_getElem? (i := 1) rfl, fun _ h => (nomatch h)⟩)).rdStart) hr160).ret ?_))
   rintro _ w166 ⟨r165, rfl, hg167, hQ168, hr169⟩
   have H170 := H164.rdUpd (r := r156) 3 1 rfl rfl hg167 hQ168
   refine O_v rfl (R_fieldAddr (off := 36) (oo := 36) Tryz.underlying47 rfl rfl Tryz.sizeOf9 rfl rfl ?_)
   refine O_u (C_store1 H170 2 rfl 5 (v := (.string ((rdText ((rdId rq2).2) 200).1))) [[(slV hp pacc)], [(.int .i64 ((((rdNum rq 1099511627776).1) : Nat) : Int))], [(.int .i64 ((((rdNum ((rdNum rq 1099511627776).2) 65536).1) : Nat) : Int))], [(slV ho oacc)], (idCells ((rdId rq2).1)), [(.string ((rdText ((rdId rq2).2) 200).1))]] Tryz.sizeOf9 rfl rfl rfl rfl rfl rfl rfl ?_)
   intro w171 hg172 H173
   refine O_nil (Then_n (W_seq (W_seq ?_)))
   refine W_rgM (fun c => c = b7) (fun i => if i == 1 then 1 else 0) [(0, .q 2), (1, .c 1), (2, .q 2), (3, .q 2), (4, .q 1), (5, .q 0), (6, .q 2), (7, .q 2)] (by kernel_rfl) ?_
   refine Lx_q (i := 0) rfl rfl _ (fun v174 hv175 => R_move (v := (.pointer (some ⟨b7, 0, none⟩))) rfl ⟨rfl, Gr.refl _ _⟩) ?_
   refine Lx_c (i := 1) rfl rfl (fun w176 hw177 => ?_)
   have H178 := H173.ext hw177
   refine (R_callL (vs := [(.pointer (some ⟨b7, 0, none⟩))]) obj_Change_c49 rfl rfl ((Reader_Done b7 r165 S9 ((rdText ((rdId rq2).2) 200).2) w176 ((H178.pick (B' := [boxR b7 132 (rdCh r165)]) (I' := [slI S9 encB 1 r165.bh r165.b]) [3] (by decide) rfl (List.forall_mem_cons.2 ⟨List.mem_of_getElem? (i := 1) rfl, fun _ h => (nomatch h)⟩)).rdStart) hr169).ret ?_))
   rintro _ w180 ⟨r179, rfl, hg181, hQ182, hr183⟩
   have H184 := H178.rdUpd (r := r165) 3 1 rfl rfl hg181 hQ182
   refine ⟨hg181, ?_⟩
   refine Lx_q (i := 2) rfl rfl _ (fun v185 hv186 => R_not rfl ⟨rfl, Gr.refl _ _⟩) ?_
   refine Lx_q (i := 3) rfl rfl _ (fun v187 hv188 => R_move (v := (.bool (!(rdDone ((rdText ((rdId rq2).2) 200).2))))) rfl ⟨rfl, Gr.refl _ _⟩) ?_
   refine Lx_qg (i := 4) true (!(rdDone ((rdText ((rdId rq2).2) 200).2))) rfl rfl rfl rfl rfl (!(!(rdDone ((rdText ((rdId rq2).2) 200).2)))) ga_f _ (fun hA v189 hv190 => R_loadA (cs := [[(slV hp pacc)], [(.int .i64 ((((rdNum rq 1099511627776).1) : Nat) : Int))], [(.int .i64 ((((rdNum ((rdNum rq 1099511627776).2) 65536).1) : Nat) : Int))], [(slV ho oacc)], (idCells ((rdId rq2).1)), [(.string ((rdText ((rdId rq2).2) 200).1))]]) Tryz.isAgg47 Tryz.sizeOf47 rfl rfl ((boxR_at (H184.ownGr 2 3 (by decide) rfl rfl hv190 (fun _ h => congrArg some h.symm))).chunks 0 6 0 0 _ rfl rfl rfl) ⟨rfl, Gr.refl _ _⟩) ?_
   refine Lx_qg (i := 5) true (!(rdDone ((rdText ((rdId rq2).2) 200).2))) rfl rfl rfl rfl rfl (!(!(rdDone ((rdText ((rdId rq2).2) 200).2)))) ga_f (.bool (changeOk ({ parents := pacc, ph := hp, time := ((((rdNum rq 1099511627776).1) : Nat) : Int), r := ((((rdNum ((rdNum rq 1099511627776).2) 65536).1) : Nat) : Int), ops := oacc, oh := ho, tree := (rdId rq2).1, msg := (rdText ((rdId rq2).2) 200).1 } : ChangeS))) (fun hA v191 hv192 => R_callL (vs := [(aggOf [[(slV hp pacc)], [(.int .i64 ((((rdNum rq 1099511627776).1) : Nat) : Int))], [(.int .i64 ((((rdNum ((rdNum rq 1099511627776).2) 65536).1) : Nat) : Int))], [(slV ho oacc)], (idCells ((rdId rq2).1)), [(.string ((rdText ((rdId rq2).2) 200).1))]])]) obj_Change_c58 rfl (lst1 (gv_t hA)) (obj_rightChange ({ parents := pacc, ph := hp, time := ((((rdNum rq 1099511627776).1) : Nat) : Int), r := ((((rdNum ((rdNum rq 1099511627776).2) 65536).1) : Nat) : Int), ops := oacc, oh := ho, tree := (rdId rq2).1, msg := (rdText ((rdId rq2).2) 200).1 } : ChangeS) v191 ((H184.ext hv192).rowSl 1 rfl (fun _ => rfl)) ((H184.ext hv192).rowSl 0 rfl (fun _ => rfl)) ((H184.ext hv192).deepOld 0 rfl))) ?_
   refine Lx_qg (i := 6) true (!(rdDone ((rdText ((rdId rq2).2) 200).2))) rfl rfl rfl rfl rfl (!(!(rdDone ((rdText ((rdId rq2).2) 200).2)))) ga_f _ (fun hA v193 hv194 => R_not (gv_t hA) ⟨rfl, Gr.refl _ _⟩) ?_
   refine Lx_q (i := 7) rfl rfl _ (fun v195 hv196 => R_pick (t := (!(rdDone ((rdText ((rdId rq2).2) 200).2)))) (v := (.bool ((!(rdDone ((rdText ((rdId rq2).2) 200).2))) || (!(changeOk ({ parents := pacc, ph := hp, time := ((((rdNum rq 1099511627776).1) : Nat) : Int), r := ((((rdNum ((rdNum rq 1099511627776).2) 65536).1) : Nat) : Int), ops := oacc, oh := ho, tree := (rdId rq2).1, msg := (rdText ((rdId rq2).2) 200).1 } : ChangeS)))))) rfl pk_or ⟨rfl, Gr.refl _ _⟩) ?_
   refine Lx_nil (fun w197 hw198 => ?_)
   have H199 := H184.ext hw198
   refine Then_n ?_
   refine W_cond (t := ((!(rdDone ((rdText ((rdId rq2).2) 200).2))) || (!(changeOk ({ parents := pacc, ph := hp, time := ((((rdNum rq 1099511627776).1) : Nat) : Int), r := ((((rdNum ((rdNum rq 1099511627776).2) 65536).1) : Nat) : Int), ops := oacc, oh := ho, tree := (rdId rq2).1, msg := (rdText ((rdId rq2).2) 200).1 } : ChangeS))))) rfl (fun hc200 => ?_) (fun hc200 => ?_)
   ·have hc200 : ((rdDone ((rdText ((rdId rq2).2) 200).2)) = false ∨ (changeOk ({ parents := pacc, ph := hp, time := ((((rdNum rq 1099511627776).1) : Nat) : Int), r := ((((rdNum ((rdNum rq 1099511627776).2) 65536).1) : Nat) : Int), ops := oacc, oh := ho, tree := (rdId rq2).1, msg := (rdText ((rdId rq2).2) 200).1 } : ChangeS)) = false) := (Or.imp (fun h => (notT h)) (fun h => (notT h)) (orT hc200))
    refine W_seq (W_reg ?_)
    refine O_v rfl (R_buildL (vs := []) (v := aggOf [[(.slice none 0 0)], [(.int .i64 0)], [(.int .i64 0)], [(.slice none 0 0)], (idCells zeroId), [(.string ByteArray.empty)]]) rfl (fun _ => by kernel_rfl) ?_)
    refine O_u (C_storeA H199 4 rfl 0 (sub := [[(.slice none 0 0)], [(.int .i64 0)], [(.int .i64 0)], [(.slice none 0 0)], (idCells zeroId), [(.string ByteArray.empty)]]) [[(.slice none 0 0)], [(.int .i64 0)], [(.int .i64 0)], [(.slice none 0 0)], (idCells zeroId), [(.string ByteArray.empty)]] Tryz.sizeOf47 rfl rfl rfl rfl ⟨[[(.slice none 0 0)], [(.int .i64 0)], [(.int .i64 0)], [(.slice none 0 0)], (idCells zeroId), [(.string ByteArray.empty)]], [], rfl, rfl, rfl⟩ rfl ?_)
    intro w201 hg202 H203
    refine O_v rfl (R_assign (v := (.int .i64 20)) rfl ?_)
    refine O_nil (Then_n (W_ret (Then_r ?_)))
    refine ret_ct (v := (.int .i64 20)) Tryz.results25 (inMem (cs := [[(.slice none 0 0)], [(.int .i64 0)], [(.int .i64 0)], [(.slice none 0 0)], (idCells zeroId), [(.string ByteArray.empty)]]) rfl Tryz.isAgg47 Tryz.sizeOf47 rfl (boxR_at (H203.getOwn 4 rfl))) rfl ?_
    exact ⟨({ parents := [], ph := nilH, time := 0, r := 0, ops := [], oh := nilH, tree := zeroId, msg := ByteArray.empty } : ChangeS), (fun z_ => nob z_ ∨ nob z_ ∨ nob z_), 20, rfl, H203.gr, fun b hb => ⟨(hb.elim ((fun h => h.elim)) (fun h => h.elim ((fun h => h.elim)) ((fun h => h.elim)))), (hb.elim ((fun h => h.elim)) (fun h => h.elim ((fun h => h.elim)) ((fun h => h.elim))))⟩, (Sl.nil _ _ _ _), (Sl.nil _ _ _ _), (fun _ h => (nomatch h)), (change_no hc200 (change_rd (ids_end hgo (by omega)) (ops_end hgo2 (by omega))))⟩
   ·have hc200 : ((rdDone ((rdText ((rdId rq2).2) 200).2)) = true ∧ (changeOk ({ parents := pacc, ph := hp, time := ((((rdNum rq 1099511627776).1) : Nat) : Int), r := ((((rdNum ((rdNum rq 1099511627776).2) 65536).1) : Nat) : Int), ops := oacc, oh := ho, tree := (rdId rq2).1, msg := (rdText ((rdId rq2).2) 200).1 } : ChangeS)) = true) := (And.imp (fun h => (notF h)) (fun h => (notF h)) (orF hc200))
    refine W_skip (Then_n (W_seq (W_reg ?_)))
    refine O_v rfl (R_loadA (cs := [[(slV hp pacc)], [(.int .i64 ((((rdNum rq 1099511627776).1) : Nat) : Int))], [(.int .i64 ((((rdNum ((rdNum rq 1099511627776).2) 65536).1) : Nat) : Int))], [(slV ho oacc)], (idCells ((rdId rq2).1)), [(.string ((rdText ((rdId rq2).2) 200).1))]]) Tryz.isAgg47 Tryz.sizeOf47 rfl rfl ((boxR_at (H199.getOwn 2 rfl)).chunks 0 6 0 0 _ rfl rfl rfl) ?_)
    refine O_u (C_storeA H199 4 rfl 0 (sub := [[(slV hp pacc)], [(.int .i64 ((((rdNum rq 1099511627776).1) : Nat) : Int))], [(.int .i64 ((((rdNum ((rdNum rq 1099511627776).2) 65536).1) : Nat) : Int))], [(slV ho oacc)], (idCells ((rdId rq2).1)), [(.string ((rdText ((rdId rq2).2) 200).1))]]) [[(slV hp pacc)], [(.int .i64 ((((rdNum rq 1099511627776).1) : Nat) : Int))], [(.int .i64 ((((rdNum ((rdNum rq 1099511627776).2) 65536).1) : Nat) : Int))], [(slV ho oacc)], (idCells ((rdId rq2).1)), [(.string ((rdText ((rdId rq2).2) 200).1))]] Tryz.sizeOf47 rfl rfl rfl rfl ⟨[[(.slice none 0 0)], [(.int .i64 0)], [(.int .i64 0)], [(.slice none 0 0)], (idCells zeroId), [(.string ByteArray.empty)]], [], rfl, rfl, rfl⟩ rfl ?_)
    intro w204 hg205 H206
    refine O_v rfl (R_assign (v := (.int .i64 0)) rfl ?_)
    refine O_nil (Then_n (W_ret ?_))
    refine ret_ct (v := (.int .i64 0)) Tryz.results25 (inMem (cs := [[(slV hp pacc)], [(.int .i64 ((((rdNum rq 1099511627776).1) : Nat) : Int))], [(.int .i64 ((((rdNum ((rdNum rq 1099511627776).2) 65536).1) : Nat) : Int))], [(slV ho oacc)], (idCells ((rdId rq2).1)), [(.string ((rdText ((rdId rq2).2) 200).1))]]) rfl Tryz.isAgg47 Tryz.sizeOf47 rfl (boxR_at (H206.getOwn 4 rfl))) rfl ?_
    have hn207 := H206.newRow 1 rfl
    have H208 := H206.freeze 1 rfl (fun _ => rfl)
    have hn209 := H208.newRow 0 rfl
    have H210 := H208.freeze 0 rfl (fun _ => rfl)
    exact ⟨({ parents := pacc, ph := hp, time := ((((rdNum rq 1099511627776).1) : Nat) : Int), r := ((((rdNum ((rdNum rq 1099511627776).2) 65536).1) : Nat) : Int), ops := oacc, oh := ho, tree := (rdId rq2).1, msg := (rdText ((rdId rq2).2) 200).1 } : ChangeS), (fun z_ => (fun z_ => (slV hp pacc).ownBlock = some z_) z_ ∨ (fun z_ => (slV ho oacc).ownBlock = some z_) z_ ∨ S z_), 0, rfl, H210.gr, fun b hb => ⟨(hb.elim (hn207 b) (fun h => h.elim (hn209 b) (hS b))), (hb.elim ((H210.imm _ (List.mem_of_getElem? (i := 1) rfl)).2 b) (fun h => h.elim ((H210.imm _ (List.mem_of_getElem? (i := 0) rfl)).2 b) ((H210.imm _ (List.mem_of_getElem? (i := 2) rfl)).2 b)))⟩, ((H210.sl 1 rfl).mono (fun _ h => .inl h)), ((H210.sl 0 rfl).mono (fun _ h => .inr (.inl h))), (fun o ho => ((H210.getImm 2 rfl) o ho).mono (fun _ h => .inr (.inr h))), (change_yes hc200 (change_rd (ids_end hgo (by omega)) (ops_end hgo2 (by omega))))⟩

end Go.Proofs.YthjdhfoeckfmbaaGreat
namespace Go.Proofs.YthjdhfoeckfmbaaGreat
open Go
set_option maxRecDepth 100000
set_option linter.unusedVariables false
set_option linter.unusedSimpArgs false
set_option linter.unusedSectionVars false
variable [DD]
theorem obj_getAt_c46 : callable Tryz.prog 46 = true := by kernel_rfl
set_option maxHeartbeats 1000000 in
theorem obj_getAt (br : Nat) (r : RdS) (Sr : Nat → Prop) (q : List UInt8 × Bool) (w : World) (Qr : RdQ 132 br Sr r w) (Er : r.st = q) :
    Calls Tryz.prog 89 #[(.pointer (some ⟨br, 0, none⟩))] w (Ret fun v w' => ∃ (r' : RdS), v = (aggOf (stampCh ((rdAt q).1))) ∧ Gr (fun c => c = br) w w' ∧ RdQ 132 br Sr r' w' ∧ r'.st = (rdAt q).2) := by
 refine calls_W Tryz.func89 rfl Tryz.ntmps89 rfl ?_
 have H0 := Qr
 refine W_seq (W_reg ?_)
 refine O_v rfl (C_alloc H0 [[(.int .i64 0)], [(.int .i64 0)]] Tryz.zeroValue69 ?_)
 intro b1 w2 hb3 hx4 H5
 refine O_nil (Then_n (W_seq (W_reg ?_)))
 refine O_v rfl (R_move (v := (.pointer (some ⟨br, 0, none⟩))) rfl ?_)
 refine O_v rfl (R_callL (vs := [(.pointer (some ⟨br, 0, none⟩)), (.int .i64 1099511627776)]) obj_getAt_c46 rfl rfl ((Reader_Num br r Sr q 1099511627776 w2 ((H5.pick (B' := [boxR br 132 (rdCh r)]) (I' := [slI Sr encB 1 r.bh r.b]) [1] (by decide) rfl (List.forall_mem_cons.2 ⟨List.mem_of_getElem? (i := 0) rfl, fun _ h => (nomatch h)⟩)).rdStart) Er).ret ?_))
 rintro _ w7 ⟨r6, rfl, hg8, hQ9, hr10⟩
 have H11 := H5.rdUpd (r := r) 1 0 rfl rfl hg8 hQ9
 refine O_v rfl (R_assign (v := (.int .i64 ((((rdNum q 1099511627776).1) : Nat) : Int))) rfl ?_)
 refine O_nil (Then_n (W_seq (W_reg ?_)))
 refine O_v rfl (R_move (v := (.int .i64 ((((rdNum q 1099511627776).1) : Nat) : Int))) rfl ?_)
 refine O_v rfl (R_move (v := (.pointer (some ⟨br, 0, none⟩))) rfl ?_)
 refine O_v rfl (R_callL (vs := [(.pointer (some ⟨br, 0, none⟩)), (.int .i64 65536)]) obj_getAt_c46 rfl rfl ((Reader_Num br r6 Sr ((rdNum q 1099511627776).2) 65536 w7 ((H11.pick (B' := [boxR br 132 (rdCh r6)]) (I' := [slI Sr encB 1 r6.bh r6.b]) [1] (by decide) rfl (List.forall_mem_cons.2 ⟨List.mem_of_getElem? (i := 0) rfl, fun _ h => (nomatch h)⟩)).rdStart) hr10).ret ?_))
 rintro _ w13 ⟨r12, rfl, hg14, hQ15, hr16⟩
 have H17 := H11.rdUpd (r := r6) 1 0 rfl rfl hg14 hQ15
 refine O_v rfl (R_buildL (vs := [(0, (.int .i64 ((((rdNum q 1099511627776).1) : Nat) : Int))), (1, (.int .i64 ((((rdNum ((rdNum q 1099511627776).2) 65536).1) : Nat) : Int)))]) (v := aggOf [[(.int .i64 ((((rdNum q 1099511627776).1) : Nat) : Int))], [(.int .i64 ((((rdNum ((rdNum q 1099511627776).2) 65536).1) : Nat) : Int))]]) rfl (fun _ => by kernel_rfl) ?_)
 refine O_u (C_storeA H17 0 rfl 0 (sub := [[(.int .i64 ((((rdNum q 1099511627776).1) : Nat) : Int))], [(.int .i64 ((((rdNum ((rdNum q 1099511627776).2) 65536).1) : Nat) : Int))]]) [[(.int .i64 ((((rdNum q 1099511627776).1) : Nat) : Int))], [(.int .i64 ((((rdNum ((rdNum q 1099511627776).2) 65536).1) : Nat) : Int))]] Tryz.sizeOf69 rfl rfl rfl rfl ⟨[[(.int .i64 0)], [(.int .i64 0)]], [], rfl, rfl, rfl⟩ rfl ?_)
 intro w18 hg19 H20
 refine O_nil (Then_n (W_ret ?_))
 refine ret_c Tryz.results89 (inMem (cs := [[(.int .i64 ((((rdNum q 1099511627776).1) : Nat) : Int))], [(.int .i64 ((((rdNum ((rdNum q 1099511627776).2) 65536).1) : Nat) : Int))]]) rfl Tryz.isAgg69 Tryz.sizeOf69 rfl (boxR_at (H20.getOwn 0 rfl))) ?_
 have HQ := ((H20.pick (B' := [boxR br 132 (rdCh r12)]) (I' := [slI Sr encB 1 r12.bh r12.b]) [1] (by decide) rfl (List.forall_mem_cons.2 ⟨List.mem_of_getElem? (i := 0) rfl, fun _ h => (nomatch h)⟩)).rdStart)
 exact ⟨r12, rfl, H20.gr, HQ, (hr16)⟩

end Go.Proofs.YthjdhfoeckfmbaaGreat
namespace Go.Proofs.YthjdhfoeckfmbaaGreat
open Go
set_option maxRecDepth 100000
set_option linter.unusedVariables false
set_option linter.unusedSimpArgs false
set_option linter.unusedSectionVars false
variable [DD]
theorem obj_getItem_c46 : callable Tryz.prog 46 = true := by kernel_rfl
theorem obj_getItem_c48 : callable Tryz.prog 48 = true := by kernel_rfl
theorem obj_getItem_c63 : callable Tryz.prog 63 = true := by kernel_rfl
theorem obj_getItem_c65 : callable Tryz.prog 65 = true := by kernel_rfl
theorem obj_getItem_c89 : callable Tryz.prog 89 = true := by kernel_rfl
set_option maxHeartbeats 2000000 in
theorem obj_getItem (br : Nat) (r : RdS) (Sr : Nat → Prop) (q : List UInt8 × Bool) (w : World) (Qr : RdQ 132 br Sr r w) (Er : r.st = q) :
    Calls Tryz.prog 47 #[(.pointer (some ⟨br, 0, none⟩))] w (Ret fun v w' => ∃ (r' : RdS) (X : ItemS), v = itemV X ∧ Gr (fun c => c = br) w w' ∧ RdQ 132 br Sr r' w' ∧ r'.st = (rdItem q).2 ∧ OwnS w.heap.size 84 34 headCh X.hh X.heads w' ∧ (X.core = (rdItem q).1)) := by
 refine calls_W Tryz.func47 rfl Tryz.ntmps47 rfl ?_
 have H0 := Qr
 refine W_seq (W_reg ?_)
 refine O_v rfl (C_alloc H0 [[(.int .i64 0)], [(.int .i64 0)], [(.int .i64 0)], [(.int .i64 0)], [(.string ByteArray.empty)], (idCells zeroId), [(.slice none 0 0)]] Tryz.zeroValue77 ?_)
 intro b1 w2 hb3 hx4 H5
 refine O_nil (Then_n (W_seq (W_reg ?_)))
 refine O_v rfl (R_move (v := (.pointer (some ⟨br, 0, none⟩))) rfl ?_)
 refine O_v rfl (R_callL (vs := [(.pointer (some ⟨br, 0, none⟩))]) obj_getItem_c89 rfl rfl ((obj_getAt br r Sr q w2 ((H5.pick (B' := [boxR br 132 (rdCh r)]) (I' := [slI Sr encB 1 r.bh r.b]) [1] (by decide) rfl (List.forall_mem_cons.2 ⟨List.mem_of_getElem? (i := 0) rfl, fun _ h => (nomatch h)⟩)).rdStart) Er).ret ?_))
 rintro _ w7 ⟨r6, rfl, hg8, hQ9, hr10⟩
 have H11 := H5.rdUpd (r := r) 1 0 rfl rfl hg8 hQ9
 refine O_v rfl (R_buildL (vs := [(0, (aggOf (stampCh ((rdAt q).1))))]) (v := aggOf [[(.int .i64 (((rdAt q).1).T))], [(.int .i64 (((rdAt q).1).R))], [(.int .i64 0)], [(.int .i64 0)], [(.string ByteArray.empty)], (idCells zeroId), [(.slice none 0 0)]]) rfl (fun _ => by kernel_rfl) ?_)
 refine O_v rfl (C_alloc H11 [[(.int .i64 0)], [(.int .i64 0)], [(.int .i64 0)], [(.int .i64 0)], [(.string ByteArray.empty)], (idCells zeroId), [(.slice none 0 0)]] Tryz.zeroValue77 ?_)
 intro b12 w13 hb14 hx15 H16
 refine O_u (C_storeA H16 0 rfl 0 (sub := [[(.int .i64 (((rdAt q).1).T))], [(.int .i64 (((rdAt q).1).R))], [(.int .i64 0)], [(.int .i64 0)], [(.string ByteArray.empty)], (idCells zeroId), [(.slice none 0 0)]]) [[(.int .i64 (((rdAt q).1).T))], [(.int .i64 (((rdAt q).1).R))], [(.int .i64 0)], [(.int .i64 0)], [(.string ByteArray.empty)], (idCells zeroId), [(.slice none 0 0)]] Tryz.sizeOf77 rfl rfl rfl rfl ⟨[[(.int .i64 0)], [(.int .i64 0)], [(.int .i64 0)], [(.int .i64 0)], [(.string ByteArray.empty)], (idCells zeroId), [(.slice none 0 0)]], [], rfl, rfl, rfl⟩ rfl ?_)
 intro w17 hg18 H19
 refine O_nil (Then_n (W_seq (W_reg ?_)))
 refine O_v rfl (R_move (v := (.pointer (some ⟨br, 0, none⟩))) rfl ?_)
 refine O_v rfl (R_callL (vs := [(.pointer (some ⟨br, 0, none⟩))]) obj_getItem_c89 rfl rfl ((obj_getAt br r6 Sr ((rdAt q).2) w17 ((H19.pick (B' := [boxR br 132 (rdCh r6)]) (I' := [slI Sr encB 1 r6.bh r6.b]) [2] (by decide) rfl (List.forall_mem_cons.2 ⟨List.mem_of_getElem? (i := 0) rfl, fun _ h => (nomatch h)⟩)).rdStart) hr10).ret ?_))
 rintro _ w21 ⟨r20, rfl, hg22, hQ23, hr24⟩
 have H25 := H19.rdUpd (r := r6) 2 0 rfl rfl hg22 hQ23
 refine O_v rfl (R_fieldAddr (off := 2) (oo := 2) Tryz.underlying77 rfl rfl Tryz.sizeOf69 rfl rfl ?_)
 refine O_u (C_storeA H25 0 rfl 2 (sub := [[(.int .i64 (((rdAt ((rdAt q).2)).1).T))], [(.int .i64 (((rdAt ((rdAt q).2)).1).R))]]) [[(.int .i64 (((rdAt q).1).T))], [(.int .i64 (((rdAt q).1).R))], [(.int .i64 (((rdAt ((rdAt q).2)).1).T))], [(.int .i64 (((rdAt ((rdAt q).2)).1).R))], [(.string ByteArray.empty)], (idCells zeroId), [(.slice none 0 0)]] Tryz.sizeOf69 rfl rfl rfl rfl ⟨[[(.int .i64 0)], [(.int .i64 0)]], [[(.string ByteArray.empty)], (idCells zeroId), [(.slice none 0 0)]], rfl, rfl, rfl⟩ rfl ?_)
 intro w26 hg27 H28
 refine O_nil (Then_n (W_seq (W_reg ?_)))
 refine O_v rfl (R_move (v := (.pointer (some ⟨br, 0, none⟩))) rfl ?_)
 refine O_v rfl (R_callL (vs := [(.pointer (some ⟨br, 0, none⟩)), (.int .i64 60)]) obj_getItem_c65 rfl rfl ((Reader_Text br r20 Sr ((rdAt ((rdAt q).2)).2) 60 w26 ((H28.pick (B' := [boxR br 132 (rdCh r20)]) (I' := [slI Sr encB 1 r20.bh r20.b]) [2] (by decide) rfl (List.forall_mem_cons.2 ⟨List.mem_of_getElem? (i := 0) rfl, fun _ h => (nomatch h)⟩)).rdStart) hr24).ret ?_))
 rintro _ w30 ⟨r29, rfl, hg31, hQ32, hr33⟩
 have H34 := H28.rdUpd (r := r20) 2 0 rfl rfl hg31 hQ32
 refine O_v rfl (R_fieldAddr (off := 4) (oo := 4) Tryz.underlying77 rfl rfl Tryz.sizeOf9 rfl rfl ?_)
 refine O_u (C_store1 H34 0 rfl 4 (v := (.string ((rdText ((rdAt ((rdAt q).2)).2) 60).1))) [[(.int .i64 (((rdAt q).1).T))], [(.int .i64 (((rdAt q).1).R))], [(.int .i64 (((rdAt ((rdAt q).2)).1).T))], [(.int .i64 (((rdAt ((rdAt q).2)).1).R))], [(.string ((rdText ((rdAt ((rdAt q).2)).2) 60).1))], (idCells zeroId), [(.slice none 0 0)]] Tryz.sizeOf9 rfl rfl rfl rfl rfl rfl rfl ?_)
 intro w35 hg36 H37
 refine O_nil (Then_n (W_seq (W_reg ?_)))
 refine O_v rfl (R_move (v := (.pointer (some ⟨br, 0, none⟩))) rfl ?_)
 refine O_v rfl (R_callL (vs := [(.pointer (some ⟨br, 0, none⟩))]) obj_getItem_c63 rfl rfl ((Reader_Id br r29 Sr ((rdText ((rdAt ((rdAt q).2)).2) 60).2) w35 ((H37.pick (B' := [boxR br 132 (rdCh r29)]) (I' := [slI Sr encB 1 r29.bh r29.b]) [2] (by decide) rfl (List.forall_mem_cons.2 ⟨List.mem_of_getElem? (i := 0) rfl, fun _ h => (nomatch h)⟩)).rdStart) hr33).ret ?_))
 rintro _ w39 ⟨r38, rfl, hg40, hQ41, hr42⟩
 have H43 := H37.rdUpd (r := r29) 2 0 rfl rfl hg40 hQ41
 refine O_v rfl (R_fieldAddr (off := 5) (oo := 5) Tryz.underlying77 rfl rfl Tryz.sizeOf45 rfl rfl ?_)
 refine O_u (C_storeA H43 0 rfl 5 (sub := [(idCells ((rdId ((rdText ((rdAt ((rdAt q).2)).2) 60).2)).1))]) [[(.int .i64 (((rdAt q).1).T))], [(.int .i64 (((rdAt q).1).R))], [(.int .i64 (((rdAt ((rdAt q).2)).1).T))], [(.int .i64 (((rdAt ((rdAt q).2)).1).R))], [(.string ((rdText ((rdAt ((rdAt q).2)).2) 60).1))], (idCells ((rdId ((rdText ((rdAt ((rdAt q).2)).2) 60).2)).1)), [(.slice none 0 0)]] Tryz.sizeOf45 rfl rfl rfl rfl ⟨[(idCells zeroId)], [[(.slice none 0 0)]], rfl, rfl, rfl⟩ rfl ?_)
 intro w44 hg45 H46
 refine O_nil (Then_n (W_seq (W_seq (W_reg ?_))))
 refine O_v rfl (R_move (v := (.pointer (some ⟨br, 0, none⟩))) rfl ?_)
 refine O_v rfl (R_callL (vs := [(.pointer (some ⟨br, 0, none⟩)), (.int .i64 1000)]) obj_getItem_c46 rfl rfl ((Reader_Num br r38 Sr ((rdId ((rdText ((rdAt ((rdAt q).2)).2) 60).2)).2) 1000 w44 ((H46.pick (B' := [boxR br 132 (rdCh r38)]) (I' := [slI Sr encB 1 r38.bh r38.b]) [2] (by decide) rfl (List.forall_mem_cons.2 ⟨List.mem_of_getElem? (i := 0) rfl, fun _ h => (nomatch h)⟩)).rdStart) hr42).ret ?_))
 rintro _ w48 ⟨r47, rfl, hg49, hQ50, hr51⟩
 have H52 := H46.rdUpd (r := r38) 2 0 rfl rfl hg49 hQ50
 refine O_v rfl (R_move (v := (.int .i64 0)) rfl ?_)
 refine O_nil (Then_n (W_block ?_))
 have H53 := H52.addNil 84 34 headCh
 refine W_loop (fun m54 e55 w56 => ∃ (k : Nat), ∃ (acc : List Head), ∃ (rr : RdS), ∃ (rq : List UInt8 × Bool), ∃ (ho : SlH), m54 = (rdNum (rdId (rdText (rdAt (rdAt q).2).2 60).2).2 1000).1 - k ∧ (k ≤ (rdNum (rdId (rdText (rdAt (rdAt q).2).2 60).2).2 1000).1) ∧ ((rdNum (rdId (rdText (rdAt (rdAt q).2).2 60).2).2 1000).1 ≤ 1000) ∧ (acc.length ≤ k) ∧ (rr.st = rq) ∧ (rdHeads ((rdNum (rdId (rdText (rdAt (rdAt q).2).2 60).2).2 1000).1 - k) acc rq = rdHeads (rdNum (rdId (rdText (rdAt (rdAt q).2).2 60).2).2 1000).1 [] (rdNum (rdId (rdText (rdAt (rdAt q).2).2 60).2).2 1000).2) ∧ ∃ eb57, e55 = envL [(0, (.pointer (some ⟨br, 0, none⟩))), (2, (.pointer (some ⟨b1, 0, none⟩))), (3, (.pointer (some ⟨b12, 0, none⟩))), (18, (.int .i64 ((((rdNum ((rdId ((rdText ((rdAt ((rdAt q).2)).2) 60).2)).2) 1000).1) : Nat) : Int))), (19, (.int .i64 ((k : Nat) : Int)))] eb57 ∧ Ctx w (fun c => c = br) w56 [rowR 84 34 headCh ho acc, boxR b12 77 [[(.int .i64 (((rdAt q).1).T))], [(.int .i64 (((rdAt q).1).R))], [(.int .i64 (((rdAt ((rdAt q).2)).1).T))], [(.int .i64 (((rdAt ((rdAt q).2)).1).R))], [(.string ((rdText ((rdAt ((rdAt q).2)).2) 60).1))], (idCells ((rdId ((rdText ((rdAt ((rdAt q).2)).2) 60).2)).1)), [(slV ho acc)]], boxR b1 77 [[(.int .i64 0)], [(.int .i64 0)], [(.int .i64 0)], [(.int .i64 0)], [(.string ByteArray.empty)], (idCells zeroId), [(.slice none 0 0)]], boxR br 132 [[(slV rr.bh rr.b)], [(.bool rr.bad)]]] [slI Sr encB 1 rr.bh rr.b]) _ ⟨0, [], r47, ((rdNum (rdId (rdText (rdAt (rdAt q).2).2 60).2).2 1000).2), nilH, rfl, (by omega), (rdNum_le _ (by decide)), (by simp), hr51, rfl, _, envL_self ⟨rfl, rfl, rfl, rfl, rfl, trivial⟩, H53⟩ ?_
 rintro m54 _ w56 ⟨k, acc, rr, rq, ho, rfl, hk, hm, hal, hrr, hgo, eb57, rfl, H58⟩
 refine W_seq (W_reg ?_)
 refine O_v rfl (R_cmp (a := ((k : Nat) : Int)) (b := ((((rdNum ((rdId ((rdText ((rdAt ((rdAt q).2)).2) 60).2)).2) 1000).1) : Nat) : Int)) (r := (decide (((k : Nat) : Int) < ((((rdNum ((rdId ((rdText ((rdAt ((rdAt q).2)).2) 60).2)).2) 1000).1) : Nat) : Int)))) rfl rfl rfl ?_)
 refine O_nil (Then_n (W_seq ?_))
 refine W_cond (t := (decide (((k : Nat) : Int) < ((((rdNum ((rdId ((rdText ((rdAt ((rdAt q).2)).2) 60).2)).2) 1000).1) : Nat) : Int)))) rfl (fun hc59 => ?_) (fun hc59 => ?_)
 ·have hc59 : (((k : Nat) : Int) < ((((rdNum ((rdId ((rdText ((rdAt ((rdAt q).2)).2) 60).2)).2) 1000).1) : Nat) : Int)) := (of_decide_eq_true hc59)
  refine W_skip (Then_n (W_seq (W_block (W_seq (W_reg ?_)))))
  refine O_v rfl (R_move (v := (.pointer (some ⟨br, 0, none⟩))) rfl ?_)
  refine O_v rfl (R_callL (vs := [(.pointer (some ⟨br, 0, none⟩))]) obj_getItem_c89 rfl rfl ((obj_getAt br rr Sr rq w56 ((H58.pick (B' := [boxR br 132 (rdCh rr)]) (I' := [slI Sr encB 1 rr.bh rr.b]) [3] (by decide) rfl (List.forall_mem_cons.2 ⟨List.mem_of_getElem? (i := 0) rfl, fun _ h => (nomatch h)⟩)).rdStart) hrr).ret ?_))
  rintro _ w61 ⟨r60, rfl, hg62, hQ63, hr64⟩
  have H65 := H58.rdUpd (r := rr) 3 0 rfl rfl hg62 hQ63
  refine O_v rfl (R_buildL (vs := [(0, (aggOf (stampCh ((rdAt rq).1))))]) (v := aggOf [[(.int .i64 (((rdAt rq).1).T))], [(.int .i64 (((rdAt rq).1).R))], (idCells zeroId)]) rfl (fun _ => by kernel_rfl) ?_)
  refine O_v rfl (C_alloc H65 [[(.int .i64 0)], [(.int .i64 0)], (idCells zeroId)] Tryz.zeroValue84 ?_)
  intro b66 w67 hb68 hx69 H70
  refine O_u (C_storeA H70 0 rfl 0 (sub := [[(.int .i64 (((rdAt rq).1).T))], [(.int .i64 (((rdAt rq).1).R))], (idCells zeroId)]) [[(.int .i64 (((rdAt rq).1).T))], [(.int .i64 (((rdAt rq).1).R))], (idCells zeroId)] Tryz.sizeOf84 rfl rfl rfl rfl ⟨[[(.int .i64 0)], [(.int .i64 0)], (idCells zeroId)], [], rfl, rfl, rfl⟩ rfl ?_)
  intro w71 hg72 H73
  refine O_nil (Then_n (W_seq (W_reg ?_)))
  refine O_v rfl (R_move (v := (.pointer (some ⟨br, 0, none⟩))) rfl ?_)
  refine O_v rfl (R_callL (vs := [(.pointer (some ⟨br, 0, none⟩))]) obj_getItem_c63 rfl rfl ((Reader_Id br r60 Sr ((rdAt rq).2) w71 ((H73.pick (B' := [boxR br 132 (rdCh r60)]) (I' := [slI Sr encB 1 r60.bh r60.b]) [4] (by decide) rfl (List.forall_mem_cons.2 ⟨List.mem_of_getElem? (i := 0) rfl, fun _ h => (nomatch h)⟩)).rdStart) hr64).ret ?_))
  rintro _ w75 ⟨r74, rfl, hg76, hQ77, hr78⟩
  have H79 := H73.rdUpd (r := r60) 4 0 rfl rfl hg76 hQ77
  refine O_v rfl (R_fieldAddr (off := 2) (oo := 2) Tryz.underlying84 rfl rfl Tryz.sizeOf45 rfl rfl ?_)
  refine O_u (C_storeA H79 0 rfl 2 (sub := [(idCells ((rdId ((rdAt rq).2)).1))]) [[(.int .i64 (((rdAt rq).1).T))], [(.int .i64 (((rdAt rq).1).R))], (idCells ((rdId ((rdAt rq).2)).1))] Tryz.sizeOf45 rfl rfl rfl rfl ⟨[(idCells zeroId)], [], rfl, rfl, rfl⟩ rfl ?_)
  intro w80 hg81 H82
  refine O_nil (Then_n (W_seq (W_reg ?_)))
  refine O_v rfl (R_fieldAddr (off := 37) (oo := 37) Tryz.underlying77 rfl rfl Tryz.sizeOf75 rfl rfl ?_)
  refine O_v rfl (R_load1 (v := (slV ho acc)) Tryz.isAgg75 rfl ((boxR_at (H82.getOwn 2 rfl)).chunks 6 1 37 37 _ rfl rfl rfl) ?_)
  refine O_v rfl (R_loadA (cs := [[(.int .i64 (((rdAt rq).1).T))], [(.int .i64 (((rdAt rq).1).R))], (idCells ((rdId ((rdAt rq).2)).1))]) Tryz.isAgg84 Tryz.sizeOf84 rfl rfl ((boxR_at (H82.getOwn 0 rfl)).chunks 0 3 0 0 _ rfl rfl rfl) ?_)
  refine O_v rfl (C_buildSliceL H82 (enc := headCh) (val := headV) ([({ tm := ((rdAt rq).1), data := (rdId ((rdAt rq).2)).1 } : Head)] : List Head) Tryz.underlying75 Tryz.sizeOf84 Tryz.zeroValue84 rfl (by decide) (fun _ => rfl) (fun _ => rfl) rfl rfl (by decide) ?_)
  intro b83 w84 hb85 hx86 H87
  refine O_v rfl (C_append H87 2 rfl (bytes := 48) (l := acc) (ys := ([({ tm := ((rdAt rq).1), data := (rdId ((rdAt rq).2)).1 } : Head)] : List Head)) Tryz.underlying75 rfl rfl rfl rfl rfl (by decide) rfl rfl (OwnS.sl (H87.getOwn 0 rfl) (fun _ => rfl)) (fun _ => rfl) (fun _ => rfl) (by simp only [List.length_append, List.length_cons, List.length_nil]; omega) (by decide) ?_)
  intro h88 w89 hg90 H91
  refine O_v rfl (R_fieldAddr (off := 37) (oo := 37) Tryz.underlying77 rfl rfl Tryz.sizeOf75 rfl rfl ?_)
  refine O_u (C_store1 H91 3 rfl 6 (v := (slV h88 (acc ++ ([({ tm := ((rdAt rq).1), data := (rdId ((rdAt rq).2)).1 } : Head)] : List Head)))) [[(.int .i64 (((rdAt q).1).T))], [(.int .i64 (((rdAt q).1).R))], [(.int .i64 (((rdAt ((rdAt q).2)).1).T))], [(.int .i64 (((rdAt ((rdAt q).2)).1).R))], [(.string ((rdText ((rdAt ((rdAt q).2)).2) 60).1))], (idCells ((rdId ((rdText ((rdAt ((rdAt q).2)).2) 60).2)).1)), [(slV h88 (acc ++ ([({ tm := ((rdAt rq).1), data := (rdId ((rdAt rq).2)).1 } : Head)] : List Head)))]] Tryz.sizeOf75 rfl rfl rfl rfl rfl rfl rfl ?_)
  intro w92 hg93 H94
  refine O_nil (Then_n (W_seq (W_reg ?_)))
  refine O_v rfl (R_move (v := (.pointer (some ⟨br, 0, none⟩))) rfl ?_)
  refine O_v rfl (R_callL (vs := [(.pointer (some ⟨br, 0, none⟩))]) obj_getItem_c48 rfl rfl ((Reader_Good br r74 Sr ((rdId ((rdAt rq).2)).2) w92 ((H94.pick (B' := [boxR br 132 (rdCh r74)]) (I' := [slI Sr encB 1 r74.bh r74.b]) [5] (by decide) rfl (List.forall_mem_cons.2 ⟨List.mem_of_getElem? (i := 0) rfl, fun _ h => (nomatch h)⟩)).rdStart) hr78).ret ?_))
  rintro _ w96 ⟨r95, rfl, hg97, hQ98, hr99⟩
  have H100 := H94.rdUpd (r := r74) 5 0 rfl rfl hg97 hQ98
  refine O_v rfl (R_not rfl ?_)
  refine O_nil (Then_n ?_)
  refine W_cond (t := (!(!(((rdId ((rdAt rq).2)).2).2)))) rfl (fun hc101 => ?_) (fun hc101 => ?_)
  ·have hc101 : (((rdId ((rdAt rq).2)).2).2) = true := (notF (notT hc101))
   refine W_exit ?_
   refine Blk_o rfl ?_
   refine Then_x (Then_x (Blk_x (Then_n (W_seq (W_reg ?_)))))
   refine O_v rfl (R_loadA (cs := [[(.int .i64 (((rdAt q).1).T))], [(.int .i64 (((rdAt q).1).R))], [(.int .i64 (((rdAt ((rdAt q).2)).1).T))], [(.int .i64 (((rdAt ((rdAt q).2)).1).R))], [(.string ((rdText ((rdAt ((rdAt q).2)).2) 60).1))], (idCells ((rdId ((rdText ((rdAt ((rdAt q).2)).2) 60).2)).1)), [(slV h88 (acc ++ ([({ tm := ((rdAt rq).1), data := (rdId ((rdAt rq).2)).1 } : Head)] : List Head)))]]) Tryz.isAgg77 Tryz.sizeOf77 rfl rfl ((boxR_at (H100.getOwn 3 rfl)).chunks 0 7 0 0 _ rfl rfl rfl) ?_)
   refine O_u (C_storeA H100 4 rfl 0 (sub := [[(.int .i64 (((rdAt q).1).T))], [(.int .i64 (((rdAt q).1).R))], [(.int .i64 (((rdAt ((rdAt q).2)).1).T))], [(.int .i64 (((rdAt ((rdAt q).2)).1).R))], [(.string ((rdText ((rdAt ((rdAt q).2)).2) 60).1))], (idCells ((rdId ((rdText ((rdAt ((rdAt q).2)).2) 60).2)).1)), [(slV h88 (acc ++ ([({ tm := ((rdAt rq).1), data := (rdId ((rdAt rq).2)).1 } : Head)] : List Head)))]]) [[(.int .i64 (((rdAt q).1).T))], [(.int .i64 (((rdAt q).1).R))], [(.int .i64 (((rdAt ((rdAt q).2)).1).T))], [(.int .i64 (((rdAt ((rdAt q).2)).1).R))], [(.string ((rdText ((rdAt ((rdAt q).2)).2) 60).1))], (idCells ((rdId ((rdText ((rdAt ((rdAt q).2)).2) 60).2)).1)), [(slV h88 (acc ++ ([({ tm := ((rdAt rq).1), data := (rdId ((rdAt rq).2)).1 } : Head)] : List Head)))]] Tryz.sizeOf77 rfl rfl rfl rfl ⟨[[(.int .i64 0)], [(.int .i64 0)], [(.int .i64 0)], [(.int .i64 0)], [(.string ByteArray.empty)], (idCells zeroId), [(.slice none 0 0)]], [], rfl, rfl, rfl⟩ rfl ?_)
   intro w102 hg103 H104
   refine O_nil (Then_n (W_ret ?_))
   refine ret_c Tryz.results47 (inMem (cs := [[(.int .i64 (((rdAt q).1).T))], [(.int .i64 (((rdAt q).1).R))], [(.int .i64 (((rdAt ((rdAt q).2)).1).T))], [(.int .i64 (((rdAt ((rdAt q).2)).1).R))], [(.string ((rdText ((rdAt ((rdAt q).2)).2) 60).1))], (idCells ((rdId ((rdText ((rdAt ((rdAt q).2)).2) 60).2)).1)), [(slV h88 (acc ++ ([({ tm := ((rdAt rq).1), data := (rdId ((rdAt rq).2)).1 } : Head)] : List Head)))]]) rfl Tryz.isAgg77 Tryz.sizeOf77 rfl (boxR_at (H104.getOwn 4 rfl))) ?_
   have HQ := ((H104.pick (B' := [boxR br 132 (rdCh r95)]) (I' := [slI Sr encB 1 r95.bh r95.b]) [5] (by decide) rfl (List.forall_mem_cons.2 ⟨List.mem_of_getElem? (i := 0) rfl, fun _ h => (nomatch h)⟩)).rdStart)
   exact ⟨r95, ({ node := ((rdAt q).1), tm := ((rdAt ((rdAt q).2)).1), name := (rdText ((rdAt ((rdAt q).2)).2) 60).1, sub := (rdId ((rdText ((rdAt ((rdAt q).2)).2) 60).2)).1, heads := acc ++ ([({ tm := ((rdAt rq).1), data := (rdId ((rdAt rq).2)).1 } : Head)] : List Head), hh := h88 } : ItemS), rfl, H104.gr, HQ, (hr99.trans (congrArg Prod.snd (heads_brk hgo (by omega) hc101))), H104.retRowM 5 2 (by decide) rfl rfl, (congrArg (ItemC.mk _ _ _ _) (congrArg Prod.fst (heads_brk hgo (by omega) hc101)))⟩
  ·have hc101 : (((rdId ((rdAt rq).2)).2).2) = false := (notT (notF hc101))
   refine W_skip (Blk_n (Then_n (W_reg ?_)))
   refine O_v rfl (R_arith (a := ((k : Nat) : Int)) (b := 1) (r0 := ((k : Nat) : Int) + 1) (r := ((k + 1 : Nat) : Int)) rfl rfl rfl (wrapN _ (by omega)) ?_)
   refine O_v rfl (R_move (v := (.int .i64 ((k + 1 : Nat) : Int))) rfl ?_)
   refine O_nil (Then_n ?_)
   have H105 := H100.sub (B' := [rowR 84 34 headCh h88 (acc ++ ([({ tm := ((rdAt rq).1), data := (rdId ((rdAt rq).2)).1 } : Head)] : List Head)), boxR b12 77 [[(.int .i64 (((rdAt q).1).T))], [(.int .i64 (((rdAt q).1).R))], [(.int .i64 (((rdAt ((rdAt q).2)).1).T))], [(.int .i64 (((rdAt ((rdAt q).2)).1).R))], [(.string ((rdText ((rdAt ((rdAt q).2)).2) 60).1))], (idCells ((rdId ((rdText ((rdAt ((rdAt q).2)).2) 60).2)).1)), [(slV h88 (acc ++ ([({ tm := ((rdAt rq).1), data := (rdId ((rdAt rq).2)).1 } : Head)] : List Head)))]], boxR b1 77 [[(.int .i64 0)], [(.int .i64 0)], [(.int .i64 0)], [(.int .i64 0)], [(.string ByteArray.empty)], (idCells zeroId), [(.slice none 0 0)]], boxR br 132 [[(slV r95.bh r95.b)], [(.bool r95.bad)]]]) (I' := [slI Sr encB 1 r95.bh r95.b]) (List.Sublist.cons _ (List.Sublist.cons _ (List.Sublist.cons_cons _ (List.Sublist.cons_cons _ (List.Sublist.cons_cons _ (List.Sublist.cons_cons _ List.Sublist.slnil)))))) (List.forall_mem_cons.2 ⟨List.mem_of_getElem? (i := 0) rfl, fun _ h => (nomatch h)⟩)
   refine ⟨_, ?_, (k + 1), (acc ++ ([({ tm := ((rdAt rq).1), data := (rdId ((rdAt rq).2)).1 } : Head)] : List Head)), r95, ((rdHead rq).2), h88, rfl, (by omega), hm, (by simp only [List.length_append, List.length_cons, List.length_nil]; omega), hr99, (heads_next hgo (by omega) hc101), _, envL_self ⟨rfl, rfl, rfl, rfl, rfl, trivial⟩, H105⟩
   omega
 ·have hc59 : ¬ (((k : Nat) : Int) < ((((rdNum ((rdId ((rdText ((rdAt ((rdAt q).2)).2) 60).2)).2) 1000).1) : Nat) : Int)) := (of_decide_eq_false hc59)
  refine W_exit (Then_x (Then_x (Blk_x (Then_n (W_seq (W_reg ?_))))))
  refine O_v rfl (R_loadA (cs := [[(.int .i64 (((rdAt q).1).T))], [(.int .i64 (((rdAt q).1).R))], [(.int .i64 (((rdAt ((rdAt q).2)).1).T))], [(.int .i64 (((rdAt ((rdAt q).2)).1).R))], [(.string ((rdText ((rdAt ((rdAt q).2)).2) 60).1))], (idCells ((rdId ((rdText ((rdAt ((rdAt q).2)).2) 60).2)).1)), [(slV ho acc)]]) Tryz.isAgg77 Tryz.sizeOf77 rfl rfl ((boxR_at (H58.getOwn 1 rfl)).chunks 0 7 0 0 _ rfl rfl rfl) ?_)
  refine O_u (C_storeA H58 2 rfl 0 (sub := [[(.int .i64 (((rdAt q).1).T))], [(.int .i64 (((rdAt q).1).R))], [(.int .i64 (((rdAt ((rdAt q).2)).1).T))], [(.int .i64 (((rdAt ((rdAt q).2)).1).R))], [(.string ((rdText ((rdAt ((rdAt q).2)).2) 60).1))], (idCells ((rdId ((rdText ((rdAt ((rdAt q).2)).2) 60).2)).1)), [(slV ho acc)]]) [[(.int .i64 (((rdAt q).1).T))], [(.int .i64 (((rdAt q).1).R))], [(.int .i64 (((rdAt ((rdAt q).2)).1).T))], [(.int .i64 (((rdAt ((rdAt q).2)).1).R))], [(.string ((rdText ((rdAt ((rdAt q).2)).2) 60).1))], (idCells ((rdId ((rdText ((rdAt ((rdAt q).2)).2) 60).2)).1)), [(slV ho acc)]] Tryz.sizeOf77 rfl rfl rfl rfl ⟨[[(.int .i64 0)], [(.int .i64 0)], [(.int .i64 0)], [(.int .i64 0)], [(.string ByteArray.empty)], (idCells zeroId), [(.slice none 0 0)]], [], rfl, rfl, rfl⟩ rfl ?_)
  intro w106 hg107 H108
  refine O_nil (Then_n (W_ret ?_))
  refine ret_c Tryz.results47 (inMem (cs := [[(.int .i64 (((rdAt q).1).T))], [(.int .i64 (((rdAt q).1).R))], [(.int .i64 (((rdAt ((rdAt q).2)).1).T))], [(.int .i64 (((rdAt ((rdAt q).2)).1).R))], [(.string ((rdText ((rdAt ((rdAt q).2)).2) 60).1))], (idCells ((rdId ((rdText ((rdAt ((rdAt q).2)).2) 60).2)).1)), [(slV ho acc)]]) rfl Tryz.isAgg77 Tryz.sizeOf77 rfl (boxR_at (H108.getOwn 2 rfl))) ?_
  have HQ := ((H108.pick (B' := [boxR br 132 (rdCh rr)]) (I' := [slI Sr encB 1 rr.bh rr.b]) [3] (by decide) rfl (List.forall_mem_cons.2 ⟨List.mem_of_getElem? (i := 0) rfl, fun _ h => (nomatch h)⟩)).rdStart)
  exact ⟨rr, ({ node := ((rdAt q).1), tm := ((rdAt ((rdAt q).2)).1), name := (rdText ((rdAt ((rdAt q).2)).2) 60).1, sub := (rdId ((rdText ((rdAt ((rdAt q).2)).2) 60).2)).1, heads := acc, hh := ho } : ItemS), rfl, H108.gr, HQ, (hrr.trans (congrArg Prod.snd (heads_end hgo (by omega)))), H108.retRowM 3 0 (by decide) rfl rfl, (congrArg (ItemC.mk _ _ _ _) (congrArg Prod.fst (heads_end hgo (by omega))))⟩

end Go.Proofs.YthjdhfoeckfmbaaGreat
namespace Go.Proofs.YthjdhfoeckfmbaaGreat
open Go
set_option maxRecDepth 100000
set_option linter.unusedVariables false
set_option linter.unusedSimpArgs false
set_option linter.unusedSectionVars false
variable [DD]
set_option maxHeartbeats 1000000 in
theorem IndexFunc_Item (ha : SlH) (a : List ItemS) (kfn : FuncId) (cfn : Array Value) (f : ItemS → Bool) (w : World) (Sa : Sl (Old w) itemCh 38 ha a w) (Kfn : callable Tryz.prog kfn = true) (Cfn : ∀ x ∈ a, ∀ w1, Ext w w1 → Calls Tryz.prog kfn (#[itemV x] ++ cfn) w1 (Ret fun v w2 => v = .bool (f x) ∧ Ext w1 w2)) :
    Calls Tryz.prog 111 #[(slV ha a), (.func (.func kfn) #[] cfn)] w (Ret fun v w' => v = (.int .i64 (idxBy f a)) ∧ Ext w w') := by
 refine calls_W Tryz.func111 rfl Tryz.ntmps111 rfl ?_
 have H0 := Ctx.start w nob
 have H1 := H0.addSl _ Sa (fun b hb => ⟨hb, fun _ ho => (nomatch ho)⟩)
 have LSa := Sa.len
 refine W_seq (W_reg ?_)
 refine O_v rfl (R_assign (v := (.int .i64 0)) rfl ?_)
 refine O_nil (Then_n (W_seq (W_seq (W_reg ?_))))
 refine O_v rfl (R_move (v := (slV ha a)) rfl ?_)
 refine O_v rfl (R_len_slice (a := ha.a) (n := a.length) (c := ha.c) Tryz.underlying31 rfl ?_)
 refine O_v rfl (R_move (v := (.int .i64 0)) rfl ?_)
 refine O_nil (Then_n (W_block ?_))
 refine W_loop (fun m2 e3 w4 => ∃ (k : Nat), m2 = a.length - k ∧ (k ≤ a.length) ∧ (∀ i, i < k → f (nth a i) = false) ∧ ∃ eb5, e3 = envL [(0, (slV ha a)), (1, (.func (.func kfn) #[] cfn)), (7, (.int .i64 ((a.length : Nat) : Int))), (8, (.int .i64 ((k : Nat) : Int)))] eb5 ∧ Ctx w nob w4 [] [slI (Old w) itemCh 38 ha a]) _ ⟨0, rfl, (by omega), (all_zero _), _, envL_self ⟨rfl, rfl, rfl, rfl, trivial⟩, H1⟩ ?_
 rintro m2 _ w4 ⟨k, rfl, hk, hn, eb5, rfl, H6⟩
 refine W_seq (W_reg ?_)
 refine O_v rfl (R_cmp (a := ((k : Nat) : Int)) (b := ((a.length : Nat) : Int)) (r := (decide (((k : Nat) : Int) < ((a.length : Nat) : Int)))) rfl rfl rfl ?_)
 refine O_nil (Then_n (W_seq ?_))
 refine W_cond (t := (decide (((k : Nat) : Int) < ((a.length : Nat) : Int)))) rfl (fun hc7 => ?_) (fun hc7 => ?_)
 ·have hc7 : (((k : Nat) : Int) < ((a.length : Nat) : Int)) := (of_decide_eq_true hc7)
  refine W_skip (Then_n (W_seq (W_block (W_seq (W_reg ?_)))))
  refine O_v rfl (R_move (v := (.int .i64 ((k : Nat) : Int))) rfl ?_)
  refine O_v rfl (R_assign (v := (.int .i64 ((k : Nat) : Int))) rfl ?_)
  refine O_nil (Then_n (W_seq (W_reg ?_)))
  refine O_v rfl (R_move (v := (.func (.func kfn) #[] cfn)) rfl ?_)
  refine O_v rfl (R_move (v := (slV ha a)) rfl ?_)
  refine O_v rfl (R_move (v := (.int .i64 ((k : Nat) : Int))) rfl ?_)
  refine O_v rfl (R_index_pure (H6.sl 0 rfl) (n := a.length) rfl (j := ((k : Nat) : Int)) (oo := (ha.o + k * 38)) Tryz.underlying31 Tryz.sizeOf77 rfl rfl (by omega) (by omega) rfl ?_)
  refine O_v rfl (R_loadA (cs := [[(.int .i64 (((nth a k).node).T))], [(.int .i64 (((nth a k).node).R))], [(.int .i64 (((nth a k).tm).T))], [(.int .i64 (((nth a k).tm).R))], [(.string ((nth a k).name))], (idCells ((nth a k).sub)), [(slV ((nth a k).hh) ((nth a k).heads))]]) Tryz.isAgg77 Tryz.sizeOf77 rfl rfl ((Sl.elem (H6.sl 0 rfl) (i := k) (by omega) rfl).chunks 0 7 0 (ha.o + k * 38) _ rfl rfl rfl) ?_)
  refine O_v rfl (R_callV (vs := [(aggOf (itemCh (nth a k)))]) Kfn rfl rfl ((Cfn _ (nth_mem (by omega)) w4 H6.gr).ret ?_))
  rintro _ w8 ⟨rfl, hx9⟩
  have H10 := H6.ext hx9
  refine O_nil (Then_n ?_)
  refine W_cond (t := (f (nth a k))) rfl (fun hc11 => ?_) (fun hc11 => ?_)
  ·have hc11 : (f (nth a k)) = true := hc11
   refine W_seq (W_reg ?_)
   refine O_v rfl (R_move (v := (.int .i64 ((k : Nat) : Int))) rfl ?_)
   refine O_v rfl (R_assign (v := (.int .i64 ((k : Nat) : Int))) rfl ?_)
   refine O_nil (Then_n (W_ret (Blk_r (Then_r (Then_r (Blk_r (Then_r ?_)))))))
   refine ret_1 (v := (.int .i64 ((k : Nat) : Int))) Tryz.results111 rfl ?_
   exact ⟨(by rw [idxBy_at hn (by omega) (by assumption)]), H10.gr⟩
  ·have hc11 : (f (nth a k)) = false := hc11
   refine W_skip (Blk_n (Then_n (W_reg ?_)))
   refine O_v rfl (R_arith (a := ((k : Nat) : Int)) (b := 1) (r0 := ((k : Nat) : Int) + 1) (r := ((k + 1 : Nat) : Int)) rfl rfl rfl (wrapN _ (by omega)) ?_)
   refine O_v rfl (R_move (v := (.int .i64 ((k + 1 : Nat) : Int))) rfl ?_)
   refine O_nil (Then_n ?_)
   refine ⟨_, ?_, (k + 1), rfl, (by omega), (all_succ hn (by assumption)), _, envL_self ⟨rfl, rfl, rfl, rfl, trivial⟩, H10⟩
   omega
 ·have hc7 : ¬ (((k : Nat) : Int) < ((a.length : Nat) : Int)) := (of_decide_eq_false hc7)
  refine W_exit (Then_x (Then_x (Blk_x (Then_n (W_seq (W_reg ?_))))))
  refine O_v rfl (R_assign (v := (.int .i64 (-1))) rfl ?_)
  refine O_nil (Then_n (W_ret ?_))
  refine ret_1 (v := (.int .i64 (-1))) Tryz.results111 rfl ?_
  exact ⟨(by rw [idxBy_none (by rwa [show a.length = k from by omega])]), H6.gr⟩

end Go.Proofs.YthjdhfoeckfmbaaGreat
namespace Go.Proofs.YthjdhfoeckfmbaaGreat
open Go
set_option maxRecDepth 100000
set_option linter.unusedVariables false
set_option linter.unusedSimpArgs false
set_option linter.unusedSectionVars false
variable [DD]
theorem ContainsFunc_Item_c111 : callable Tryz.prog 111 = true := by kernel_rfl
set_option maxHeartbeats 1000000 in
theorem ContainsFunc_Item (ha : SlH) (a : List ItemS) (kfn : FuncId) (cfn : Array Value) (f : ItemS → Bool) (w : World) (Sa : Sl (Old w) itemCh 38 ha a w) (Kfn : callable Tryz.prog kfn = true) (Cfn : ∀ x ∈ a, ∀ w1, Ext w w1 → Calls Tryz.prog kfn (#[itemV x] ++ cfn) w1 (Ret fun v w2 => v = .bool (f x) ∧ Ext w1 w2)) :
    Calls Tryz.prog 79 #[(slV ha a), (.func (.func kfn) #[] cfn)] w (Ret fun v w' => v = (.bool (a.any f)) ∧ Ext w w') := by
 refine calls_W Tryz.func79 rfl Tryz.ntmps79 rfl ?_
 have H0 := Ctx.start w nob
 have H1 := H0.addSl _ Sa (fun b hb => ⟨hb, fun _ ho => (nomatch ho)⟩)
 have LSa := Sa.len
 refine W_seq (W_reg ?_)
 refine O_v rfl (R_assign (v := (.bool false)) rfl ?_)
 refine O_nil (Then_n (W_seq (W_reg ?_)))
 refine O_v rfl (R_move (v := (slV ha a)) rfl ?_)
 refine O_v rfl (R_move (v := (.func (.func kfn) #[] cfn)) rfl ?_)
 refine O_v rfl (R_callL (vs := [(slV ha a), (.func (.func kfn) #[] cfn)]) ContainsFunc_Item_c111 rfl rfl ((IndexFunc_Item ha a kfn cfn f w (H1.slOld 0 rfl) Kfn (fun x hx w1 he => Cfn x hx w1 (H1.gr.trans he))).ret ?_))
 rintro _ w2 ⟨rfl, hx3⟩
 have H4 := H1.ext hx3
 refine O_v rfl (R_cmp (a := idxBy f a) (b := 0) (r := (decide (0 ≤ idxBy f a))) rfl rfl rfl ?_)
 refine O_v rfl (R_assign (v := (.bool (decide (0 ≤ idxBy f a)))) rfl ?_)
 refine O_nil (Then_n (W_ret ?_))
 refine ret_1 (v := (.bool (decide (0 ≤ idxBy f a)))) Tryz.results79 rfl ?_
 exact ⟨(boolIdx f a), H4.gr⟩

end Go.Proofs.YthjdhfoeckfmbaaGreat
namespace Go.Proofs.YthjdhfoeckfmbaaGreat
open Go
set_option maxRecDepth 100000
set_option linter.unusedVariables false
set_option linter.unusedSimpArgs false
set_option linter.unusedSectionVars false
variable [DD]
theorem rightItem_1_c84 : callable Tryz.prog 84 = true := by kernel_rfl
set_option maxHeartbeats 1000000 in
theorem rightItem_1 (a : Head) (b : Head) (w : World) :
    Calls Tryz.prog 113 #[(aggOf (headCh a)), (aggOf (headCh b))] w (Ret fun v w' => v = (.int .i64 (cmpSt a.tm b.tm)) ∧ Ext w w') := by
 refine calls_W Tryz.func113 rfl Tryz.ntmps113 rfl ?_
 have H0 := Ctx.start w nob
 refine W_seq (W_reg ?_)
 refine O_v rfl (C_box H0 [[(.int .i64 a.tm.T)], [(.int .i64 a.tm.R)], (idCells a.data)] rfl ?_)
 intro b1 w2 hb3 hx4 H5
 refine O_v rfl (C_box H5 [[(.int .i64 b.tm.T)], [(.int .i64 b.tm.R)], (idCells b.data)] rfl ?_)
 intro b6 w7 hb8 hx9 H10
 refine O_v rfl (R_assign (v := (.int .i64 0)) rfl ?_)
 refine O_nil (Then_n (W_seq (W_reg ?_)))
 refine O_v rfl (R_fieldAddr (off := 0) (oo := 0) Tryz.underlying84 rfl rfl Tryz.sizeOf69 rfl rfl ?_)
 refine O_v rfl (R_loadA (cs := [[(.int .i64 a.tm.T)], [(.int .i64 a.tm.R)]]) Tryz.isAgg69 Tryz.sizeOf69 rfl rfl ((boxR_at (H10.getOwn 1 rfl)).chunks 0 2 0 0 _ rfl rfl rfl) ?_)
 refine O_v rfl (R_fieldAddr (off := 0) (oo := 0) Tryz.underlying84 rfl rfl Tryz.sizeOf69 rfl rfl ?_)
 refine O_v rfl (R_loadA (cs := [[(.int .i64 b.tm.T)], [(.int .i64 b.tm.R)]]) Tryz.isAgg69 Tryz.sizeOf69 rfl rfl ((boxR_at (H10.getOwn 0 rfl)).chunks 0 2 0 0 _ rfl rfl rfl) ?_)
 refine O_v rfl (R_callL (vs := [(aggOf (stampCh a.tm)), (aggOf (stampCh b.tm))]) rightItem_1_c84 rfl rfl ((stamp_Cmp a.tm b.tm w7 ).ret ?_))
 rintro _ w11 ⟨rfl, hx12⟩
 have H13 := H10.ext hx12
 refine O_v rfl (R_assign (v := (.int .i64 (cmpSt a.tm b.tm))) rfl ?_)
 refine O_nil (Then_n (W_ret ?_))
 refine ret_1 (v := (.int .i64 (cmpSt a.tm b.tm))) Tryz.results113 rfl ?_
 exact ⟨rfl, H13.gr⟩

end Go.Proofs.YthjdhfoeckfmbaaGreat
