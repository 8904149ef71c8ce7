/- Proved: for every input, pollardlaw04.ObjDirs returns true and leaves its argument as it was. No condition. -/
import Derived.Test.YthjdhfoeckfmbaaGreatX7
namespace Go.Proofs.YthjdhfoeckfmbaaGreat
open Go
set_option maxRecDepth 100000
set_option linter.unusedVariables false
set_option linter.unusedSimpArgs false
set_option linter.unusedSectionVars false
variable [DD]
theorem ref04_RightChange_c36 : callable Tryz.prog 36 = true := by kernel_rfl
theorem ref04_RightChange_c44 : callable Tryz.prog 44 = true := by kernel_rfl
theorem ref04_RightChange_c60 : callable Tryz.prog 60 = true := by kernel_rfl
theorem ref04_RightChange_c61 : callable Tryz.prog 61 = true := by kernel_rfl
theorem ref04_RightChange_c62 : callable Tryz.prog 62 = true := by kernel_rfl
set_option maxHeartbeats 4000000 in
theorem ref04_RightChange (c : ChangeS) (w : World) (Sc_parents : Sl (Old w) idCh 32 c.ph c.parents w) (Sc_ops : Sl (Old w) opCh 41 c.oh c.ops w) (Dc_over : ∀ x ∈ c.ops, Sl (Old w) stampCh 2 x.oh x.over w) (hl : ∀ o ∈ c.ops, o.name.size ≤ 9223372036854775807) :
    Calls Tryz.prog 24 #[(aggOf (changeCh c))] w (Ret fun v w' => v = (.bool (changeOk c)) ∧ Ext w w') := by
 refine calls_W Tryz.func24 rfl Tryz.ntmps24 rfl ?_
 have H0 := Ctx.start w nob
 have H1 := H0.addSl _ Sc_parents (fun b hb => ⟨hb, fun _ ho => (nomatch ho)⟩)
 have LSc_parents := Sc_parents.len
 have H2 := H1.addSl _ Sc_ops (fun b hb => ⟨hb, fun _ ho => (nomatch ho)⟩)
 have LSc_ops := Sc_ops.len
 have H3 := H2.addImm' (deepI (Old w) stampCh 2 (fun x : OpS => x.oh) (fun x : OpS => x.over) c.ops) Dc_over (fun b hb => ⟨hb, fun _ ho => (nomatch ho)⟩)
 refine W_seq (W_reg ?_)
 refine O_v rfl (C_box H3 [[(slV c.ph c.parents)], [(.int .i64 c.time)], [(.int .i64 c.r)], [(slV c.oh c.ops)], (idCells c.tree), [(.string c.msg)]] rfl ?_)
 intro b4 w5 hb6 hx7 H8
 refine O_v rfl (R_assign (v := (.bool false)) rfl ?_)
 refine O_nil (Then_n (W_seq (W_seq (W_reg ?_))))
 refine O_v rfl (R_assign (v := (.int .i64 0)) rfl ?_)
 refine O_nil (Then_n (W_block ?_))
 refine W_loop (fun m9 e10 w11 => ∃ (k : Nat), m9 = c.parents.length - k ∧ (k ≤ c.parents.length) ∧ (∀ i, i < k → ¬ nth c.parents i = zeroId ∧ (¬ (0 : Int) < ((i : Nat) : Int) ∨ cmpId (nth c.parents (i - 1)) (nth c.parents i) = -1)) ∧ ∃ eb12, e10 = envL [(1, (.pointer (some ⟨b4, 0, none⟩))), (3, (.int .i64 ((k : Nat) : Int)))] eb12 ∧ Ctx w nob w11 [boxR b4 47 [[(slV c.ph c.parents)], [(.int .i64 c.time)], [(.int .i64 c.r)], [(slV c.oh c.ops)], (idCells c.tree), [(.string c.msg)]]] [deepI (Old w) stampCh 2 (fun x : OpS => x.oh) (fun x : OpS => x.over) c.ops, slI (Old w) opCh 41 c.oh c.ops, slI (Old w) idCh 32 c.ph c.parents]) _ ⟨0, rfl, (by omega), (all_zero _), _, envL_self ⟨rfl, rfl, trivial⟩, H8⟩ ?_
 rintro m9 _ w11 ⟨k, rfl, hk, h1, eb12, rfl, H13⟩
 refine W_seq (W_seq (W_reg ?_))
 refine O_v rfl (R_move (v := (.int .i64 ((k : Nat) : Int))) rfl ?_)
 refine O_v rfl (R_fieldAddr (off := 0) (oo := 0) Tryz.underlying47 rfl rfl Tryz.sizeOf39 rfl rfl ?_)
 refine O_v rfl (R_load1 (v := (slV c.ph c.parents)) Tryz.isAgg39 rfl ((boxR_at (H13.getOwn 0 rfl)).chunks 0 1 0 0 _ rfl rfl rfl) ?_)
 refine O_v rfl (R_len_slice (a := c.ph.a) (n := c.parents.length) (c := c.ph.c) Tryz.underlying39 rfl ?_)
 refine O_v rfl (R_cmp (a := ((k : Nat) : Int)) (b := ((c.parents.length : Nat) : Int)) (r := (decide (((k : Nat) : Int) < ((c.parents.length : Nat) : Int)))) rfl rfl rfl ?_)
 refine O_nil (Then_n ?_)
 refine W_cond (t := (decide (((k : Nat) : Int) < ((c.parents.length : Nat) : Int)))) rfl (fun hc14 => ?_) (fun hc14 => ?_)
 ·have hc14 : (((k : Nat) : Int) < ((c.parents.length : Nat) : Int)) := (of_decide_eq_true hc14)
  refine W_skip (Then_n (W_seq (W_block (W_seq ?_))))
  refine W_rgd TryzMixed [(0, .q 0), (1, .q 0), (2, .q 0), (3, .q 0), (4, .q 0), (5, .q 0), (6, .q 0), (7, .q 0), (8, .q 0), (9, .q 0), (10, .q 0), (11, .q 0), (12, .q 0), (13, .q 0), (14, .q 0), (15, .q 0), (16, .q 0), (17, .q 0), (18, .q 0), (19, .q 0), (20, .q 0), (21, .q 0), (22, .q 0), (23, .q 0), (24, .q 0)] (by kernel_rfl) ?_
  refine Lx_q (i := 0) rfl rfl _ (fun v15 hv16 => R_fieldAddr (off := 0) (oo := 0) Tryz.underlying47 rfl rfl Tryz.sizeOf39 rfl rfl ⟨rfl, Gr.refl _ _⟩) ?_
  refine Lx_q (i := 1) rfl rfl _ (fun v17 hv18 => R_load1 (v := (slV c.ph c.parents)) Tryz.isAgg39 rfl ((boxR_at ((H13.ext hv18).getOwn 0 rfl)).chunks 0 1 0 0 _ rfl rfl rfl) ⟨rfl, Gr.refl _ _⟩) ?_
  refine Lx_q (i := 2) rfl rfl _ (fun v19 hv20 => R_move (v := (.int .i64 ((k : Nat) : Int))) rfl ⟨rfl, Gr.refl _ _⟩) ?_
  refine Lx_q (i := 3) rfl rfl _ (fun v21 hv22 => R_index_pure (H13.sl 2 rfl) (n := c.parents.length) rfl (j := ((k : Nat) : Int)) (oo := (c.ph.o + k * 32)) Tryz.underlying39 Tryz.sizeOf45 rfl rfl (by omega) (by omega) rfl ⟨rfl, Gr.refl _ _⟩) ?_
  refine Lx_q (i := 4) rfl rfl _ (fun v23 hv24 => R_loadA (cs := [(idCells (nth c.parents k))]) Tryz.isAgg45 Tryz.sizeOf45 rfl rfl ((Sl.elem ((H13.ext hv24).sl 2 rfl) (i := k) (by omega) rfl).chunks 0 1 0 (c.ph.o + k * 32) _ rfl rfl rfl) ⟨rfl, Gr.refl _ _⟩) ?_
  refine Lx_q (i := 5) rfl rfl (.bool (decide ((nth c.parents k) = zeroId))) (fun v25 hv26 => R_callL (vs := [(aggOf (idCh (nth c.parents k)))]) ref04_RightChange_c60 rfl rfl (ref04_zero (nth c.parents k) v25 )) ?_
  refine Lx_q (i := 6) rfl rfl _ (fun v27 hv28 => R_move (v := (.bool (decide ((nth c.parents k) = zeroId)))) rfl ⟨rfl, Gr.refl _ _⟩) ?_
  refine Lx_qg (i := 7) true (decide ((nth c.parents k) = zeroId)) rfl rfl rfl rfl rfl (!(decide ((nth c.parents k) = zeroId))) ga_f _ (fun hA v29 hv30 => R_move (v := (.int .i64 ((k : Nat) : Int))) rfl ⟨rfl, Gr.refl _ _⟩) ?_
  refine Lx_qg (i := 8) true (decide ((nth c.parents k) = zeroId)) rfl rfl rfl rfl rfl (!(decide ((nth c.parents k) = zeroId))) ga_f _ (fun hA v31 hv32 => R_cmp (a := ((k : Nat) : Int)) (b := 0) (r := (decide (0 < ((k : Nat) : Int)))) (gv_t hA) rfl rfl ⟨rfl, Gr.refl _ _⟩) ?_
  refine Lx_qg (i := 9) true (decide ((nth c.parents k) = zeroId)) rfl rfl rfl rfl rfl (!(decide ((nth c.parents k) = zeroId))) ga_f _ (fun hA v33 hv34 => R_move (v := (.bool (decide (0 < ((k : Nat) : Int))))) (gv_t hA) ⟨rfl, Gr.refl _ _⟩) ?_
  refine Lx_qg (i := 10) (!(decide ((nth c.parents k) = zeroId))) (decide (0 < ((k : Nat) : Int))) rfl rfl rfl rfl rfl ((!(decide ((nth c.parents k) = zeroId))) && (decide (0 < ((k : Nat) : Int)))) gb_t _ (fun hA v35 hv36 => R_fieldAddr (off := 0) (oo := 0) Tryz.underlying47 rfl rfl Tryz.sizeOf39 rfl rfl ⟨rfl, Gr.refl _ _⟩) ?_
  refine Lx_qg (i := 11) (!(decide ((nth c.parents k) = zeroId))) (decide (0 < ((k : Nat) : Int))) rfl rfl rfl rfl rfl ((!(decide ((nth c.parents k) = zeroId))) && (decide (0 < ((k : Nat) : Int)))) gb_t _ (fun hA v37 hv38 => R_load1 (v := (slV c.ph c.parents)) Tryz.isAgg39 (gv_t hA) ((boxR_at ((H13.ext hv38).getOwn 0 rfl)).chunks 0 1 0 0 _ rfl rfl rfl) ⟨rfl, Gr.refl _ _⟩) ?_
  refine Lx_qg (i := 12) (!(decide ((nth c.parents k) = zeroId))) (decide (0 < ((k : Nat) : Int))) rfl rfl rfl rfl rfl ((!(decide ((nth c.parents k) = zeroId))) && (decide (0 < ((k : Nat) : Int)))) gb_t _ (fun hA v39 hv40 => R_move (v := (.int .i64 ((k : Nat) : Int))) rfl ⟨rfl, Gr.refl _ _⟩) ?_
  refine Lx_qg (i := 13) (!(decide ((nth c.parents k) = zeroId))) (decide (0 < ((k : Nat) : Int))) rfl rfl rfl rfl rfl ((!(decide ((nth c.parents k) = zeroId))) && (decide (0 < ((k : Nat) : Int)))) gb_t _ (fun hA v41 hv42 => by
        have hP : (¬ ((nth c.parents k) = zeroId) ∧ (0 < ((k : Nat) : Int))) := (And.imp (fun h => (of_decide_eq_false (notT h))) (fun h => (of_decide_eq_true h)) (andT hA))
        exact R_arith (a := ((k : Nat) : Int)) (b := 1) (r0 := ((k : Nat) : Int) - 1) (r := ((k - 1 : Nat) : Int)) (gv_t hA) rfl rfl (wrapP _ (by omega) (by omega)) ⟨rfl, Gr.refl _ _⟩) ?_
  refine Lx_qg (i := 14) (!(decide ((nth c.parents k) = zeroId))) (decide (0 < ((k : Nat) : Int))) rfl rfl rfl rfl rfl ((!(decide ((nth c.parents k) = zeroId))) && (decide (0 < ((k : Nat) : Int)))) gb_t _ (fun hA v43 hv44 => by
        have hP : (¬ ((nth c.parents k) = zeroId) ∧ (0 < ((k : Nat) : Int))) := (And.imp (fun h => (of_decide_eq_false (notT h))) (fun h => (of_decide_eq_true h)) (andT hA))
        exact R_index_pure (H13.sl 2 rfl) (n := c.parents.length) rfl (j := ((k - 1 : Nat) : Int)) (oo := (c.ph.o + (k - 1) * 32)) Tryz.underlying39 Tryz.sizeOf45 (gv_t hA) (gv_t hA) (by omega) (by omega) rfl ⟨rfl, Gr.refl _ _⟩) ?_
  refine Lx_qg (i := 15) (!(decide ((nth c.parents k) = zeroId))) (decide (0 < ((k : Nat) : Int))) rfl rfl rfl rfl rfl ((!(decide ((nth c.parents k) = zeroId))) && (decide (0 < ((k : Nat) : Int)))) gb_t _ (fun hA v45 hv46 => by
        have hP : (¬ ((nth c.parents k) = zeroId) ∧ (0 < ((k : Nat) : Int))) := (And.imp (fun h => (of_decide_eq_false (notT h))) (fun h => (of_decide_eq_true h)) (andT hA))
        exact R_loadA (cs := [(idCells (nth c.parents (k - 1)))]) Tryz.isAgg45 Tryz.sizeOf45 rfl (gv_t hA) ((Sl.elem ((H13.ext hv46).sl 2 rfl) (i := (k - 1)) (by omega) rfl).chunks 0 1 0 (c.ph.o + (k - 1) * 32) _ rfl rfl rfl) ⟨rfl, Gr.refl _ _⟩) ?_
  refine Lx_qg (i := 16) (!(decide ((nth c.parents k) = zeroId))) (decide (0 < ((k : Nat) : Int))) rfl rfl rfl rfl rfl ((!(decide ((nth c.parents k) = zeroId))) && (decide (0 < ((k : Nat) : Int)))) gb_t _ (fun hA v47 hv48 => R_fieldAddr (off := 0) (oo := 0) Tryz.underlying47 rfl rfl Tryz.sizeOf39 rfl rfl ⟨rfl, Gr.refl _ _⟩) ?_
  refine Lx_qg (i := 17) (!(decide ((nth c.parents k) = zeroId))) (decide (0 < ((k : Nat) : Int))) rfl rfl rfl rfl rfl ((!(decide ((nth c.parents k) = zeroId))) && (decide (0 < ((k : Nat) : Int)))) gb_t _ (fun hA v49 hv50 => R_load1 (v := (slV c.ph c.parents)) Tryz.isAgg39 (gv_t hA) ((boxR_at ((H13.ext hv50).getOwn 0 rfl)).chunks 0 1 0 0 _ rfl rfl rfl) ⟨rfl, Gr.refl _ _⟩) ?_
  refine Lx_qg (i := 18) (!(decide ((nth c.parents k) = zeroId))) (decide (0 < ((k : Nat) : Int))) rfl rfl rfl rfl rfl ((!(decide ((nth c.parents k) = zeroId))) && (decide (0 < ((k : Nat) : Int)))) gb_t _ (fun hA v51 hv52 => R_move (v := (.int .i64 ((k : Nat) : Int))) rfl ⟨rfl, Gr.refl _ _⟩) ?_
  refine Lx_qg (i := 19) (!(decide ((nth c.parents k) = zeroId))) (decide (0 < ((k : Nat) : Int))) rfl rfl rfl rfl rfl ((!(decide ((nth c.parents k) = zeroId))) && (decide (0 < ((k : Nat) : Int)))) gb_t _ (fun hA v53 hv54 => by
        have hP : (¬ ((nth c.parents k) = zeroId) ∧ (0 < ((k : Nat) : Int))) := (And.imp (fun h => (of_decide_eq_false (notT h))) (fun h => (of_decide_eq_true h)) (andT hA))
        exact R_index_pure (H13.sl 2 rfl) (n := c.parents.length) rfl (j := ((k : Nat) : Int)) (oo := (c.ph.o + k * 32)) Tryz.underlying39 Tryz.sizeOf45 (gv_t hA) (gv_t hA) (by omega) (by omega) rfl ⟨rfl, Gr.refl _ _⟩) ?_
  refine Lx_qg (i := 20) (!(decide ((nth c.parents k) = zeroId))) (decide (0 < ((k : Nat) : Int))) rfl rfl rfl rfl rfl ((!(decide ((nth c.parents k) = zeroId))) && (decide (0 < ((k : Nat) : Int)))) gb_t _ (fun hA v55 hv56 => by
        have hP : (¬ ((nth c.parents k) = zeroId) ∧ (0 < ((k : Nat) : Int))) := (And.imp (fun h => (of_decide_eq_false (notT h))) (fun h => (of_decide_eq_true h)) (andT hA))
        exact R_loadA (cs := [(idCells (nth c.parents k))]) Tryz.isAgg45 Tryz.sizeOf45 rfl (gv_t hA) ((Sl.elem ((H13.ext hv56).sl 2 rfl) (i := k) (by omega) rfl).chunks 0 1 0 (c.ph.o + k * 32) _ rfl rfl rfl) ⟨rfl, Gr.refl _ _⟩) ?_
  refine Lx_qg (i := 21) (!(decide ((nth c.parents k) = zeroId))) (decide (0 < ((k : Nat) : Int))) rfl rfl rfl rfl rfl ((!(decide ((nth c.parents k) = zeroId))) && (decide (0 < ((k : Nat) : Int)))) gb_t (.int .i64 (cmpId (nth c.parents (k - 1)) (nth c.parents k))) (fun hA v57 hv58 => R_callL (vs := [(aggOf (idCh (nth c.parents (k - 1)))), (aggOf (idCh (nth c.parents k)))]) ref04_RightChange_c36 rfl (lst2 (gv_t hA) (gv_t hA)) (ref01_Cmp (nth c.parents (k - 1)) (nth c.parents k) v57 )) ?_
  refine Lx_qg (i := 22) (!(decide ((nth c.parents k) = zeroId))) (decide (0 < ((k : Nat) : Int))) rfl rfl rfl rfl rfl ((!(decide ((nth c.parents k) = zeroId))) && (decide (0 < ((k : Nat) : Int)))) gb_t _ (fun hA v59 hv60 => R_cmp (a := cmpId (nth c.parents (k - 1)) (nth c.parents k)) (b := (-1)) (r := (!(decide (cmpId (nth c.parents (k - 1)) (nth c.parents k) = (-1))))) (gv_t hA) rfl rfl ⟨rfl, Gr.refl _ _⟩) ?_
  refine Lx_qg (i := 23) true (decide ((nth c.parents k) = zeroId)) rfl rfl rfl rfl rfl (!(decide ((nth c.parents k) = zeroId))) ga_f _ (fun hA v61 hv62 => R_pick (t := (decide (0 < ((k : Nat) : Int)))) (v := (.bool ((decide (0 < ((k : Nat) : Int))) && (!(decide (cmpId (nth c.parents (k - 1)) (nth c.parents k) = (-1))))))) (gv_t hA) (pk_andA hA) ⟨rfl, Gr.refl _ _⟩) ?_
  refine Lx_q (i := 24) rfl rfl _ (fun v63 hv64 => R_pick (t := (decide ((nth c.parents k) = zeroId))) (v := (.bool ((decide ((nth c.parents k) = zeroId)) || ((decide (0 < ((k : Nat) : Int))) && (!(decide (cmpId (nth c.parents (k - 1)) (nth c.parents k) = (-1)))))))) rfl pk_or ⟨rfl, Gr.refl _ _⟩) ?_
  refine Lx_nil (fun w65 hw66 => ?_)
  have H67 := H13.ext hw66
  refine Then_n ?_
  refine W_cond (t := ((decide ((nth c.parents k) = zeroId)) || ((decide (0 < ((k : Nat) : Int))) && (!(decide (cmpId (nth c.parents (k - 1)) (nth c.parents k) = (-1))))))) rfl (fun hc68 => ?_) (fun hc68 => ?_)
  ·have hc68 : (((nth c.parents k) = zeroId) ∨ ((0 < ((k : Nat) : Int)) ∧ ¬ (cmpId (nth c.parents (k - 1)) (nth c.parents k) = (-1)))) := (Or.imp (fun h => (of_decide_eq_true h)) (fun h => (And.imp (fun h => (of_decide_eq_true h)) (fun h => (of_decide_eq_false (notT h))) (andT h))) (orT hc68))
   refine W_seq (W_reg ?_)
   refine O_v rfl (R_assign (v := (.bool false)) rfl ?_)
   refine O_nil (Then_n (W_ret (Blk_r (Then_r (Then_r (Blk_r (Then_r ?_)))))))
   refine ret_1 (v := (.bool false)) Tryz.results24 rfl ?_
   exact ⟨(chR_f1 (k := k) (by omega) (by assumption)), H67.gr⟩
  ·have hc68 : (¬ ((nth c.parents k) = zeroId) ∧ (¬ (0 < ((k : Nat) : Int)) ∨ (cmpId (nth c.parents (k - 1)) (nth c.parents k) = (-1)))) := (And.imp (fun h => (of_decide_eq_false h)) (fun h => (Or.imp (fun h => (of_decide_eq_false h)) (fun h => (of_decide_eq_true (notF h))) (andF h))) (orF hc68))
   refine W_skip (Blk_n (Then_n (W_reg ?_)))
   refine O_v rfl (R_move (v := (.int .i64 ((k : Nat) : Int))) rfl ?_)
   refine O_v rfl (R_arith (a := ((k : Nat) : Int)) (b := 1) (r0 := ((k : Nat) : Int) + 1) (r := ((k + 1 : Nat) : Int)) rfl rfl rfl (wrapN _ (by omega)) ?_)
   refine O_v rfl (R_assign (v := (.int .i64 ((k + 1 : Nat) : Int))) rfl ?_)
   refine O_nil (Then_n ?_)
   refine ⟨_, ?_, (k + 1), rfl, (by omega), (all_succ h1 (by assumption)), _, envL_self ⟨rfl, rfl, trivial⟩, H67⟩
   omega
 ·have hc14 : ¬ (((k : Nat) : Int) < ((c.parents.length : Nat) : Int)) := (of_decide_eq_false hc14)
  refine W_exit (Then_x (Then_x (Blk_x (Then_n (W_seq (W_seq (W_reg ?_)))))))
  refine O_v rfl (R_assign (v := (.int .i64 0)) rfl ?_)
  refine O_nil (Then_n (W_block ?_))
  refine W_loop (fun m69 e70 w71 => ∃ (j : Nat), m69 = c.ops.length - j ∧ (j ≤ c.ops.length) ∧ (∀ i, i < j → ((goodOp (nth c.ops i) = true ∧ ¬ c.time < (nth c.ops i).tm.T) ∧ (nth c.ops i).tm.R = c.r) ∧ (¬ (0 : Int) < ((i : Nat) : Int) ∨ cmpSt (nth c.ops (i - 1)).tm (nth c.ops i).tm = -1)) ∧ ∃ eb72, e70 = envL [(1, (.pointer (some ⟨b4, 0, none⟩))), (4, (.int .i64 ((j : Nat) : Int)))] eb72 ∧ Ctx w nob w71 [boxR b4 47 [[(slV c.ph c.parents)], [(.int .i64 c.time)], [(.int .i64 c.r)], [(slV c.oh c.ops)], (idCells c.tree), [(.string c.msg)]]] [deepI (Old w) stampCh 2 (fun x : OpS => x.oh) (fun x : OpS => x.over) c.ops, slI (Old w) opCh 41 c.oh c.ops, slI (Old w) idCh 32 c.ph c.parents]) _ ⟨0, rfl, (by omega), (all_zero _), _, envL_self ⟨rfl, rfl, trivial⟩, H13⟩ ?_
  rintro m69 _ w71 ⟨j, rfl, hj, h2, eb72, rfl, H73⟩
  refine W_seq (W_seq (W_reg ?_))
  refine O_v rfl (R_move (v := (.int .i64 ((j : Nat) : Int))) rfl ?_)
  refine O_v rfl (R_fieldAddr (off := 3) (oo := 3) Tryz.underlying47 rfl rfl Tryz.sizeOf43 rfl rfl ?_)
  refine O_v rfl (R_load1 (v := (slV c.oh c.ops)) Tryz.isAgg43 rfl ((boxR_at (H73.getOwn 0 rfl)).chunks 3 1 3 3 _ rfl rfl rfl) ?_)
  refine O_v rfl (R_len_slice (a := c.oh.a) (n := c.ops.length) (c := c.oh.c) Tryz.underlying43 rfl ?_)
  refine O_v rfl (R_cmp (a := ((j : Nat) : Int)) (b := ((c.ops.length : Nat) : Int)) (r := (decide (((j : Nat) : Int) < ((c.ops.length : Nat) : Int)))) rfl rfl rfl ?_)
  refine O_nil (Then_n ?_)
  refine W_cond (t := (decide (((j : Nat) : Int) < ((c.ops.length : Nat) : Int)))) rfl (fun hc74 => ?_) (fun hc74 => ?_)
  ·have hc74 : (((j : Nat) : Int) < ((c.ops.length : Nat) : Int)) := (of_decide_eq_true hc74)
   refine W_skip (Then_n (W_seq (W_block (W_seq (W_reg ?_)))))
   refine O_v rfl (R_fieldAddr (off := 3) (oo := 3) Tryz.underlying47 rfl rfl Tryz.sizeOf43 rfl rfl ?_)
   refine O_v rfl (R_load1 (v := (slV c.oh c.ops)) Tryz.isAgg43 rfl ((boxR_at (H73.getOwn 0 rfl)).chunks 3 1 3 3 _ rfl rfl rfl) ?_)
   refine O_v rfl (R_move (v := (.int .i64 ((j : Nat) : Int))) rfl ?_)
   refine O_v rfl (R_index_pure (H73.sl 1 rfl) (n := c.ops.length) rfl (j := ((j : Nat) : Int)) (oo := (c.oh.o + j * 41)) Tryz.underlying43 Tryz.sizeOf72 rfl rfl (by omega) (by omega) rfl ?_)
   refine O_v rfl (R_loadA (cs := [[(.int .i64 ((nth c.ops j).kind))], [(.int .i64 (((nth c.ops j).tm).T))], [(.int .i64 (((nth c.ops j).tm).R))], [(.int .i64 (((nth c.ops j).node).T))], [(.int .i64 (((nth c.ops j).node).R))], [(.int .i64 (((nth c.ops j).par).T))], [(.int .i64 (((nth c.ops j).par).R))], [(.string ((nth c.ops j).name))], (idCells ((nth c.ops j).data)), [(slV ((nth c.ops j).oh) ((nth c.ops j).over))]]) Tryz.isAgg72 Tryz.sizeOf72 rfl rfl ((Sl.elem (H73.sl 1 rfl) (i := j) (by omega) rfl).chunks 0 10 0 (c.oh.o + j * 41) _ rfl rfl rfl) ?_)
   refine O_v rfl (C_alloc H73 [[(.int .i64 0)], [(.int .i64 0)], [(.int .i64 0)], [(.int .i64 0)], [(.int .i64 0)], [(.int .i64 0)], [(.int .i64 0)], [(.string ByteArray.empty)], (idCells zeroId), [(.slice none 0 0)]] Tryz.zeroValue72 ?_)
   intro b75 w76 hb77 hx78 H79
   refine O_u (C_storeA H79 0 rfl 0 (sub := [[(.int .i64 ((nth c.ops j).kind))], [(.int .i64 (((nth c.ops j).tm).T))], [(.int .i64 (((nth c.ops j).tm).R))], [(.int .i64 (((nth c.ops j).node).T))], [(.int .i64 (((nth c.ops j).node).R))], [(.int .i64 (((nth c.ops j).par).T))], [(.int .i64 (((nth c.ops j).par).R))], [(.string ((nth c.ops j).name))], (idCells ((nth c.ops j).data)), [(slV ((nth c.ops j).oh) ((nth c.ops j).over))]]) [[(.int .i64 ((nth c.ops j).kind))], [(.int .i64 (((nth c.ops j).tm).T))], [(.int .i64 (((nth c.ops j).tm).R))], [(.int .i64 (((nth c.ops j).node).T))], [(.int .i64 (((nth c.ops j).node).R))], [(.int .i64 (((nth c.ops j).par).T))], [(.int .i64 (((nth c.ops j).par).R))], [(.string ((nth c.ops j).name))], (idCells ((nth c.ops j).data)), [(slV ((nth c.ops j).oh) ((nth c.ops j).over))]] Tryz.sizeOf72 rfl rfl rfl rfl ⟨[[(.int .i64 0)], [(.int .i64 0)], [(.int .i64 0)], [(.int .i64 0)], [(.int .i64 0)], [(.int .i64 0)], [(.int .i64 0)], [(.string ByteArray.empty)], (idCells zeroId), [(.slice none 0 0)]], [], rfl, rfl, rfl⟩ rfl ?_)
   intro w80 hg81 H82
   refine O_nil (Then_n (W_seq ?_))
   refine W_rgd TryzMixed [(0, .q 0), (1, .q 0), (2, .q 0), (3, .q 0), (4, .q 0), (5, .q 0), (6, .q 0), (7, .q 0), (8, .q 0), (9, .q 0), (10, .q 0), (11, .q 0), (12, .q 0), (13, .q 0), (14, .q 0), (15, .q 0), (16, .q 0), (17, .q 0), (18, .q 0), (19, .q 0), (20, .q 0), (21, .q 0), (22, .q 0), (23, .q 0), (24, .q 0), (25, .q 0), (26, .q 0), (27, .q 0), (28, .q 0), (29, .q 0), (30, .q 0), (31, .q 0), (32, .q 0), (33, .q 0), (34, .q 0), (35, .q 0)] (by kernel_rfl) ?_
   refine Lx_q (i := 0) rfl rfl _ (fun v83 hv84 => R_loadA (cs := [[(.int .i64 ((nth c.ops j).kind))], [(.int .i64 (((nth c.ops j).tm).T))], [(.int .i64 (((nth c.ops j).tm).R))], [(.int .i64 (((nth c.ops j).node).T))], [(.int .i64 (((nth c.ops j).node).R))], [(.int .i64 (((nth c.ops j).par).T))], [(.int .i64 (((nth c.ops j).par).R))], [(.string ((nth c.ops j).name))], (idCells ((nth c.ops j).data)), [(slV ((nth c.ops j).oh) ((nth c.ops j).over))]]) Tryz.isAgg72 Tryz.sizeOf72 rfl rfl ((boxR_at ((H82.ext hv84).getOwn 0 rfl)).chunks 0 10 0 0 _ rfl rfl rfl) ⟨rfl, Gr.refl _ _⟩) ?_
   refine Lx_q (i := 1) rfl rfl (.bool (goodOp (nth c.ops j))) (fun v85 hv86 => R_callL (vs := [(aggOf (opCh (nth c.ops j)))]) ref04_RightChange_c61 rfl rfl (ref03_Good (nth c.ops j) v85 ((H82.ext hv86).deepOld 0 rfl _ (nth_mem (by omega))) (hl _ (nth_mem (by omega))))) ?_
   refine Lx_q (i := 2) rfl rfl _ (fun v87 hv88 => R_not rfl ⟨rfl, Gr.refl _ _⟩) ?_
   refine Lx_q (i := 3) rfl rfl _ (fun v89 hv90 => R_move (v := (.bool (!(goodOp (nth c.ops j))))) rfl ⟨rfl, Gr.refl _ _⟩) ?_
   refine Lx_qg (i := 4) true (!(goodOp (nth c.ops j))) rfl rfl rfl rfl rfl (!(!(goodOp (nth c.ops j)))) ga_f _ (fun hA v91 hv92 => R_fieldAddr (off := 1) (oo := 1) Tryz.underlying72 rfl rfl Tryz.sizeOf69 rfl rfl ⟨rfl, Gr.refl _ _⟩) ?_
   refine Lx_qg (i := 5) true (!(goodOp (nth c.ops j))) rfl rfl rfl rfl rfl (!(!(goodOp (nth c.ops j)))) ga_f _ (fun hA v93 hv94 => R_fieldAddr (off := 0) (oo := 1) Tryz.underlying69 rfl rfl Tryz.sizeOf2 (gv_t hA) rfl ⟨rfl, Gr.refl _ _⟩) ?_
   refine Lx_qg (i := 6) true (!(goodOp (nth c.ops j))) rfl rfl rfl rfl rfl (!(!(goodOp (nth c.ops j)))) ga_f _ (fun hA v95 hv96 => R_load1 (v := (.int .i64 (((nth c.ops j).tm).T))) Tryz.isAgg2 (gv_t hA) ((boxR_at ((H82.ext hv96).getOwn 0 rfl)).chunks 1 1 1 1 _ rfl rfl rfl) ⟨rfl, Gr.refl _ _⟩) ?_
   refine Lx_qg (i := 7) true (!(goodOp (nth c.ops j))) rfl rfl rfl rfl rfl (!(!(goodOp (nth c.ops j)))) ga_f _ (fun hA v97 hv98 => R_fieldAddr (off := 1) (oo := 1) Tryz.underlying47 rfl rfl Tryz.sizeOf2 rfl rfl ⟨rfl, Gr.refl _ _⟩) ?_
   refine Lx_qg (i := 8) true (!(goodOp (nth c.ops j))) rfl rfl rfl rfl rfl (!(!(goodOp (nth c.ops j)))) ga_f _ (fun hA v99 hv100 => R_load1 (v := (.int .i64 c.time)) Tryz.isAgg2 (gv_t hA) ((boxR_at ((H82.ext hv100).getOwn 1 rfl)).chunks 1 1 1 1 _ rfl rfl rfl) ⟨rfl, Gr.refl _ _⟩) ?_
   refine Lx_qg (i := 9) true (!(goodOp (nth c.ops j))) rfl rfl rfl rfl rfl (!(!(goodOp (nth c.ops j)))) ga_f _ (fun hA v101 hv102 => R_cmp (a := ((nth c.ops j).tm).T) (b := c.time) (r := (decide (c.time < ((nth c.ops j).tm).T))) (gv_t hA) (gv_t hA) rfl ⟨rfl, Gr.refl _ _⟩) ?_
   refine Lx_q (i := 10) rfl rfl _ (fun v103 hv104 => R_pick (t := (!(goodOp (nth c.ops j)))) (v := (.bool ((!(goodOp (nth c.ops j))) || (decide (c.time < ((nth c.ops j).tm).T))))) rfl pk_or ⟨rfl, Gr.refl _ _⟩) ?_
   refine Lx_q (i := 11) rfl rfl _ (fun v105 hv106 => R_move (v := (.bool ((!(goodOp (nth c.ops j))) || (decide (c.time < ((nth c.ops j).tm).T))))) rfl ⟨rfl, Gr.refl _ _⟩) ?_
   refine Lx_qg (i := 12) true ((!(goodOp (nth c.ops j))) || (decide (c.time < ((nth c.ops j).tm).T))) rfl rfl rfl rfl rfl (!((!(goodOp (nth c.ops j))) || (decide (c.time < ((nth c.ops j).tm).T)))) ga_f _ (fun hA v107 hv108 => R_fieldAddr (off := 1) (oo := 1) Tryz.underlying72 rfl rfl Tryz.sizeOf69 rfl rfl ⟨rfl, Gr.refl _ _⟩) ?_
   refine Lx_qg (i := 13) true ((!(goodOp (nth c.ops j))) || (decide (c.time < ((nth c.ops j).tm).T))) rfl rfl rfl rfl rfl (!((!(goodOp (nth c.ops j))) || (decide (c.time < ((nth c.ops j).tm).T)))) ga_f _ (fun hA v109 hv110 => R_fieldAddr (off := 1) (oo := 2) Tryz.underlying69 rfl rfl Tryz.sizeOf3 (gv_t hA) rfl ⟨rfl, Gr.refl _ _⟩) ?_
   refine Lx_qg (i := 14) true ((!(goodOp (nth c.ops j))) || (decide (c.time < ((nth c.ops j).tm).T))) rfl rfl rfl rfl rfl (!((!(goodOp (nth c.ops j))) || (decide (c.time < ((nth c.ops j).tm).T)))) ga_f _ (fun hA v111 hv112 => R_load1 (v := (.int .i64 (((nth c.ops j).tm).R))) Tryz.isAgg3 (gv_t hA) ((boxR_at ((H82.ext hv112).getOwn 0 rfl)).chunks 2 1 2 2 _ rfl rfl rfl) ⟨rfl, Gr.refl _ _⟩) ?_
   refine Lx_qg (i := 15) true ((!(goodOp (nth c.ops j))) || (decide (c.time < ((nth c.ops j).tm).T))) rfl rfl rfl rfl rfl (!((!(goodOp (nth c.ops j))) || (decide (c.time < ((nth c.ops j).tm).T)))) ga_f _ (fun hA v113 hv114 => R_fieldAddr (off := 2) (oo := 2) Tryz.underlying47 rfl rfl Tryz.sizeOf3 rfl rfl ⟨rfl, Gr.refl _ _⟩) ?_
   refine Lx_qg (i := 16) true ((!(goodOp (nth c.ops j))) || (decide (c.time < ((nth c.ops j).tm).T))) rfl rfl rfl rfl rfl (!((!(goodOp (nth c.ops j))) || (decide (c.time < ((nth c.ops j).tm).T)))) ga_f _ (fun hA v115 hv116 => R_load1 (v := (.int .i64 c.r)) Tryz.isAgg3 (gv_t hA) ((boxR_at ((H82.ext hv116).getOwn 1 rfl)).chunks 2 1 2 2 _ rfl rfl rfl) ⟨rfl, Gr.refl _ _⟩) ?_
   refine Lx_qg (i := 17) true ((!(goodOp (nth c.ops j))) || (decide (c.time < ((nth c.ops j).tm).T))) rfl rfl rfl rfl rfl (!((!(goodOp (nth c.ops j))) || (decide (c.time < ((nth c.ops j).tm).T)))) ga_f _ (fun hA v117 hv118 => R_cmp (a := ((nth c.ops j).tm).R) (b := c.r) (r := (!(decide (((nth c.ops j).tm).R = c.r)))) (gv_t hA) (gv_t hA) rfl ⟨rfl, Gr.refl _ _⟩) ?_
   refine Lx_q (i := 18) rfl rfl _ (fun v119 hv120 => R_pick (t := ((!(goodOp (nth c.ops j))) || (decide (c.time < ((nth c.ops j).tm).T)))) (v := (.bool (((!(goodOp (nth c.ops j))) || (decide (c.time < ((nth c.ops j).tm).T))) || (!(decide (((nth c.ops j).tm).R = c.r)))))) rfl pk_or ⟨rfl, Gr.refl _ _⟩) ?_
   refine Lx_q (i := 19) rfl rfl _ (fun v121 hv122 => R_move (v := (.bool (((!(goodOp (nth c.ops j))) || (decide (c.time < ((nth c.ops j).tm).T))) || (!(decide (((nth c.ops j).tm).R = c.r)))))) rfl ⟨rfl, Gr.refl _ _⟩) ?_
   refine Lx_qg (i := 20) true (((!(goodOp (nth c.ops j))) || (decide (c.time < ((nth c.ops j).tm).T))) || (!(decide (((nth c.ops j).tm).R = c.r)))) rfl rfl rfl rfl rfl (!(((!(goodOp (nth c.ops j))) || (decide (c.time < ((nth c.ops j).tm).T))) || (!(decide (((nth c.ops j).tm).R = c.r))))) ga_f _ (fun hA v123 hv124 => R_move (v := (.int .i64 ((j : Nat) : Int))) rfl ⟨rfl, Gr.refl _ _⟩) ?_
   refine Lx_qg (i := 21) true (((!(goodOp (nth c.ops j))) || (decide (c.time < ((nth c.ops j).tm).T))) || (!(decide (((nth c.ops j).tm).R = c.r)))) rfl rfl rfl rfl rfl (!(((!(goodOp (nth c.ops j))) || (decide (c.time < ((nth c.ops j).tm).T))) || (!(decide (((nth c.ops j).tm).R = c.r))))) ga_f _ (fun hA v125 hv126 => R_cmp (a := ((j : Nat) : Int)) (b := 0) (r := (decide (0 < ((j : Nat) : Int)))) (gv_t hA) rfl rfl ⟨rfl, Gr.refl _ _⟩) ?_
   refine Lx_qg (i := 22) true (((!(goodOp (nth c.ops j))) || (decide (c.time < ((nth c.ops j).tm).T))) || (!(decide (((nth c.ops j).tm).R = c.r)))) rfl rfl rfl rfl rfl (!(((!(goodOp (nth c.ops j))) || (decide (c.time < ((nth c.ops j).tm).T))) || (!(decide (((nth c.ops j).tm).R = c.r))))) ga_f _ (fun hA v127 hv128 => R_move (v := (.bool (decide (0 < ((j : Nat) : Int))))) (gv_t hA) ⟨rfl, Gr.refl _ _⟩) ?_
   refine Lx_qg (i := 23) (!(((!(goodOp (nth c.ops j))) || (decide (c.time < ((nth c.ops j).tm).T))) || (!(decide (((nth c.ops j).tm).R = c.r))))) (decide (0 < ((j : Nat) : Int))) rfl rfl rfl rfl rfl ((!(((!(goodOp (nth c.ops j))) || (decide (c.time < ((nth c.ops j).tm).T))) || (!(decide (((nth c.ops j).tm).R = c.r))))) && (decide (0 < ((j : Nat) : Int)))) gb_t _ (fun hA v129 hv130 => R_fieldAddr (off := 3) (oo := 3) Tryz.underlying47 rfl rfl Tryz.sizeOf43 rfl rfl ⟨rfl, Gr.refl _ _⟩) ?_
   refine Lx_qg (i := 24) (!(((!(goodOp (nth c.ops j))) || (decide (c.time < ((nth c.ops j).tm).T))) || (!(decide (((nth c.ops j).tm).R = c.r))))) (decide (0 < ((j : Nat) : Int))) rfl rfl rfl rfl rfl ((!(((!(goodOp (nth c.ops j))) || (decide (c.time < ((nth c.ops j).tm).T))) || (!(decide (((nth c.ops j).tm).R = c.r))))) && (decide (0 < ((j : Nat) : Int)))) gb_t _ (fun hA v131 hv132 => R_load1 (v := (slV c.oh c.ops)) Tryz.isAgg43 (gv_t hA) ((boxR_at ((H82.ext hv132).getOwn 1 rfl)).chunks 3 1 3 3 _ rfl rfl rfl) ⟨rfl, Gr.refl _ _⟩) ?_
   refine Lx_qg (i := 25) (!(((!(goodOp (nth c.ops j))) || (decide (c.time < ((nth c.ops j).tm).T))) || (!(decide (((nth c.ops j).tm).R = c.r))))) (decide (0 < ((j : Nat) : Int))) rfl rfl rfl rfl rfl ((!(((!(goodOp (nth c.ops j))) || (decide (c.time < ((nth c.ops j).tm).T))) || (!(decide (((nth c.ops j).tm).R = c.r))))) && (decide (0 < ((j : Nat) : Int)))) gb_t _ (fun hA v133 hv134 => R_move (v := (.int .i64 ((j : Nat) : Int))) rfl ⟨rfl, Gr.refl _ _⟩) ?_
   refine Lx_qg (i := 26) (!(((!(goodOp (nth c.ops j))) || (decide (c.time < ((nth c.ops j).tm).T))) || (!(decide (((nth c.ops j).tm).R = c.r))))) (decide (0 < ((j : Nat) : Int))) rfl rfl rfl rfl rfl ((!(((!(goodOp (nth c.ops j))) || (decide (c.time < ((nth c.ops j).tm).T))) || (!(decide (((nth c.ops j).tm).R = c.r))))) && (decide (0 < ((j : Nat) : Int)))) gb_t _ (fun hA v135 hv136 => by
          have hP : ((((goodOp (nth c.ops j)) = true ∧ ¬ (c.time < ((nth c.ops j).tm).T)) ∧ (((nth c.ops j).tm).R = c.r)) ∧ (0 < ((j : Nat) : Int))) := (And.imp (fun h => (And.imp (fun h => (And.imp (fun h => (notF h)) (fun h => (of_decide_eq_false h)) (orF h))) (fun h => (of_decide_eq_true (notF h))) (orF (notT h)))) (fun h => (of_decide_eq_true h)) (andT hA))
          exact R_arith (a := ((j : Nat) : Int)) (b := 1) (r0 := ((j : Nat) : Int) - 1) (r := ((j - 1 : Nat) : Int)) (gv_t hA) rfl rfl (wrapP _ (by omega) (by omega)) ⟨rfl, Gr.refl _ _⟩) ?_
   refine Lx_qg (i := 27) (!(((!(goodOp (nth c.ops j))) || (decide (c.time < ((nth c.ops j).tm).T))) || (!(decide (((nth c.ops j).tm).R = c.r))))) (decide (0 < ((j : Nat) : Int))) rfl rfl rfl rfl rfl ((!(((!(goodOp (nth c.ops j))) || (decide (c.time < ((nth c.ops j).tm).T))) || (!(decide (((nth c.ops j).tm).R = c.r))))) && (decide (0 < ((j : Nat) : Int)))) gb_t _ (fun hA v137 hv138 => by
          have hP : ((((goodOp (nth c.ops j)) = true ∧ ¬ (c.time < ((nth c.ops j).tm).T)) ∧ (((nth c.ops j).tm).R = c.r)) ∧ (0 < ((j : Nat) : Int))) := (And.imp (fun h => (And.imp (fun h => (And.imp (fun h => (notF h)) (fun h => (of_decide_eq_false h)) (orF h))) (fun h => (of_decide_eq_true (notF h))) (orF (notT h)))) (fun h => (of_decide_eq_true h)) (andT hA))
          exact R_index_pure (H82.sl 1 rfl) (n := c.ops.length) rfl (j := ((j - 1 : Nat) : Int)) (oo := (c.oh.o + (j - 1) * 41)) Tryz.underlying43 Tryz.sizeOf72 (gv_t hA) (gv_t hA) (by omega) (by omega) rfl ⟨rfl, Gr.refl _ _⟩) ?_
   refine Lx_qg (i := 28) (!(((!(goodOp (nth c.ops j))) || (decide (c.time < ((nth c.ops j).tm).T))) || (!(decide (((nth c.ops j).tm).R = c.r))))) (decide (0 < ((j : Nat) : Int))) rfl rfl rfl rfl rfl ((!(((!(goodOp (nth c.ops j))) || (decide (c.time < ((nth c.ops j).tm).T))) || (!(decide (((nth c.ops j).tm).R = c.r))))) && (decide (0 < ((j : Nat) : Int)))) gb_t _ (fun hA v139 hv140 => R_fieldAddr (off := 1) (oo := ((c.oh.o + (j - 1) * 41) + 1)) Tryz.underlying72 rfl rfl Tryz.sizeOf69 (gv_t hA) rfl ⟨rfl, Gr.refl _ _⟩) ?_
   refine Lx_qg (i := 29) (!(((!(goodOp (nth c.ops j))) || (decide (c.time < ((nth c.ops j).tm).T))) || (!(decide (((nth c.ops j).tm).R = c.r))))) (decide (0 < ((j : Nat) : Int))) rfl rfl rfl rfl rfl ((!(((!(goodOp (nth c.ops j))) || (decide (c.time < ((nth c.ops j).tm).T))) || (!(decide (((nth c.ops j).tm).R = c.r))))) && (decide (0 < ((j : Nat) : Int)))) gb_t _ (fun hA v141 hv142 => by
          have hP : ((((goodOp (nth c.ops j)) = true ∧ ¬ (c.time < ((nth c.ops j).tm).T)) ∧ (((nth c.ops j).tm).R = c.r)) ∧ (0 < ((j : Nat) : Int))) := (And.imp (fun h => (And.imp (fun h => (And.imp (fun h => (notF h)) (fun h => (of_decide_eq_false h)) (orF h))) (fun h => (of_decide_eq_true (notF h))) (orF (notT h)))) (fun h => (of_decide_eq_true h)) (andT hA))
          exact R_loadA (cs := [[(.int .i64 (((nth c.ops (j - 1)).tm).T))], [(.int .i64 (((nth c.ops (j - 1)).tm).R))]]) Tryz.isAgg69 Tryz.sizeOf69 rfl (gv_t hA) ((Sl.elem ((H82.ext hv142).sl 1 rfl) (i := (j - 1)) (by omega) rfl).chunks 1 2 1 ((c.oh.o + (j - 1) * 41) + 1) _ rfl rfl rfl) ⟨rfl, Gr.refl _ _⟩) ?_
   refine Lx_qg (i := 30) (!(((!(goodOp (nth c.ops j))) || (decide (c.time < ((nth c.ops j).tm).T))) || (!(decide (((nth c.ops j).tm).R = c.r))))) (decide (0 < ((j : Nat) : Int))) rfl rfl rfl rfl rfl ((!(((!(goodOp (nth c.ops j))) || (decide (c.time < ((nth c.ops j).tm).T))) || (!(decide (((nth c.ops j).tm).R = c.r))))) && (decide (0 < ((j : Nat) : Int)))) gb_t _ (fun hA v143 hv144 => R_fieldAddr (off := 1) (oo := 1) Tryz.underlying72 rfl rfl Tryz.sizeOf69 rfl rfl ⟨rfl, Gr.refl _ _⟩) ?_
   refine Lx_qg (i := 31) (!(((!(goodOp (nth c.ops j))) || (decide (c.time < ((nth c.ops j).tm).T))) || (!(decide (((nth c.ops j).tm).R = c.r))))) (decide (0 < ((j : Nat) : Int))) rfl rfl rfl rfl rfl ((!(((!(goodOp (nth c.ops j))) || (decide (c.time < ((nth c.ops j).tm).T))) || (!(decide (((nth c.ops j).tm).R = c.r))))) && (decide (0 < ((j : Nat) : Int)))) gb_t _ (fun hA v145 hv146 => R_loadA (cs := [[(.int .i64 (((nth c.ops j).tm).T))], [(.int .i64 (((nth c.ops j).tm).R))]]) Tryz.isAgg69 Tryz.sizeOf69 rfl (gv_t hA) ((boxR_at ((H82.ext hv146).getOwn 0 rfl)).chunks 1 2 1 1 _ rfl rfl rfl) ⟨rfl, Gr.refl _ _⟩) ?_
   refine Lx_qg (i := 32) (!(((!(goodOp (nth c.ops j))) || (decide (c.time < ((nth c.ops j).tm).T))) || (!(decide (((nth c.ops j).tm).R = c.r))))) (decide (0 < ((j : Nat) : Int))) rfl rfl rfl rfl rfl ((!(((!(goodOp (nth c.ops j))) || (decide (c.time < ((nth c.ops j).tm).T))) || (!(decide (((nth c.ops j).tm).R = c.r))))) && (decide (0 < ((j : Nat) : Int)))) gb_t (.int .i64 (cmpSt ((nth c.ops (j - 1)).tm) ((nth c.ops j).tm))) (fun hA v147 hv148 => R_callL (vs := [(aggOf (stampCh ((nth c.ops (j - 1)).tm))), (aggOf (stampCh ((nth c.ops j).tm)))]) ref04_RightChange_c44 rfl (lst2 (gv_t hA) (gv_t hA)) (ref03_Cmp ((nth c.ops (j - 1)).tm) ((nth c.ops j).tm) v147 )) ?_
   refine Lx_qg (i := 33) (!(((!(goodOp (nth c.ops j))) || (decide (c.time < ((nth c.ops j).tm).T))) || (!(decide (((nth c.ops j).tm).R = c.r))))) (decide (0 < ((j : Nat) : Int))) rfl rfl rfl rfl rfl ((!(((!(goodOp (nth c.ops j))) || (decide (c.time < ((nth c.ops j).tm).T))) || (!(decide (((nth c.ops j).tm).R = c.r))))) && (decide (0 < ((j : Nat) : Int)))) gb_t _ (fun hA v149 hv150 => R_cmp (a := cmpSt ((nth c.ops (j - 1)).tm) ((nth c.ops j).tm)) (b := (-1)) (r := (!(decide (cmpSt ((nth c.ops (j - 1)).tm) ((nth c.ops j).tm) = (-1))))) (gv_t hA) rfl rfl ⟨rfl, Gr.refl _ _⟩) ?_
   refine Lx_qg (i := 34) true (((!(goodOp (nth c.ops j))) || (decide (c.time < ((nth c.ops j).tm).T))) || (!(decide (((nth c.ops j).tm).R = c.r)))) rfl rfl rfl rfl rfl (!(((!(goodOp (nth c.ops j))) || (decide (c.time < ((nth c.ops j).tm).T))) || (!(decide (((nth c.ops j).tm).R = c.r))))) ga_f _ (fun hA v151 hv152 => R_pick (t := (decide (0 < ((j : Nat) : Int)))) (v := (.bool ((decide (0 < ((j : Nat) : Int))) && (!(decide (cmpSt ((nth c.ops (j - 1)).tm) ((nth c.ops j).tm) = (-1))))))) (gv_t hA) (pk_andA hA) ⟨rfl, Gr.refl _ _⟩) ?_
   refine Lx_q (i := 35) rfl rfl _ (fun v153 hv154 => R_pick (t := (((!(goodOp (nth c.ops j))) || (decide (c.time < ((nth c.ops j).tm).T))) || (!(decide (((nth c.ops j).tm).R = c.r))))) (v := (.bool ((((!(goodOp (nth c.ops j))) || (decide (c.time < ((nth c.ops j).tm).T))) || (!(decide (((nth c.ops j).tm).R = c.r)))) || ((decide (0 < ((j : Nat) : Int))) && (!(decide (cmpSt ((nth c.ops (j - 1)).tm) ((nth c.ops j).tm) = (-1)))))))) rfl pk_or ⟨rfl, Gr.refl _ _⟩) ?_
   refine Lx_nil (fun w155 hw156 => ?_)
   have H157 := H82.ext hw156
   refine Then_n ?_
   refine W_cond (t := ((((!(goodOp (nth c.ops j))) || (decide (c.time < ((nth c.ops j).tm).T))) || (!(decide (((nth c.ops j).tm).R = c.r)))) || ((decide (0 < ((j : Nat) : Int))) && (!(decide (cmpSt ((nth c.ops (j - 1)).tm) ((nth c.ops j).tm) = (-1))))))) rfl (fun hc158 => ?_) (fun hc158 => ?_)
   ·have hc158 : ((((goodOp (nth c.ops j)) = false ∨ (c.time < ((nth c.ops j).tm).T)) ∨ ¬ (((nth c.ops j).tm).R = c.r)) ∨ ((0 < ((j : Nat) : Int)) ∧ ¬ (cmpSt ((nth c.ops (j - 1)).tm) ((nth c.ops j).tm) = (-1)))) := (Or.imp (fun h => (Or.imp (fun h => (Or.imp (fun h => (notT h)) (fun h => (of_decide_eq_true h)) (orT h))) (fun h => (of_decide_eq_false (notT h))) (orT h))) (fun h => (And.imp (fun h => (of_decide_eq_true h)) (fun h => (of_decide_eq_false (notT h))) (andT h))) (orT hc158))
    refine W_seq (W_reg ?_)
    refine O_v rfl (R_assign (v := (.bool false)) rfl ?_)
    refine O_nil (Then_n (W_ret (Blk_r (Then_r (Then_r (Blk_r (Then_r ?_)))))))
    refine ret_1 (v := (.bool false)) Tryz.results24 rfl ?_
    exact ⟨(chR_f2 (k := j) (by omega) (by assumption)), H157.gr⟩
   ·have hc158 : ((((goodOp (nth c.ops j)) = true ∧ ¬ (c.time < ((nth c.ops j).tm).T)) ∧ (((nth c.ops j).tm).R = c.r)) ∧ (¬ (0 < ((j : Nat) : Int)) ∨ (cmpSt ((nth c.ops (j - 1)).tm) ((nth c.ops j).tm) = (-1)))) := (And.imp (fun h => (And.imp (fun h => (And.imp (fun h => (notF h)) (fun h => (of_decide_eq_false h)) (orF h))) (fun h => (of_decide_eq_true (notF h))) (orF h))) (fun h => (Or.imp (fun h => (of_decide_eq_false h)) (fun h => (of_decide_eq_true (notF h))) (andF h))) (orF hc158))
    refine W_skip (Blk_n (Then_n (W_reg ?_)))
    refine O_v rfl (R_move (v := (.int .i64 ((j : Nat) : Int))) rfl ?_)
    refine O_v rfl (R_arith (a := ((j : Nat) : Int)) (b := 1) (r0 := ((j : Nat) : Int) + 1) (r := ((j + 1 : Nat) : Int)) rfl rfl rfl (wrapN _ (by omega)) ?_)
    refine O_v rfl (R_assign (v := (.int .i64 ((j + 1 : Nat) : Int))) rfl ?_)
    refine O_nil (Then_n ?_)
    have H159 := H157.sub (B' := [boxR b4 47 [[(slV c.ph c.parents)], [(.int .i64 c.time)], [(.int .i64 c.r)], [(slV c.oh c.ops)], (idCells c.tree), [(.string c.msg)]]]) (I' := [deepI (Old w) stampCh 2 (fun x : OpS => x.oh) (fun x : OpS => x.over) c.ops, slI (Old w) opCh 41 c.oh c.ops, slI (Old w) idCh 32 c.ph c.parents]) (List.Sublist.cons _ (List.Sublist.cons_cons _ List.Sublist.slnil)) (List.forall_mem_cons.2 ⟨List.mem_of_getElem? (i := 0) rfl, List.forall_mem_cons.2 ⟨List.mem_of_getElem? (i := 1) rfl, List.forall_mem_cons.2 ⟨List.mem_of_getElem? (i := 2) rfl, fun _ h => (nomatch h)⟩⟩⟩)
    refine ⟨_, ?_, (j + 1), rfl, (by omega), (all_succ h2 (by assumption)), _, envL_self ⟨rfl, rfl, trivial⟩, H159⟩
    omega
  ·have hc74 : ¬ (((j : Nat) : Int) < ((c.ops.length : Nat) : Int)) := (of_decide_eq_false hc74)
   refine W_exit (Then_x (Then_x (Blk_x (Then_n (W_seq ?_)))))
   refine W_rg [(0, .q 0), (1, .q 0), (2, .q 0), (3, .q 0), (4, .q 0), (5, .q 0), (6, .q 0), (7, .q 0), (8, .q 0), (9, .q 0), (10, .q 0), (11, .q 0), (12, .q 0), (13, .q 0), (14, .q 0), (15, .q 0), (16, .q 0), (17, .q 0), (18, .q 0), (19, .q 0), (20, .q 0), (21, .q 0), (22, .q 0), (23, .q 0), (24, .q 0), (25, .q 0), (26, .q 0), (27, .q 0), (28, .q 0), (29, .q 0), (30, .q 0), (31, .q 0), (32, .q 0), (33, .q 0), (34, .q 0), (35, .q 0), (36, .q 0), (37, .q 0), (38, .q 0), (39, .q 0), (40, .q 0), (41, .q 0), (42, .q 0)] (by kernel_rfl) ?_
   refine Lx_q (i := 0) rfl rfl _ (fun v160 hv161 => R_fieldAddr (off := 0) (oo := 0) Tryz.underlying47 rfl rfl Tryz.sizeOf39 rfl rfl ⟨rfl, Gr.refl _ _⟩) ?_
   refine Lx_q (i := 1) rfl rfl _ (fun v162 hv163 => R_load1 (v := (slV c.ph c.parents)) Tryz.isAgg39 rfl ((boxR_at ((H73.ext hv163).getOwn 0 rfl)).chunks 0 1 0 0 _ rfl rfl rfl) ⟨rfl, Gr.refl _ _⟩) ?_
   refine Lx_q (i := 2) rfl rfl _ (fun v164 hv165 => R_len_slice (a := c.ph.a) (n := c.parents.length) (c := c.ph.c) Tryz.underlying39 rfl ⟨rfl, Gr.refl _ _⟩) ?_
   refine Lx_q (i := 3) rfl rfl _ (fun v166 hv167 => R_cmp (a := ((c.parents.length : Nat) : Int)) (b := 2) (r := (decide (((c.parents.length : Nat) : Int) ≤ 2))) rfl rfl rfl ⟨rfl, Gr.refl _ _⟩) ?_
   refine Lx_q (i := 4) rfl rfl _ (fun v168 hv169 => R_move (v := (.bool (decide (((c.parents.length : Nat) : Int) ≤ 2)))) rfl ⟨rfl, Gr.refl _ _⟩) ?_
   refine Lx_qg (i := 5) true (decide (((c.parents.length : Nat) : Int) ≤ 2)) rfl rfl rfl rfl rfl (decide (((c.parents.length : Nat) : Int) ≤ 2)) ga_t _ (fun hA v170 hv171 => R_fieldAddr (off := 1) (oo := 1) Tryz.underlying47 rfl rfl Tryz.sizeOf2 rfl rfl ⟨rfl, Gr.refl _ _⟩) ?_
   refine Lx_qg (i := 6) true (decide (((c.parents.length : Nat) : Int) ≤ 2)) rfl rfl rfl rfl rfl (decide (((c.parents.length : Nat) : Int) ≤ 2)) ga_t _ (fun hA v172 hv173 => R_load1 (v := (.int .i64 c.time)) Tryz.isAgg2 (gv_t hA) ((boxR_at ((H73.ext hv173).getOwn 0 rfl)).chunks 1 1 1 1 _ rfl rfl rfl) ⟨rfl, Gr.refl _ _⟩) ?_
   refine Lx_qg (i := 7) true (decide (((c.parents.length : Nat) : Int) ≤ 2)) rfl rfl rfl rfl rfl (decide (((c.parents.length : Nat) : Int) ≤ 2)) ga_t _ (fun hA v174 hv175 => R_fieldAddr (off := 2) (oo := 2) Tryz.underlying47 rfl rfl Tryz.sizeOf3 rfl rfl ⟨rfl, Gr.refl _ _⟩) ?_
   refine Lx_qg (i := 8) true (decide (((c.parents.length : Nat) : Int) ≤ 2)) rfl rfl rfl rfl rfl (decide (((c.parents.length : Nat) : Int) ≤ 2)) ga_t _ (fun hA v176 hv177 => R_load1 (v := (.int .i64 c.r)) Tryz.isAgg3 (gv_t hA) ((boxR_at ((H73.ext hv177).getOwn 0 rfl)).chunks 2 1 2 2 _ rfl rfl rfl) ⟨rfl, Gr.refl _ _⟩) ?_
   refine Lx_qg (i := 9) true (decide (((c.parents.length : Nat) : Int) ≤ 2)) rfl rfl rfl rfl rfl (decide (((c.parents.length : Nat) : Int) ≤ 2)) ga_t _ (fun hA v178 hv179 => R_buildL (vs := [(0, (.int .i64 c.time)), (1, (.int .i64 c.r))]) (v := aggOf [[(.int .i64 c.time)], [(.int .i64 c.r)]]) (prt2 (gv_t hA) (gv_t hA)) (fun _ => by kernel_rfl) ⟨rfl, Gr.refl _ _⟩) ?_
   refine Lx_qg (i := 10) true (decide (((c.parents.length : Nat) : Int) ≤ 2)) rfl rfl rfl rfl rfl (decide (((c.parents.length : Nat) : Int) ≤ 2)) ga_t (.bool (stRight ({ T := c.time, R := c.r } : Stamp))) (fun hA v180 hv181 => R_callL (vs := [(aggOf [[(.int .i64 c.time)], [(.int .i64 c.r)]])]) ref04_RightChange_c62 rfl (lst1 (gv_t hA)) (ref03_Right ({ T := c.time, R := c.r } : Stamp) v180 )) ?_
   refine Lx_q (i := 11) rfl rfl _ (fun v182 hv183 => R_pick (t := (decide (((c.parents.length : Nat) : Int) ≤ 2))) (v := (.bool ((decide (((c.parents.length : Nat) : Int) ≤ 2)) && (stRight ({ T := c.time, R := c.r } : Stamp))))) rfl pk_and ⟨rfl, Gr.refl _ _⟩) ?_
   refine Lx_q (i := 12) rfl rfl _ (fun v184 hv185 => R_move (v := (.bool ((decide (((c.parents.length : Nat) : Int) ≤ 2)) && (stRight ({ T := c.time, R := c.r } : Stamp))))) rfl ⟨rfl, Gr.refl _ _⟩) ?_
   refine Lx_qg (i := 13) true ((decide (((c.parents.length : Nat) : Int) ≤ 2)) && (stRight ({ T := c.time, R := c.r } : Stamp))) rfl rfl rfl rfl rfl ((decide (((c.parents.length : Nat) : Int) ≤ 2)) && (stRight ({ T := c.time, R := c.r } : Stamp))) ga_t _ (fun hA v186 hv187 => R_fieldAddr (off := 36) (oo := 36) Tryz.underlying47 rfl rfl Tryz.sizeOf9 rfl rfl ⟨rfl, Gr.refl _ _⟩) ?_
   refine Lx_qg (i := 14) true ((decide (((c.parents.length : Nat) : Int) ≤ 2)) && (stRight ({ T := c.time, R := c.r } : Stamp))) rfl rfl rfl rfl rfl ((decide (((c.parents.length : Nat) : Int) ≤ 2)) && (stRight ({ T := c.time, R := c.r } : Stamp))) ga_t _ (fun hA v188 hv189 => R_load1 (v := (.string c.msg)) Tryz.isAgg9 (gv_t hA) ((boxR_at ((H73.ext hv189).getOwn 0 rfl)).chunks 5 1 36 36 _ rfl rfl rfl) ⟨rfl, Gr.refl _ _⟩) ?_
   refine Lx_qg (i := 15) true ((decide (((c.parents.length : Nat) : Int) ≤ 2)) && (stRight ({ T := c.time, R := c.r } : Stamp))) rfl rfl rfl rfl rfl ((decide (((c.parents.length : Nat) : Int) ≤ 2)) && (stRight ({ T := c.time, R := c.r } : Stamp))) ga_t _ (fun hA v190 hv191 => R_len_string Tryz.underlying9 (gv_t hA) ⟨rfl, Gr.refl _ _⟩) ?_
   refine Lx_qg (i := 16) true ((decide (((c.parents.length : Nat) : Int) ≤ 2)) && (stRight ({ T := c.time, R := c.r } : Stamp))) rfl rfl rfl rfl rfl ((decide (((c.parents.length : Nat) : Int) ≤ 2)) && (stRight ({ T := c.time, R := c.r } : Stamp))) ga_t _ (fun hA v192 hv193 => R_cmp (a := ((c.msg.size : Nat) : Int)) (b := 200) (r := (decide (((c.msg.size : Nat) : Int) ≤ 200))) (gv_t hA) rfl rfl ⟨rfl, Gr.refl _ _⟩) ?_
   refine Lx_q (i := 17) rfl rfl _ (fun v194 hv195 => R_pick (t := ((decide (((c.parents.length : Nat) : Int) ≤ 2)) && (stRight ({ T := c.time, R := c.r } : Stamp)))) (v := (.bool (((decide (((c.parents.length : Nat) : Int) ≤ 2)) && (stRight ({ T := c.time, R := c.r } : Stamp))) && (decide (((c.msg.size : Nat) : Int) ≤ 200))))) rfl pk_and ⟨rfl, Gr.refl _ _⟩) ?_
   refine Lx_q (i := 18) rfl rfl _ (fun v196 hv197 => R_move (v := (.bool (((decide (((c.parents.length : Nat) : Int) ≤ 2)) && (stRight ({ T := c.time, R := c.r } : Stamp))) && (decide (((c.msg.size : Nat) : Int) ≤ 200))))) rfl ⟨rfl, Gr.refl _ _⟩) ?_
   refine Lx_qg (i := 19) true (((decide (((c.parents.length : Nat) : Int) ≤ 2)) && (stRight ({ T := c.time, R := c.r } : Stamp))) && (decide (((c.msg.size : Nat) : Int) ≤ 200))) rfl rfl rfl rfl rfl (((decide (((c.parents.length : Nat) : Int) ≤ 2)) && (stRight ({ T := c.time, R := c.r } : Stamp))) && (decide (((c.msg.size : Nat) : Int) ≤ 200))) ga_t _ (fun hA v198 hv199 => R_fieldAddr (off := 4) (oo := 4) Tryz.underlying47 rfl rfl Tryz.sizeOf45 rfl rfl ⟨rfl, Gr.refl _ _⟩) ?_
   refine Lx_qg (i := 20) true (((decide (((c.parents.length : Nat) : Int) ≤ 2)) && (stRight ({ T := c.time, R := c.r } : Stamp))) && (decide (((c.msg.size : Nat) : Int) ≤ 200))) rfl rfl rfl rfl rfl (((decide (((c.parents.length : Nat) : Int) ≤ 2)) && (stRight ({ T := c.time, R := c.r } : Stamp))) && (decide (((c.msg.size : Nat) : Int) ≤ 200))) ga_t _ (fun hA v200 hv201 => R_loadA (cs := [(idCells c.tree)]) Tryz.isAgg45 Tryz.sizeOf45 rfl (gv_t hA) ((boxR_at ((H73.ext hv201).getOwn 0 rfl)).chunks 4 1 4 4 _ rfl rfl rfl) ⟨rfl, Gr.refl _ _⟩) ?_
   refine Lx_qg (i := 21) true (((decide (((c.parents.length : Nat) : Int) ≤ 2)) && (stRight ({ T := c.time, R := c.r } : Stamp))) && (decide (((c.msg.size : Nat) : Int) ≤ 200))) rfl rfl rfl rfl rfl (((decide (((c.parents.length : Nat) : Int) ≤ 2)) && (stRight ({ T := c.time, R := c.r } : Stamp))) && (decide (((c.msg.size : Nat) : Int) ≤ 200))) ga_t (.bool (decide (c.tree = zeroId))) (fun hA v202 hv203 => R_callL (vs := [(aggOf (idCh c.tree))]) ref04_RightChange_c60 rfl (lst1 (gv_t hA)) (ref04_zero c.tree v202 )) ?_
   refine Lx_qg (i := 22) true (((decide (((c.parents.length : Nat) : Int) ≤ 2)) && (stRight ({ T := c.time, R := c.r } : Stamp))) && (decide (((c.msg.size : Nat) : Int) ≤ 200))) rfl rfl rfl rfl rfl (((decide (((c.parents.length : Nat) : Int) ≤ 2)) && (stRight ({ T := c.time, R := c.r } : Stamp))) && (decide (((c.msg.size : Nat) : Int) ≤ 200))) ga_t _ (fun hA v204 hv205 => R_not (gv_t hA) ⟨rfl, Gr.refl _ _⟩) ?_
   refine Lx_q (i := 23) rfl rfl _ (fun v206 hv207 => R_pick (t := (((decide (((c.parents.length : Nat) : Int) ≤ 2)) && (stRight ({ T := c.time, R := c.r } : Stamp))) && (decide (((c.msg.size : Nat) : Int) ≤ 200)))) (v := (.bool ((((decide (((c.parents.length : Nat) : Int) ≤ 2)) && (stRight ({ T := c.time, R := c.r } : Stamp))) && (decide (((c.msg.size : Nat) : Int) ≤ 200))) && (!(decide (c.tree = zeroId)))))) rfl pk_and ⟨rfl, Gr.refl _ _⟩) ?_
   refine Lx_q (i := 24) rfl rfl _ (fun v208 hv209 => R_move (v := (.bool ((((decide (((c.parents.length : Nat) : Int) ≤ 2)) && (stRight ({ T := c.time, R := c.r } : Stamp))) && (decide (((c.msg.size : Nat) : Int) ≤ 200))) && (!(decide (c.tree = zeroId)))))) rfl ⟨rfl, Gr.refl _ _⟩) ?_
   refine Lx_qg (i := 25) true ((((decide (((c.parents.length : Nat) : Int) ≤ 2)) && (stRight ({ T := c.time, R := c.r } : Stamp))) && (decide (((c.msg.size : Nat) : Int) ≤ 200))) && (!(decide (c.tree = zeroId)))) rfl rfl rfl rfl rfl ((((decide (((c.parents.length : Nat) : Int) ≤ 2)) && (stRight ({ T := c.time, R := c.r } : Stamp))) && (decide (((c.msg.size : Nat) : Int) ≤ 200))) && (!(decide (c.tree = zeroId)))) ga_t _ (fun hA v210 hv211 => R_fieldAddr (off := 3) (oo := 3) Tryz.underlying47 rfl rfl Tryz.sizeOf43 rfl rfl ⟨rfl, Gr.refl _ _⟩) ?_
   refine Lx_qg (i := 26) true ((((decide (((c.parents.length : Nat) : Int) ≤ 2)) && (stRight ({ T := c.time, R := c.r } : Stamp))) && (decide (((c.msg.size : Nat) : Int) ≤ 200))) && (!(decide (c.tree = zeroId)))) rfl rfl rfl rfl rfl ((((decide (((c.parents.length : Nat) : Int) ≤ 2)) && (stRight ({ T := c.time, R := c.r } : Stamp))) && (decide (((c.msg.size : Nat) : Int) ≤ 200))) && (!(decide (c.tree = zeroId)))) ga_t _ (fun hA v212 hv213 => R_load1 (v := (slV c.oh c.ops)) Tryz.isAgg43 (gv_t hA) ((boxR_at ((H73.ext hv213).getOwn 0 rfl)).chunks 3 1 3 3 _ rfl rfl rfl) ⟨rfl, Gr.refl _ _⟩) ?_
   refine Lx_qg (i := 27) true ((((decide (((c.parents.length : Nat) : Int) ≤ 2)) && (stRight ({ T := c.time, R := c.r } : Stamp))) && (decide (((c.msg.size : Nat) : Int) ≤ 200))) && (!(decide (c.tree = zeroId)))) rfl rfl rfl rfl rfl ((((decide (((c.parents.length : Nat) : Int) ≤ 2)) && (stRight ({ T := c.time, R := c.r } : Stamp))) && (decide (((c.msg.size : Nat) : Int) ≤ 200))) && (!(decide (c.tree = zeroId)))) ga_t _ (fun hA v214 hv215 => R_len_slice (a := c.oh.a) (n := c.ops.length) (c := c.oh.c) Tryz.underlying43 (gv_t hA) ⟨rfl, Gr.refl _ _⟩) ?_
   refine Lx_qg (i := 28) true ((((decide (((c.parents.length : Nat) : Int) ≤ 2)) && (stRight ({ T := c.time, R := c.r } : Stamp))) && (decide (((c.msg.size : Nat) : Int) ≤ 200))) && (!(decide (c.tree = zeroId)))) rfl rfl rfl rfl rfl ((((decide (((c.parents.length : Nat) : Int) ≤ 2)) && (stRight ({ T := c.time, R := c.r } : Stamp))) && (decide (((c.msg.size : Nat) : Int) ≤ 200))) && (!(decide (c.tree = zeroId)))) ga_t _ (fun hA v216 hv217 => R_cmp (a := ((c.ops.length : Nat) : Int)) (b := 64) (r := (decide (((c.ops.length : Nat) : Int) ≤ 64))) (gv_t hA) rfl rfl ⟨rfl, Gr.refl _ _⟩) ?_
   refine Lx_q (i := 29) rfl rfl _ (fun v218 hv219 => R_pick (t := ((((decide (((c.parents.length : Nat) : Int) ≤ 2)) && (stRight ({ T := c.time, R := c.r } : Stamp))) && (decide (((c.msg.size : Nat) : Int) ≤ 200))) && (!(decide (c.tree = zeroId))))) (v := (.bool (((((decide (((c.parents.length : Nat) : Int) ≤ 2)) && (stRight ({ T := c.time, R := c.r } : Stamp))) && (decide (((c.msg.size : Nat) : Int) ≤ 200))) && (!(decide (c.tree = zeroId)))) && (decide (((c.ops.length : Nat) : Int) ≤ 64))))) rfl pk_and ⟨rfl, Gr.refl _ _⟩) ?_
   refine Lx_q (i := 30) rfl rfl _ (fun v220 hv221 => R_move (v := (.bool (((((decide (((c.parents.length : Nat) : Int) ≤ 2)) && (stRight ({ T := c.time, R := c.r } : Stamp))) && (decide (((c.msg.size : Nat) : Int) ≤ 200))) && (!(decide (c.tree = zeroId)))) && (decide (((c.ops.length : Nat) : Int) ≤ 64))))) rfl ⟨rfl, Gr.refl _ _⟩) ?_
   refine Lx_qg (i := 31) true (((((decide (((c.parents.length : Nat) : Int) ≤ 2)) && (stRight ({ T := c.time, R := c.r } : Stamp))) && (decide (((c.msg.size : Nat) : Int) ≤ 200))) && (!(decide (c.tree = zeroId)))) && (decide (((c.ops.length : Nat) : Int) ≤ 64))) rfl rfl rfl rfl rfl (((((decide (((c.parents.length : Nat) : Int) ≤ 2)) && (stRight ({ T := c.time, R := c.r } : Stamp))) && (decide (((c.msg.size : Nat) : Int) ≤ 200))) && (!(decide (c.tree = zeroId)))) && (decide (((c.ops.length : Nat) : Int) ≤ 64))) ga_t _ (fun hA v222 hv223 => R_fieldAddr (off := 0) (oo := 0) Tryz.underlying47 rfl rfl Tryz.sizeOf39 rfl rfl ⟨rfl, Gr.refl _ _⟩) ?_
   refine Lx_qg (i := 32) true (((((decide (((c.parents.length : Nat) : Int) ≤ 2)) && (stRight ({ T := c.time, R := c.r } : Stamp))) && (decide (((c.msg.size : Nat) : Int) ≤ 200))) && (!(decide (c.tree = zeroId)))) && (decide (((c.ops.length : Nat) : Int) ≤ 64))) rfl rfl rfl rfl rfl (((((decide (((c.parents.length : Nat) : Int) ≤ 2)) && (stRight ({ T := c.time, R := c.r } : Stamp))) && (decide (((c.msg.size : Nat) : Int) ≤ 200))) && (!(decide (c.tree = zeroId)))) && (decide (((c.ops.length : Nat) : Int) ≤ 64))) ga_t _ (fun hA v224 hv225 => R_load1 (v := (slV c.ph c.parents)) Tryz.isAgg39 (gv_t hA) ((boxR_at ((H73.ext hv225).getOwn 0 rfl)).chunks 0 1 0 0 _ rfl rfl rfl) ⟨rfl, Gr.refl _ _⟩) ?_
   refine Lx_qg (i := 33) true (((((decide (((c.parents.length : Nat) : Int) ≤ 2)) && (stRight ({ T := c.time, R := c.r } : Stamp))) && (decide (((c.msg.size : Nat) : Int) ≤ 200))) && (!(decide (c.tree = zeroId)))) && (decide (((c.ops.length : Nat) : Int) ≤ 64))) rfl rfl rfl rfl rfl (((((decide (((c.parents.length : Nat) : Int) ≤ 2)) && (stRight ({ T := c.time, R := c.r } : Stamp))) && (decide (((c.msg.size : Nat) : Int) ≤ 200))) && (!(decide (c.tree = zeroId)))) && (decide (((c.ops.length : Nat) : Int) ≤ 64))) ga_t _ (fun hA v226 hv227 => R_len_slice (a := c.ph.a) (n := c.parents.length) (c := c.ph.c) Tryz.underlying39 (gv_t hA) ⟨rfl, Gr.refl _ _⟩) ?_
   refine Lx_qg (i := 34) true (((((decide (((c.parents.length : Nat) : Int) ≤ 2)) && (stRight ({ T := c.time, R := c.r } : Stamp))) && (decide (((c.msg.size : Nat) : Int) ≤ 200))) && (!(decide (c.tree = zeroId)))) && (decide (((c.ops.length : Nat) : Int) ≤ 64))) rfl rfl rfl rfl rfl (((((decide (((c.parents.length : Nat) : Int) ≤ 2)) && (stRight ({ T := c.time, R := c.r } : Stamp))) && (decide (((c.msg.size : Nat) : Int) ≤ 200))) && (!(decide (c.tree = zeroId)))) && (decide (((c.ops.length : Nat) : Int) ≤ 64))) ga_t _ (fun hA v228 hv229 => R_cmp (a := ((c.parents.length : Nat) : Int)) (b := 2) (r := (decide (((c.parents.length : Nat) : Int) < 2))) (gv_t hA) rfl rfl ⟨rfl, Gr.refl _ _⟩) ?_
   refine Lx_qg (i := 35) true (((((decide (((c.parents.length : Nat) : Int) ≤ 2)) && (stRight ({ T := c.time, R := c.r } : Stamp))) && (decide (((c.msg.size : Nat) : Int) ≤ 200))) && (!(decide (c.tree = zeroId)))) && (decide (((c.ops.length : Nat) : Int) ≤ 64))) rfl rfl rfl rfl rfl (((((decide (((c.parents.length : Nat) : Int) ≤ 2)) && (stRight ({ T := c.time, R := c.r } : Stamp))) && (decide (((c.msg.size : Nat) : Int) ≤ 200))) && (!(decide (c.tree = zeroId)))) && (decide (((c.ops.length : Nat) : Int) ≤ 64))) ga_t _ (fun hA v230 hv231 => R_move (v := (.bool (decide (((c.parents.length : Nat) : Int) < 2)))) (gv_t hA) ⟨rfl, Gr.refl _ _⟩) ?_
   refine Lx_qg (i := 36) (((((decide (((c.parents.length : Nat) : Int) ≤ 2)) && (stRight ({ T := c.time, R := c.r } : Stamp))) && (decide (((c.msg.size : Nat) : Int) ≤ 200))) && (!(decide (c.tree = zeroId)))) && (decide (((c.ops.length : Nat) : Int) ≤ 64))) (decide (((c.parents.length : Nat) : Int) < 2)) rfl rfl rfl rfl rfl ((((((decide (((c.parents.length : Nat) : Int) ≤ 2)) && (stRight ({ T := c.time, R := c.r } : Stamp))) && (decide (((c.msg.size : Nat) : Int) ≤ 200))) && (!(decide (c.tree = zeroId)))) && (decide (((c.ops.length : Nat) : Int) ≤ 64))) && (!(decide (((c.parents.length : Nat) : Int) < 2)))) gb_f _ (fun hA v232 hv233 => R_fieldAddr (off := 3) (oo := 3) Tryz.underlying47 rfl rfl Tryz.sizeOf43 rfl rfl ⟨rfl, Gr.refl _ _⟩) ?_
   refine Lx_qg (i := 37) (((((decide (((c.parents.length : Nat) : Int) ≤ 2)) && (stRight ({ T := c.time, R := c.r } : Stamp))) && (decide (((c.msg.size : Nat) : Int) ≤ 200))) && (!(decide (c.tree = zeroId)))) && (decide (((c.ops.length : Nat) : Int) ≤ 64))) (decide (((c.parents.length : Nat) : Int) < 2)) rfl rfl rfl rfl rfl ((((((decide (((c.parents.length : Nat) : Int) ≤ 2)) && (stRight ({ T := c.time, R := c.r } : Stamp))) && (decide (((c.msg.size : Nat) : Int) ≤ 200))) && (!(decide (c.tree = zeroId)))) && (decide (((c.ops.length : Nat) : Int) ≤ 64))) && (!(decide (((c.parents.length : Nat) : Int) < 2)))) gb_f _ (fun hA v234 hv235 => R_load1 (v := (slV c.oh c.ops)) Tryz.isAgg43 (gv_t hA) ((boxR_at ((H73.ext hv235).getOwn 0 rfl)).chunks 3 1 3 3 _ rfl rfl rfl) ⟨rfl, Gr.refl _ _⟩) ?_
   refine Lx_qg (i := 38) (((((decide (((c.parents.length : Nat) : Int) ≤ 2)) && (stRight ({ T := c.time, R := c.r } : Stamp))) && (decide (((c.msg.size : Nat) : Int) ≤ 200))) && (!(decide (c.tree = zeroId)))) && (decide (((c.ops.length : Nat) : Int) ≤ 64))) (decide (((c.parents.length : Nat) : Int) < 2)) rfl rfl rfl rfl rfl ((((((decide (((c.parents.length : Nat) : Int) ≤ 2)) && (stRight ({ T := c.time, R := c.r } : Stamp))) && (decide (((c.msg.size : Nat) : Int) ≤ 200))) && (!(decide (c.tree = zeroId)))) && (decide (((c.ops.length : Nat) : Int) ≤ 64))) && (!(decide (((c.parents.length : Nat) : Int) < 2)))) gb_f _ (fun hA v236 hv237 => R_len_slice (a := c.oh.a) (n := c.ops.length) (c := c.oh.c) Tryz.underlying43 (gv_t hA) ⟨rfl, Gr.refl _ _⟩) ?_
   refine Lx_qg (i := 39) (((((decide (((c.parents.length : Nat) : Int) ≤ 2)) && (stRight ({ T := c.time, R := c.r } : Stamp))) && (decide (((c.msg.size : Nat) : Int) ≤ 200))) && (!(decide (c.tree = zeroId)))) && (decide (((c.ops.length : Nat) : Int) ≤ 64))) (decide (((c.parents.length : Nat) : Int) < 2)) rfl rfl rfl rfl rfl ((((((decide (((c.parents.length : Nat) : Int) ≤ 2)) && (stRight ({ T := c.time, R := c.r } : Stamp))) && (decide (((c.msg.size : Nat) : Int) ≤ 200))) && (!(decide (c.tree = zeroId)))) && (decide (((c.ops.length : Nat) : Int) ≤ 64))) && (!(decide (((c.parents.length : Nat) : Int) < 2)))) gb_f _ (fun hA v238 hv239 => R_cmp (a := ((c.ops.length : Nat) : Int)) (b := 0) (r := (decide (((c.ops.length : Nat) : Int) = 0))) (gv_t hA) rfl rfl ⟨rfl, Gr.refl _ _⟩) ?_
   refine Lx_qg (i := 40) true (((((decide (((c.parents.length : Nat) : Int) ≤ 2)) && (stRight ({ T := c.time, R := c.r } : Stamp))) && (decide (((c.msg.size : Nat) : Int) ≤ 200))) && (!(decide (c.tree = zeroId)))) && (decide (((c.ops.length : Nat) : Int) ≤ 64))) rfl rfl rfl rfl rfl (((((decide (((c.parents.length : Nat) : Int) ≤ 2)) && (stRight ({ T := c.time, R := c.r } : Stamp))) && (decide (((c.msg.size : Nat) : Int) ≤ 200))) && (!(decide (c.tree = zeroId)))) && (decide (((c.ops.length : Nat) : Int) ≤ 64))) ga_t _ (fun hA v240 hv241 => R_pick (t := (decide (((c.parents.length : Nat) : Int) < 2))) (v := (.bool ((decide (((c.parents.length : Nat) : Int) < 2)) || (decide (((c.ops.length : Nat) : Int) = 0))))) (gv_t hA) (pk_orA hA) ⟨rfl, Gr.refl _ _⟩) ?_
   refine Lx_q (i := 41) rfl rfl _ (fun v242 hv243 => R_pick (t := (((((decide (((c.parents.length : Nat) : Int) ≤ 2)) && (stRight ({ T := c.time, R := c.r } : Stamp))) && (decide (((c.msg.size : Nat) : Int) ≤ 200))) && (!(decide (c.tree = zeroId)))) && (decide (((c.ops.length : Nat) : Int) ≤ 64)))) (v := (.bool ((((((decide (((c.parents.length : Nat) : Int) ≤ 2)) && (stRight ({ T := c.time, R := c.r } : Stamp))) && (decide (((c.msg.size : Nat) : Int) ≤ 200))) && (!(decide (c.tree = zeroId)))) && (decide (((c.ops.length : Nat) : Int) ≤ 64))) && ((decide (((c.parents.length : Nat) : Int) < 2)) || (decide (((c.ops.length : Nat) : Int) = 0)))))) rfl pk_and ⟨rfl, Gr.refl _ _⟩) ?_
   refine Lx_q (i := 42) rfl rfl _ (fun v244 hv245 => R_assign (v := (.bool ((((((decide (((c.parents.length : Nat) : Int) ≤ 2)) && (stRight ({ T := c.time, R := c.r } : Stamp))) && (decide (((c.msg.size : Nat) : Int) ≤ 200))) && (!(decide (c.tree = zeroId)))) && (decide (((c.ops.length : Nat) : Int) ≤ 64))) && ((decide (((c.parents.length : Nat) : Int) < 2)) || (decide (((c.ops.length : Nat) : Int) = 0)))))) rfl ⟨rfl, Gr.refl _ _⟩) ?_
   refine Lx_nil (fun w246 hw247 => ?_)
   have H248 := H73.ext hw247
   refine Then_n (W_ret ?_)
   refine ret_1 (v := (.bool ((((((decide (((c.parents.length : Nat) : Int) ≤ 2)) && (stRight ({ T := c.time, R := c.r } : Stamp))) && (decide (((c.msg.size : Nat) : Int) ≤ 200))) && (!(decide (c.tree = zeroId)))) && (decide (((c.ops.length : Nat) : Int) ≤ 64))) && ((decide (((c.parents.length : Nat) : Int) < 2)) || (decide (((c.ops.length : Nat) : Int) = 0)))))) Tryz.results24 rfl ?_
   exact ⟨(chR_t (by rwa [show c.parents.length = k from by omega]) (by rwa [show c.ops.length = j from by omega])), H248.gr⟩

end Go.Proofs.YthjdhfoeckfmbaaGreat
namespace Go.Proofs.YthjdhfoeckfmbaaGreat
open Go
set_option maxRecDepth 100000
set_option linter.unusedVariables false
set_option linter.unusedSimpArgs false
set_option linter.unusedSectionVars false
variable [DD]
set_option maxHeartbeats 1000000 in
theorem ref04_open (hb : SlH) (b : List UInt8) (Fb : Nat → Prop) (kind : UInt8) (w : World) (Sb : Sl Fb encB 1 hb b w) (XFb : ∀ b, Fb b → b < w.heap.size) :
    Calls Tryz.prog 73 #[(slV hb b), (.int .u8 (kind.toNat : Int))] w (Ret fun v w' => ∃ X : RdS, v = rdV X ∧ Ext w w' ∧ X.st = openSt b kind ∧ Sl Fb encB 1 X.bh X.b w') := by
 refine calls_W Tryz.func73 rfl Tryz.ntmps73 rfl ?_
 have H0 := Ctx.start w nob
 have H1 := H0.addSl _ Sb (fun b hb => ⟨XFb b hb, fun _ ho => (nomatch ho)⟩)
 have LSb := Sb.len
 refine W_seq (W_reg ?_)
 refine O_v rfl (C_alloc H1 [[(.slice none 0 0)], [(.bool false)]] Tryz.zeroValue110 ?_)
 intro b3 w4 hb5 hx6 H7
 refine O_nil (Then_n (W_seq (W_seq ?_)))
 refine W_rg [(0, .q 0), (1, .q 0), (2, .q 0), (3, .q 0), (4, .q 0), (5, .q 0), (6, .q 0), (7, .q 0), (8, .q 0), (9, .q 0)] (by kernel_rfl) ?_
 refine Lx_q (i := 0) rfl rfl _ (fun v8 hv9 => R_move (v := (slV hb b)) rfl ⟨rfl, Gr.refl _ _⟩) ?_
 refine Lx_q (i := 1) rfl rfl _ (fun v10 hv11 => R_len_slice (a := hb.a) (n := b.length) (c := hb.c) Tryz.underlying22 rfl ⟨rfl, Gr.refl _ _⟩) ?_
 refine Lx_q (i := 2) rfl rfl _ (fun v12 hv13 => R_cmp (a := ((b.length : Nat) : Int)) (b := 0) (r := (decide (((b.length : Nat) : Int) = 0))) rfl rfl rfl ⟨rfl, Gr.refl _ _⟩) ?_
 refine Lx_q (i := 3) rfl rfl _ (fun v14 hv15 => R_move (v := (.bool (decide (((b.length : Nat) : Int) = 0)))) rfl ⟨rfl, Gr.refl _ _⟩) ?_
 refine Lx_qg (i := 4) true (decide (((b.length : Nat) : Int) = 0)) rfl rfl rfl rfl rfl (!(decide (((b.length : Nat) : Int) = 0))) ga_f _ (fun hA v16 hv17 => R_move (v := (slV hb b)) rfl ⟨rfl, Gr.refl _ _⟩) ?_
 refine Lx_qg (i := 5) true (decide (((b.length : Nat) : Int) = 0)) rfl rfl rfl rfl rfl (!(decide (((b.length : Nat) : Int) = 0))) ga_f _ (fun hA v18 hv19 => by
      have hP : ¬ (((b.length : Nat) : Int) = 0) := (of_decide_eq_false (notT hA))
      exact R_index_pure (H7.sl 0 rfl) (n := b.length) rfl (j := 0) (oo := (hb.o + 0 * 1)) Tryz.underlying22 Tryz.sizeOf5 (gv_t hA) rfl (by omega) (by omega) rfl ⟨rfl, Gr.refl _ _⟩) ?_
 refine Lx_qg (i := 6) true (decide (((b.length : Nat) : Int) = 0)) rfl rfl rfl rfl rfl (!(decide (((b.length : Nat) : Int) = 0))) ga_f _ (fun hA v20 hv21 => by
      have hP : ¬ (((b.length : Nat) : Int) = 0) := (of_decide_eq_false (notT hA))
      exact R_load1 (v := (.int .u8 ((nth b 0).toNat : Int))) Tryz.isAgg5 (gv_t hA) ((Sl.elem ((H7.ext hv21).sl 0 rfl) (i := 0) (by omega) rfl).chunks 0 1 0 (hb.o + 0 * 1) _ rfl rfl rfl) ⟨rfl, Gr.refl _ _⟩) ?_
 refine Lx_qg (i := 7) true (decide (((b.length : Nat) : Int) = 0)) rfl rfl rfl rfl rfl (!(decide (((b.length : Nat) : Int) = 0))) ga_f _ (fun hA v22 hv23 => R_move (v := (.int .u8 (kind.toNat : Int))) rfl ⟨rfl, Gr.refl _ _⟩) ?_
 refine Lx_qg (i := 8) true (decide (((b.length : Nat) : Int) = 0)) rfl rfl rfl rfl rfl (!(decide (((b.length : Nat) : Int) = 0))) ga_f _ (fun hA v24 hv25 => R_cmp (a := ((nth b 0).toNat : Int)) (b := (kind.toNat : Int)) (r := (!(decide (((nth b 0).toNat : Int) = (kind.toNat : Int))))) (gv_t hA) (gv_t hA) rfl ⟨rfl, Gr.refl _ _⟩) ?_
 refine Lx_q (i := 9) rfl rfl _ (fun v26 hv27 => R_pick (t := (decide (((b.length : Nat) : Int) = 0))) (v := (.bool ((decide (((b.length : Nat) : Int) = 0)) || (!(decide (((nth b 0).toNat : Int) = (kind.toNat : Int))))))) rfl pk_or ⟨rfl, Gr.refl _ _⟩) ?_
 refine Lx_nil (fun w28 hw29 => ?_)
 have H30 := H7.ext hw29
 refine Then_n ?_
 refine W_cond (t := ((decide (((b.length : Nat) : Int) = 0)) || (!(decide (((nth b 0).toNat : Int) = (kind.toNat : Int)))))) rfl (fun hc31 => ?_) (fun hc31 => ?_)
 ·have hc31 : ((((b.length : Nat) : Int) = 0) ∨ ¬ (((nth b 0).toNat : Int) = (kind.toNat : Int))) := (Or.imp (fun h => (of_decide_eq_true h)) (fun h => (of_decide_eq_false (notT h))) (orT hc31))
  refine W_seq (W_reg ?_)
  refine O_v rfl (R_buildL (vs := [(1, (.bool true))]) (v := aggOf [[(.slice none 0 0)], [(.bool true)]]) rfl (fun _ => by kernel_rfl) ?_)
  refine O_u (C_storeA H30 0 rfl 0 (sub := [[(.slice none 0 0)], [(.bool true)]]) [[(.slice none 0 0)], [(.bool true)]] Tryz.sizeOf110 rfl rfl rfl rfl ⟨[[(.slice none 0 0)], [(.bool false)]], [], rfl, rfl, rfl⟩ rfl ?_)
  intro w32 hg33 H34
  refine O_nil (Then_n (W_ret (Then_r ?_)))
  refine ret_c Tryz.results73 (inMem (cs := [[(.slice none 0 0)], [(.bool true)]]) rfl Tryz.isAgg110 Tryz.sizeOf110 rfl (boxR_at (H34.getOwn 0 rfl))) ?_
  exact ⟨({ b := [], bh := nilH, bad := true } : RdS), rfl, H34.gr, (open_f (by assumption)).symm, (Sl.nil _ _ _ _)⟩
 ·have hc31 : (¬ (((b.length : Nat) : Int) = 0) ∧ (((nth b 0).toNat : Int) = (kind.toNat : Int))) := (And.imp (fun h => (of_decide_eq_false h)) (fun h => (of_decide_eq_true (notF h))) (orF hc31))
  refine W_skip (Then_n (W_seq (W_reg ?_)))
  refine O_v rfl (R_move (v := (slV hb b)) rfl ?_)
  refine O_v rfl (R_sliceS (h := hb) (l := b) (a := 1) (b := b.length) (m := hb.c) (b.drop 1) Tryz.underlying22 Tryz.sizeOf5 rfl rfl rfl rfl (by decide) (by omega) (by first | omega | exact Nat.le_refl _) (by have := Sl.cap (H30.sl 0 rfl); omega) (by first | omega | exact Nat.le_refl _ | (have := Sl.cap (H30.sl 0 rfl); omega)) (by rw [List.take_length])  ?_)
  refine O_v rfl (R_buildL (vs := [(0, (slV (hSub hb 1 1 hb.c) (b.drop 1)))]) (v := aggOf [[(slV (hSub hb 1 1 hb.c) (b.drop 1))], [(.bool false)]]) rfl (fun _ => by kernel_rfl) ?_)
  refine O_u (C_storeA H30 0 rfl 0 (sub := [[(slV (hSub hb 1 1 hb.c) (b.drop 1))], [(.bool false)]]) [[(slV (hSub hb 1 1 hb.c) (b.drop 1))], [(.bool false)]] Tryz.sizeOf110 rfl rfl rfl rfl ⟨[[(.slice none 0 0)], [(.bool false)]], [], rfl, rfl, rfl⟩ rfl ?_)
  intro w35 hg36 H37
  refine O_nil (Then_n (W_ret ?_))
  refine ret_c Tryz.results73 (inMem (cs := [[(slV (hSub hb 1 1 hb.c) (b.drop 1))], [(.bool false)]]) rfl Tryz.isAgg110 Tryz.sizeOf110 rfl (boxR_at (H37.getOwn 0 rfl))) ?_
  exact ⟨({ b := b.drop 1, bh := hSub hb 1 1 hb.c, bad := false } : RdS), rfl, H37.gr, (open_t (by assumption)).symm, (Sl.sub (H37.sl 0 rfl) 1 b.length hb.c (by omega) (by first | omega | exact Nat.le_refl _) (by have := Sl.cap (H30.sl 0 rfl); omega) (by first | omega | exact Nat.le_refl _ | (have := Sl.cap (H30.sl 0 rfl); omega)) (by rw [List.take_length]))⟩

end Go.Proofs.YthjdhfoeckfmbaaGreat
namespace Go.Proofs.YthjdhfoeckfmbaaGreat
open Go
set_option maxRecDepth 100000
set_option linter.unusedVariables false
set_option linter.unusedSimpArgs false
set_option linter.unusedSectionVars false
variable [DD]
theorem ref04_Change_c24 : callable Tryz.prog 24 = true := by kernel_rfl
theorem ref04_Change_c72 : callable Tryz.prog 72 = true := by kernel_rfl
theorem ref04_Change_c73 : callable Tryz.prog 73 = true := by kernel_rfl
theorem ref04_Change_c75 : callable Tryz.prog 75 = true := by kernel_rfl
theorem ref04_Change_c76 : callable Tryz.prog 76 = true := by kernel_rfl
theorem ref04_Change_c77 : callable Tryz.prog 77 = true := by kernel_rfl
theorem ref04_Change_c78 : callable Tryz.prog 78 = true := by kernel_rfl
set_option maxHeartbeats 4000000 in
theorem ref04_Change (hb : SlH) (b : List UInt8) (w : World) (Sb : Sl (Old w) encB 1 hb b w) :
    Calls Tryz.prog 33 #[(slV hb b)] w (Ret fun v w' => ∃ (X : ChangeS) (SX : Nat → Prop), v = .tuple #[changeV X, (.bool (ChangeB b))] ∧ Ext w w' ∧ (∀ b, SX b → w.heap.size ≤ b ∧ b < w'.heap.size) ∧ Sl SX idCh 32 X.ph X.parents w' ∧ Sl SX opCh 41 X.oh X.ops w' ∧ (∀ x ∈ X.ops, Sl SX stampCh 2 x.oh x.over w') ∧ (X.core = (changeOf b).1)) := by
 refine calls_W Tryz.func33 rfl Tryz.ntmps33 rfl ?_
 have H0 := Ctx.start w nob
 have H1 := H0.addSl _ Sb (fun b hb => ⟨hb, fun _ ho => (nomatch ho)⟩)
 have LSb := Sb.len
 refine W_seq (W_reg ?_)
 refine O_v rfl (C_alloc H1 [[(.slice none 0 0)], [(.int .i64 0)], [(.int .i64 0)], [(.slice none 0 0)], (idCells zeroId), [(.string ByteArray.empty)]] Tryz.zeroValue47 ?_)
 intro b2 w3 hb4 hx5 H6
 refine O_v rfl (R_assign (v := (.bool false)) rfl ?_)
 refine O_nil (Then_n (W_seq (W_reg ?_)))
 refine O_v rfl (R_move (v := (slV hb b)) rfl ?_)
 refine O_v rfl (R_callL (vs := [(slV hb b), (.int .u8 3)]) ref04_Change_c73 rfl rfl ((ref04_open hb b (Old w) 3 w3 (H6.sl 0 rfl) (H6.imm _ (List.mem_of_getElem? (i := 0) rfl)).2).ret ?_))
 rintro _ w8 ⟨x7, rfl, hx9, hr10, hs11⟩
 have H12 := H6.ext hx9
 have H13 := H12.immOf 0 rfl (slI (Old w) encB 1 x7.bh x7.b) (fun _ h => h) (fun _ => hs11)
 refine O_v rfl (R_callL (vs := [(aggOf (rdCh x7)), (.int .i64 2)]) ref04_Change_c72 rfl rfl ((ref02_GetNum x7 (Old w) (openSt b 3) 2 w8 (H13.sl 0 rfl) (H13.imm _ (List.mem_of_getElem? (i := 0) rfl)).2 hr10).ret ?_))
 rintro _ w15 ⟨x14, rfl, hx16, hr17, hs18⟩
 have H19 := H13.ext hx16
 have H20 := H19.immOf 0 rfl (slI (Old w) encB 1 x14.bh x14.b) (fun _ h => h) (fun _ => hs18)
 refine O_v rfl (R_move (v := (.tuple #[(.int .i64 ((((rdNum (openSt b 3) 2).1) : Nat) : Int)), (aggOf (rdCh x14))])) rfl ?_)
 refine O_v rfl (R_extract (v := (.int .i64 ((((rdNum (openSt b 3) 2).1) : Nat) : Int))) rfl rfl ?_)
 refine O_v rfl (R_extract (v := (aggOf (rdCh x14))) rfl rfl ?_)
 refine O_v rfl (C_alloc H20 [[(.slice none 0 0)], [(.bool false)]] Tryz.zeroValue110 ?_)
 intro b21 w22 hb23 hx24 H25
 refine O_v rfl (R_assign (v := (.int .i64 ((((rdNum (openSt b 3) 2).1) : Nat) : Int))) rfl ?_)
 refine O_u (C_storeA H25 0 rfl 0 (sub := [[(slV x14.bh x14.b)], [(.bool x14.bad)]]) [[(slV x14.bh x14.b)], [(.bool x14.bad)]] Tryz.sizeOf110 rfl rfl rfl rfl ⟨[[(.slice none 0 0)], [(.bool false)]], [], rfl, rfl, rfl⟩ rfl ?_)
 intro w26 hg27 H28
 refine O_nil (Then_n (W_seq (W_reg ?_)))
 refine O_v rfl (R_buildL (vs := []) (v := aggOf [[(.slice none 0 0)], [(.int .i64 0)], [(.int .i64 0)], [(.slice none 0 0)], (idCells zeroId), [(.string ByteArray.empty)]]) rfl (fun _ => by kernel_rfl) ?_)
 refine O_v rfl (C_alloc H28 [[(.slice none 0 0)], [(.int .i64 0)], [(.int .i64 0)], [(.slice none 0 0)], (idCells zeroId), [(.string ByteArray.empty)]] Tryz.zeroValue47 ?_)
 intro b29 w30 hb31 hx32 H33
 refine O_u (C_storeA H33 0 rfl 0 (sub := [[(.slice none 0 0)], [(.int .i64 0)], [(.int .i64 0)], [(.slice none 0 0)], (idCells zeroId), [(.string ByteArray.empty)]]) [[(.slice none 0 0)], [(.int .i64 0)], [(.int .i64 0)], [(.slice none 0 0)], (idCells zeroId), [(.string ByteArray.empty)]] Tryz.sizeOf47 rfl rfl rfl rfl ⟨[[(.slice none 0 0)], [(.int .i64 0)], [(.int .i64 0)], [(.slice none 0 0)], (idCells zeroId), [(.string ByteArray.empty)]], [], rfl, rfl, rfl⟩ rfl ?_)
 intro w34 hg35 H36
 refine O_nil (Then_n (W_seq (W_seq (W_reg ?_))))
 refine O_v rfl (R_assign (v := (.int .i64 0)) rfl ?_)
 refine O_nil (Then_n (W_block ?_))
 have H37 := H36.addNil 45 32 idCh
 refine W_loop (fun m38 e39 w40 => ∃ (k : Nat), ∃ (pacc : List ID), ∃ (rr : RdS), ∃ (rq : List UInt8 × Bool), ∃ (hp : SlH), m38 = (rdNum (openSt b 3) 2).1 - k ∧ (k ≤ (rdNum (openSt b 3) 2).1) ∧ ((rdNum (openSt b 3) 2).1 ≤ 2) ∧ (pacc.length ≤ k) ∧ (rr.st = rq) ∧ (rdIds ((rdNum (openSt b 3) 2).1 - k) pacc rq = rdIds (rdNum (openSt b 3) 2).1 [] (rdNum (openSt b 3) 2).2) ∧ ∃ eb41, e39 = envL [(2, (.pointer (some ⟨b2, 0, none⟩))), (3, (.bool false)), (4, (.int .i64 ((((rdNum (openSt b 3) 2).1) : Nat) : Int))), (5, (.pointer (some ⟨b21, 0, none⟩))), (6, (.pointer (some ⟨b29, 0, none⟩))), (7, (.int .i64 ((k : Nat) : Int)))] eb41 ∧ Ctx w nob w40 [rowR 45 32 idCh hp pacc, boxR b29 47 [[(slV hp pacc)], [(.int .i64 0)], [(.int .i64 0)], [(.slice none 0 0)], (idCells zeroId), [(.string ByteArray.empty)]], boxR b21 110 [[(slV rr.bh rr.b)], [(.bool rr.bad)]], boxR b2 47 [[(.slice none 0 0)], [(.int .i64 0)], [(.int .i64 0)], [(.slice none 0 0)], (idCells zeroId), [(.string ByteArray.empty)]]] [slI (Old w) encB 1 rr.bh rr.b, slI (Old w) encB 1 x7.bh x7.b, slI (Old w) encB 1 hb b]) _ ⟨0, [], x14, ((rdNum (openSt b 3) 2).2), nilH, rfl, (by omega), (rdNum_le _ (by decide)), (by simp), hr17, rfl, _, envL_self ⟨rfl, rfl, rfl, rfl, rfl, rfl, trivial⟩, H37⟩ ?_
 rintro m38 _ w40 ⟨k, pacc, rr, rq, hp, rfl, hk, hm, hal, hrr, hgo, eb41, rfl, H42⟩
 refine W_seq (W_seq (W_reg ?_))
 refine O_v rfl (R_move (v := (.int .i64 ((k : Nat) : Int))) rfl ?_)
 refine O_v rfl (R_move (v := (.int .i64 ((((rdNum (openSt b 3) 2).1) : Nat) : Int))) rfl ?_)
 refine O_v rfl (R_cmp (a := ((k : Nat) : Int)) (b := ((((rdNum (openSt b 3) 2).1) : Nat) : Int)) (r := (decide (((k : Nat) : Int) < ((((rdNum (openSt b 3) 2).1) : Nat) : Int)))) rfl rfl rfl ?_)
 refine O_nil (Then_n ?_)
 refine W_cond (t := (decide (((k : Nat) : Int) < ((((rdNum (openSt b 3) 2).1) : Nat) : Int)))) rfl (fun hc43 => ?_) (fun hc43 => ?_)
 ·have hc43 : (((k : Nat) : Int) < ((((rdNum (openSt b 3) 2).1) : Nat) : Int)) := (of_decide_eq_true hc43)
  refine W_skip (Then_n (W_seq (W_block (W_seq (W_reg ?_)))))
  refine O_v rfl (R_loadA (cs := [[(slV rr.bh rr.b)], [(.bool rr.bad)]]) Tryz.isAgg110 Tryz.sizeOf110 rfl rfl ((boxR_at (H42.getOwn 2 rfl)).chunks 0 2 0 0 _ rfl rfl rfl) ?_)
  refine O_v rfl (R_callL (vs := [(aggOf (rdCh rr))]) ref04_Change_c76 rfl rfl ((ref02_GetId rr (Old w) rq w40 (H42.sl 0 rfl) (H42.imm _ (List.mem_of_getElem? (i := 0) rfl)).2 hrr).ret ?_))
  rintro _ w45 ⟨x44, rfl, hx46, hr47, hs48⟩
  have H49 := H42.ext hx46
  have H50 := H49.immOf 0 rfl (slI (Old w) encB 1 x44.bh x44.b) (fun _ h => h) (fun _ => hs48)
  refine O_v rfl (R_move (v := (.tuple #[(aggOf (idCh ((rdId rq).1))), (aggOf (rdCh x44))])) rfl ?_)
  refine O_v rfl (R_extract (v := (aggOf (idCh ((rdId rq).1)))) rfl rfl ?_)
  refine O_v rfl (R_extract (v := (aggOf (rdCh x44))) rfl rfl ?_)
  refine O_v rfl (C_alloc H50 [(idCells zeroId)] Tryz.zeroValue44 ?_)
  intro b51 w52 hb53 hx54 H55
  refine O_v rfl (C_alloc H55 [[(.slice none 0 0)], [(.bool false)]] Tryz.zeroValue110 ?_)
  intro b56 w57 hb58 hx59 H60
  refine O_u (C_storeA H60 1 rfl 0 (sub := [(idCells ((rdId rq).1))]) [(idCells ((rdId rq).1))] Tryz.sizeOf44 rfl rfl rfl rfl ⟨[(idCells zeroId)], [], rfl, rfl, rfl⟩ rfl ?_)
  intro w61 hg62 H63
  refine O_u (C_storeA H63 0 rfl 0 (sub := [[(slV x44.bh x44.b)], [(.bool x44.bad)]]) [[(slV x44.bh x44.b)], [(.bool x44.bad)]] Tryz.sizeOf110 rfl rfl rfl rfl ⟨[[(.slice none 0 0)], [(.bool false)]], [], rfl, rfl, rfl⟩ rfl ?_)
  intro w64 hg65 H66
  refine O_nil (Then_n (W_seq (W_reg ?_)))
  refine O_v rfl (R_fieldAddr (off := 0) (oo := 0) Tryz.underlying47 rfl rfl Tryz.sizeOf39 rfl rfl ?_)
  refine O_v rfl (R_load1 (v := (slV hp pacc)) Tryz.isAgg39 rfl ((boxR_at (H66.getOwn 3 rfl)).chunks 0 1 0 0 _ rfl rfl rfl) ?_)
  refine O_v rfl (R_loadA (cs := [(idCells ((rdId rq).1))]) Tryz.isAgg44 Tryz.sizeOf44 rfl rfl ((boxR_at (H66.getOwn 1 rfl)).chunks 0 1 0 0 _ rfl rfl rfl) ?_)
  refine O_v rfl (C_buildSliceL H66 (enc := idCh) (val := idV) ([(rdId rq).1] : List ID) Tryz.underlying39 Tryz.sizeOf45 Tryz.zeroValue45 rfl (by decide) (fun _ => rfl) (fun _ => rfl) rfl rfl (by decide) ?_)
  intro b67 w68 hb69 hx70 H71
  refine O_v rfl (C_append H71 3 rfl (bytes := 32) (l := pacc) (ys := ([(rdId rq).1] : List ID)) Tryz.underlying39 rfl rfl rfl rfl rfl (by decide) rfl rfl (OwnS.sl (H71.getOwn 0 rfl) (fun _ => rfl)) (fun _ => rfl) (fun _ => rfl) (by simp only [List.length_append, List.length_cons, List.length_nil]; omega) (by decide) ?_)
  intro h72 w73 hg74 H75
  refine O_v rfl (R_fieldAddr (off := 0) (oo := 0) Tryz.underlying47 rfl rfl Tryz.sizeOf39 rfl rfl ?_)
  refine O_u (C_store1 H75 4 rfl 0 (v := (slV h72 (pacc ++ ([(rdId rq).1] : List ID)))) [[(slV h72 (pacc ++ ([(rdId rq).1] : List ID)))], [(.int .i64 0)], [(.int .i64 0)], [(.slice none 0 0)], (idCells zeroId), [(.string ByteArray.empty)]] Tryz.sizeOf39 rfl rfl rfl rfl rfl rfl rfl ?_)
  intro w76 hg77 H78
  refine O_nil (Then_n (W_reg ?_))
  refine O_v rfl (R_loadA (cs := [[(slV x44.bh x44.b)], [(.bool x44.bad)]]) Tryz.isAgg110 Tryz.sizeOf110 rfl rfl ((boxR_at (H78.getOwn 1 rfl)).chunks 0 2 0 0 _ rfl rfl rfl) ?_)
  refine O_u (C_storeA H78 5 rfl 0 (sub := [[(slV x44.bh x44.b)], [(.bool x44.bad)]]) [[(slV x44.bh x44.b)], [(.bool x44.bad)]] Tryz.sizeOf110 rfl rfl rfl rfl ⟨[[(slV rr.bh rr.b)], [(.bool rr.bad)]], [], rfl, rfl, rfl⟩ rfl ?_)
  intro w79 hg80 H81
  refine O_nil (Blk_n (Then_n (W_reg ?_)))
  refine O_v rfl (R_move (v := (.int .i64 ((k : Nat) : Int))) rfl ?_)
  refine O_v rfl (R_arith (a := ((k : Nat) : Int)) (b := 1) (r0 := ((k : Nat) : Int) + 1) (r := ((k + 1 : Nat) : Int)) rfl rfl rfl (wrapN _ (by omega)) ?_)
  refine O_v rfl (R_assign (v := (.int .i64 ((k + 1 : Nat) : Int))) rfl ?_)
  refine O_nil (Then_n ?_)
  have H82 := H81.sub (B' := [rowR 45 32 idCh h72 (pacc ++ ([(rdId rq).1] : List ID)), boxR b29 47 [[(slV h72 (pacc ++ ([(rdId rq).1] : List ID)))], [(.int .i64 0)], [(.int .i64 0)], [(.slice none 0 0)], (idCells zeroId), [(.string ByteArray.empty)]], boxR b21 110 [[(slV x44.bh x44.b)], [(.bool x44.bad)]], boxR b2 47 [[(.slice none 0 0)], [(.int .i64 0)], [(.int .i64 0)], [(.slice none 0 0)], (idCells zeroId), [(.string ByteArray.empty)]]]) (I' := [slI (Old w) encB 1 x44.bh x44.b, slI (Old w) encB 1 x7.bh x7.b, slI (Old w) encB 1 hb b]) (List.Sublist.cons _ (List.Sublist.cons _ (List.Sublist.cons _ (List.Sublist.cons_cons _ (List.Sublist.cons_cons _ (List.Sublist.cons_cons _ (List.Sublist.cons_cons _ List.Sublist.slnil))))))) (List.forall_mem_cons.2 ⟨List.mem_of_getElem? (i := 0) rfl, List.forall_mem_cons.2 ⟨List.mem_of_getElem? (i := 2) rfl, List.forall_mem_cons.2 ⟨List.mem_of_getElem? (i := 3) rfl, fun _ h => (nomatch h)⟩⟩⟩)
  refine ⟨_, ?_, (k + 1), (pacc ++ ([(rdId rq).1] : List ID)), x44, ((rdId rq).2), h72, rfl, (by omega), hm, (by simp only [List.length_append, List.length_cons, List.length_nil]; omega), hr47, (ids_next hgo (by omega)), _, envL_self ⟨rfl, rfl, rfl, rfl, rfl, rfl, trivial⟩, H82⟩
  omega
 ·have hc43 : ¬ (((k : Nat) : Int) < ((((rdNum (openSt b 3) 2).1) : Nat) : Int)) := (of_decide_eq_false hc43)
  refine W_exit (Then_x (Then_x (Blk_x (Then_n (W_seq (W_reg ?_))))))
  refine O_v rfl (R_loadA (cs := [[(slV rr.bh rr.b)], [(.bool rr.bad)]]) Tryz.isAgg110 Tryz.sizeOf110 rfl rfl ((boxR_at (H42.getOwn 2 rfl)).chunks 0 2 0 0 _ rfl rfl rfl) ?_)
  refine O_v rfl (R_callL (vs := [(aggOf (rdCh rr)), (.int .i64 1099511627776)]) ref04_Change_c72 rfl rfl ((ref02_GetNum rr (Old w) rq 1099511627776 w40 (H42.sl 0 rfl) (H42.imm _ (List.mem_of_getElem? (i := 0) rfl)).2 hrr).ret ?_))
  rintro _ w84 ⟨x83, rfl, hx85, hr86, hs87⟩
  have H88 := H42.ext hx85
  have H89 := H88.immOf 0 rfl (slI (Old w) encB 1 x83.bh x83.b) (fun _ h => h) (fun _ => hs87)
  refine O_v rfl (R_move (v := (.tuple #[(.int .i64 ((((rdNum rq 1099511627776).1) : Nat) : Int)), (aggOf (rdCh x83))])) rfl ?_)
  refine O_v rfl (R_extract (v := (.int .i64 ((((rdNum rq 1099511627776).1) : Nat) : Int))) rfl rfl ?_)
  refine O_v rfl (R_extract (v := (aggOf (rdCh x83))) rfl rfl ?_)
  refine O_v rfl (C_alloc H89 [[(.slice none 0 0)], [(.bool false)]] Tryz.zeroValue110 ?_)
  intro b90 w91 hb92 hx93 H94
  refine O_v rfl (R_assign (v := (.int .i64 ((((rdNum rq 1099511627776).1) : Nat) : Int))) rfl ?_)
  refine O_u (C_storeA H94 0 rfl 0 (sub := [[(slV x83.bh x83.b)], [(.bool x83.bad)]]) [[(slV x83.bh x83.b)], [(.bool x83.bad)]] Tryz.sizeOf110 rfl rfl rfl rfl ⟨[[(.slice none 0 0)], [(.bool false)]], [], rfl, rfl, rfl⟩ rfl ?_)
  intro w95 hg96 H97
  refine O_nil (Then_n (W_seq (W_reg ?_)))
  refine O_v rfl (R_loadA (cs := [[(slV x83.bh x83.b)], [(.bool x83.bad)]]) Tryz.isAgg110 Tryz.sizeOf110 rfl rfl ((boxR_at (H97.getOwn 0 rfl)).chunks 0 2 0 0 _ rfl rfl rfl) ?_)
  refine O_v rfl (R_callL (vs := [(aggOf (rdCh x83)), (.int .i64 65536)]) ref04_Change_c72 rfl rfl ((ref02_GetNum x83 (Old w) ((rdNum rq 1099511627776).2) 65536 w95 (H97.sl 0 rfl) (H97.imm _ (List.mem_of_getElem? (i := 0) rfl)).2 hr86).ret ?_))
  rintro _ w99 ⟨x98, rfl, hx100, hr101, hs102⟩
  have H103 := H97.ext hx100
  have H104 := H103.immOf 0 rfl (slI (Old w) encB 1 x98.bh x98.b) (fun _ h => h) (fun _ => hs102)
  refine O_v rfl (R_move (v := (.tuple #[(.int .i64 ((((rdNum ((rdNum rq 1099511627776).2) 65536).1) : Nat) : Int)), (aggOf (rdCh x98))])) rfl ?_)
  refine O_v rfl (R_extract (v := (.int .i64 ((((rdNum ((rdNum rq 1099511627776).2) 65536).1) : Nat) : Int))) rfl rfl ?_)
  refine O_v rfl (R_extract (v := (aggOf (rdCh x98))) rfl rfl ?_)
  refine O_v rfl (C_alloc H104 [[(.slice none 0 0)], [(.bool false)]] Tryz.zeroValue110 ?_)
  intro b105 w106 hb107 hx108 H109
  refine O_v rfl (R_assign (v := (.int .i64 ((((rdNum ((rdNum rq 1099511627776).2) 65536).1) : Nat) : Int))) rfl ?_)
  refine O_u (C_storeA H109 0 rfl 0 (sub := [[(slV x98.bh x98.b)], [(.bool x98.bad)]]) [[(slV x98.bh x98.b)], [(.bool x98.bad)]] Tryz.sizeOf110 rfl rfl rfl rfl ⟨[[(.slice none 0 0)], [(.bool false)]], [], rfl, rfl, rfl⟩ rfl ?_)
  intro w110 hg111 H112
  refine O_nil (Then_n (W_seq (W_reg ?_)))
  refine O_v rfl (R_loadA (cs := [[(slV x98.bh x98.b)], [(.bool x98.bad)]]) Tryz.isAgg110 Tryz.sizeOf110 rfl rfl ((boxR_at (H112.getOwn 0 rfl)).chunks 0 2 0 0 _ rfl rfl rfl) ?_)
  refine O_v rfl (R_callL (vs := [(aggOf (rdCh x98)), (.int .i64 64)]) ref04_Change_c72 rfl rfl ((ref02_GetNum x98 (Old w) ((rdNum ((rdNum rq 1099511627776).2) 65536).2) 64 w110 (H112.sl 0 rfl) (H112.imm _ (List.mem_of_getElem? (i := 0) rfl)).2 hr101).ret ?_))
  rintro _ w114 ⟨x113, rfl, hx115, hr116, hs117⟩
  have H118 := H112.ext hx115
  have H119 := H118.immOf 0 rfl (slI (Old w) encB 1 x113.bh x113.b) (fun _ h => h) (fun _ => hs117)
  refine O_v rfl (R_move (v := (.tuple #[(.int .i64 ((((rdNum ((rdNum ((rdNum rq 1099511627776).2) 65536).2) 64).1) : Nat) : Int)), (aggOf (rdCh x113))])) rfl ?_)
  refine O_v rfl (R_extract (v := (.int .i64 ((((rdNum ((rdNum ((rdNum rq 1099511627776).2) 65536).2) 64).1) : Nat) : Int))) rfl rfl ?_)
  refine O_v rfl (R_extract (v := (aggOf (rdCh x113))) rfl rfl ?_)
  refine O_v rfl (C_alloc H119 [[(.slice none 0 0)], [(.bool false)]] Tryz.zeroValue110 ?_)
  intro b120 w121 hb122 hx123 H124
  refine O_v rfl (R_assign (v := (.int .i64 ((((rdNum ((rdNum ((rdNum rq 1099511627776).2) 65536).2) 64).1) : Nat) : Int))) rfl ?_)
  refine O_u (C_storeA H124 0 rfl 0 (sub := [[(slV x113.bh x113.b)], [(.bool x113.bad)]]) [[(slV x113.bh x113.b)], [(.bool x113.bad)]] Tryz.sizeOf110 rfl rfl rfl rfl ⟨[[(.slice none 0 0)], [(.bool false)]], [], rfl, rfl, rfl⟩ rfl ?_)
  intro w125 hg126 H127
  refine O_nil (Then_n (W_seq (W_reg ?_)))
  refine O_v rfl (R_move (v := (.int .i64 ((((rdNum rq 1099511627776).1) : Nat) : Int))) rfl ?_)
  refine O_v rfl (R_fieldAddr (off := 1) (oo := 1) Tryz.underlying47 rfl rfl Tryz.sizeOf2 rfl rfl ?_)
  refine O_u (C_store1 H127 4 rfl 1 (v := (.int .i64 ((((rdNum rq 1099511627776).1) : Nat) : Int))) [[(slV hp pacc)], [(.int .i64 ((((rdNum rq 1099511627776).1) : Nat) : Int))], [(.int .i64 0)], [(.slice none 0 0)], (idCells zeroId), [(.string ByteArray.empty)]] Tryz.sizeOf2 rfl rfl rfl rfl rfl rfl rfl ?_)
  intro w128 hg129 H130
  refine O_nil (Then_n (W_seq (W_reg ?_)))
  refine O_v rfl (R_move (v := (.int .i64 ((((rdNum ((rdNum rq 1099511627776).2) 65536).1) : Nat) : Int))) rfl ?_)
  refine O_v rfl (R_fieldAddr (off := 2) (oo := 2) Tryz.underlying47 rfl rfl Tryz.sizeOf3 rfl rfl ?_)
  refine O_u (C_store1 H130 4 rfl 2 (v := (.int .i64 ((((rdNum ((rdNum rq 1099511627776).2) 65536).1) : Nat) : Int))) [[(slV hp pacc)], [(.int .i64 ((((rdNum rq 1099511627776).1) : Nat) : Int))], [(.int .i64 ((((rdNum ((rdNum rq 1099511627776).2) 65536).1) : Nat) : Int))], [(.slice none 0 0)], (idCells zeroId), [(.string ByteArray.empty)]] Tryz.sizeOf3 rfl rfl rfl rfl rfl rfl rfl ?_)
  intro w131 hg132 H133
  refine O_nil (Then_n (W_seq (W_seq (W_reg ?_))))
  refine O_v rfl (R_assign (v := (.int .i64 0)) rfl ?_)
  refine O_nil (Then_n (W_block ?_))
  have H134 := H133.addNil 72 41 opCh
  have H135 := H134.deepNil stampCh 2 (fun x : OpS => x.oh) (fun x : OpS => x.over)
  refine W_loop (fun m136 e137 w138 => ∃ (j : Nat), ∃ (oacc : List OpS), ∃ (S : Nat → Prop), ∃ (rr2 : RdS), ∃ (rq2 : List UInt8 × Bool), ∃ (ho : SlH), m136 = (rdNum (rdNum (rdNum rq 1099511627776).2 65536).2 64).1 - j ∧ (j ≤ (rdNum (rdNum (rdNum rq 1099511627776).2 65536).2 64).1) ∧ ((rdNum (rdNum (rdNum rq 1099511627776).2 65536).2 64).1 ≤ 64) ∧ (oacc.length ≤ j) ∧ (∀ x ∈ oacc, x.name.size ≤ 9223372036854775807) ∧ (∀ b, S b → w.heap.size ≤ b) ∧ (rr2.st = rq2) ∧ (rdOps ((rdNum (rdNum (rdNum rq 1099511627776).2 65536).2 64).1 - j) (oacc.map OpS.core) rq2 = rdOps (rdNum (rdNum (rdNum rq 1099511627776).2 65536).2 64).1 [] (rdNum (rdNum (rdNum rq 1099511627776).2 65536).2 64).2) ∧ ∃ eb139, e137 = envL [(2, (.pointer (some ⟨b2, 0, none⟩))), (3, (.bool false)), (6, (.pointer (some ⟨b29, 0, none⟩))), (14, (.int .i64 ((((rdNum ((rdNum ((rdNum rq 1099511627776).2) 65536).2) 64).1) : Nat) : Int))), (15, (.pointer (some ⟨b120, 0, none⟩))), (16, (.int .i64 ((j : Nat) : Int)))] eb139 ∧ Ctx w nob w138 [rowR 72 41 opCh ho oacc, boxR b120 110 [[(slV rr2.bh rr2.b)], [(.bool rr2.bad)]], boxR b105 110 [[(slV x98.bh x98.b)], [(.bool x98.bad)]], boxR b90 110 [[(slV x83.bh x83.b)], [(.bool x83.bad)]], rowR 45 32 idCh hp pacc, boxR b29 47 [[(slV hp pacc)], [(.int .i64 ((((rdNum rq 1099511627776).1) : Nat) : Int))], [(.int .i64 ((((rdNum ((rdNum rq 1099511627776).2) 65536).1) : Nat) : Int))], [(slV ho oacc)], (idCells zeroId), [(.string ByteArray.empty)]], boxR b21 110 [[(slV rr.bh rr.b)], [(.bool rr.bad)]], boxR b2 47 [[(.slice none 0 0)], [(.int .i64 0)], [(.int .i64 0)], [(.slice none 0 0)], (idCells zeroId), [(.string ByteArray.empty)]]] [deepI S stampCh 2 (fun x : OpS => x.oh) (fun x : OpS => x.over) oacc, slI (Old w) encB 1 rr2.bh rr2.b, slI (Old w) encB 1 x98.bh x98.b, slI (Old w) encB 1 x83.bh x83.b, slI (Old w) encB 1 rr.bh rr.b, slI (Old w) encB 1 x7.bh x7.b, slI (Old w) encB 1 hb b]) _ ⟨0, [], nob, x113, ((rdNum (rdNum (rdNum rq 1099511627776).2 65536).2 64).2), nilH, rfl, (by omega), (rdNum_le _ (by decide)), (by simp), (fun _ h => (nomatch h)), (fun _ h => h.elim), hr116, rfl, _, envL_self ⟨rfl, rfl, rfl, rfl, rfl, rfl, trivial⟩, H135⟩ ?_
  rintro m136 _ w138 ⟨j, oacc, S, rr2, rq2, ho, rfl, hj, hm2, hal2, hnm, hS, hrr2, hgo2, eb139, rfl, H140⟩
  refine W_seq (W_seq ?_)
  refine W_rg [(0, .q 0), (1, .q 0), (2, .q 0), (3, .q 0), (4, .q 0), (5, .q 0), (6, .q 0), (7, .q 0)] (by kernel_rfl) ?_
  refine Lx_q (i := 0) rfl rfl _ (fun v141 hv142 => R_move (v := (.int .i64 ((j : Nat) : Int))) rfl ⟨rfl, Gr.refl _ _⟩) ?_
  refine Lx_q (i := 1) rfl rfl _ (fun v143 hv144 => R_move (v := (.int .i64 ((((rdNum ((rdNum ((rdNum rq 1099511627776).2) 65536).2) 64).1) : Nat) : Int))) rfl ⟨rfl, Gr.refl _ _⟩) ?_
  refine Lx_q (i := 2) rfl rfl _ (fun v145 hv146 => R_cmp (a := ((j : Nat) : Int)) (b := ((((rdNum ((rdNum ((rdNum rq 1099511627776).2) 65536).2) 64).1) : Nat) : Int)) (r := (decide (((j : Nat) : Int) < ((((rdNum ((rdNum ((rdNum rq 1099511627776).2) 65536).2) 64).1) : Nat) : Int)))) rfl rfl rfl ⟨rfl, Gr.refl _ _⟩) ?_
  refine Lx_q (i := 3) rfl rfl _ (fun v147 hv148 => R_move (v := (.bool (decide (((j : Nat) : Int) < ((((rdNum ((rdNum ((rdNum rq 1099511627776).2) 65536).2) 64).1) : Nat) : Int))))) rfl ⟨rfl, Gr.refl _ _⟩) ?_
  refine Lx_qg (i := 4) true (decide (((j : Nat) : Int) < ((((rdNum ((rdNum ((rdNum rq 1099511627776).2) 65536).2) 64).1) : Nat) : Int))) rfl rfl rfl rfl rfl (decide (((j : Nat) : Int) < ((((rdNum ((rdNum ((rdNum rq 1099511627776).2) 65536).2) 64).1) : Nat) : Int))) ga_t _ (fun hA v149 hv150 => R_fieldAddr (off := 1) (oo := 1) Tryz.underlying110 rfl rfl Tryz.sizeOf4 rfl rfl ⟨rfl, Gr.refl _ _⟩) ?_
  refine Lx_qg (i := 5) true (decide (((j : Nat) : Int) < ((((rdNum ((rdNum ((rdNum rq 1099511627776).2) 65536).2) 64).1) : Nat) : Int))) rfl rfl rfl rfl rfl (decide (((j : Nat) : Int) < ((((rdNum ((rdNum ((rdNum rq 1099511627776).2) 65536).2) 64).1) : Nat) : Int))) ga_t _ (fun hA v151 hv152 => R_load1 (v := (.bool rr2.bad)) Tryz.isAgg4 (gv_t hA) ((boxR_at ((H140.ext hv152).getOwn 1 rfl)).chunks 1 1 1 1 _ rfl rfl rfl) ⟨rfl, Gr.refl _ _⟩) ?_
  refine Lx_qg (i := 6) true (decide (((j : Nat) : Int) < ((((rdNum ((rdNum ((rdNum rq 1099511627776).2) 65536).2) 64).1) : Nat) : Int))) rfl rfl rfl rfl rfl (decide (((j : Nat) : Int) < ((((rdNum ((rdNum ((rdNum rq 1099511627776).2) 65536).2) 64).1) : Nat) : Int))) ga_t _ (fun hA v153 hv154 => R_not (gv_t hA) ⟨rfl, Gr.refl _ _⟩) ?_
  refine Lx_q (i := 7) rfl rfl _ (fun v155 hv156 => R_pick (t := (decide (((j : Nat) : Int) < ((((rdNum ((rdNum ((rdNum rq 1099511627776).2) 65536).2) 64).1) : Nat) : Int)))) (v := (.bool ((decide (((j : Nat) : Int) < ((((rdNum ((rdNum ((rdNum rq 1099511627776).2) 65536).2) 64).1) : Nat) : Int))) && (!rr2.bad)))) rfl pk_and ⟨rfl, Gr.refl _ _⟩) ?_
  refine Lx_nil (fun w157 hw158 => ?_)
  have H159 := H140.ext hw158
  refine Then_n ?_
  refine W_cond (t := ((decide (((j : Nat) : Int) < ((((rdNum ((rdNum ((rdNum rq 1099511627776).2) 65536).2) 64).1) : Nat) : Int))) && (!rr2.bad))) rfl (fun hc160 => ?_) (fun hc160 => ?_)
  ·have hc160 : ((((j : Nat) : Int) < ((((rdNum ((rdNum ((rdNum rq 1099511627776).2) 65536).2) 64).1) : Nat) : Int)) ∧ rr2.bad = false) := (And.imp (fun h => (of_decide_eq_true h)) (fun h => (notT h)) (andT hc160))
   refine W_skip (Then_n (W_seq (W_block (W_seq (W_reg ?_)))))
   refine O_v rfl (R_loadA (cs := [[(slV rr2.bh rr2.b)], [(.bool rr2.bad)]]) Tryz.isAgg110 Tryz.sizeOf110 rfl rfl ((boxR_at (H159.getOwn 1 rfl)).chunks 0 2 0 0 _ rfl rfl rfl) ?_)
   refine O_v rfl (R_callL (vs := [(aggOf (rdCh rr2))]) ref04_Change_c77 rfl rfl ((ref03_Get rr2 (Old w) rq2 w157 (H159.sl 1 rfl) (H159.imm _ (List.mem_of_getElem? (i := 1) rfl)).2 hrr2).ret ?_))
   rintro _ w162 ⟨x168, x161, rfl, hx163, ho169, hx170, hr164, hs165⟩
   have H166 := H159.addRow hx163 ho169
   have H167 := H166.immOf 1 rfl (slI (Old w) encB 1 x161.bh x161.b) (fun _ h => h) (fun _ => hs165)
   refine O_v rfl (R_move (v := (.tuple #[(aggOf (opCh x168)), (aggOf (rdCh x161))])) rfl ?_)
   refine O_v rfl (R_extract (v := (aggOf (opCh x168))) rfl rfl ?_)
   refine O_v rfl (R_extract (v := (aggOf (rdCh x161))) rfl rfl ?_)
   refine O_v rfl (C_alloc H167 [[(.int .i64 0)], [(.int .i64 0)], [(.int .i64 0)], [(.int .i64 0)], [(.int .i64 0)], [(.int .i64 0)], [(.int .i64 0)], [(.string ByteArray.empty)], (idCells zeroId), [(.slice none 0 0)]] Tryz.zeroValue72 ?_)
   intro b171 w172 hb173 hx174 H175
   refine O_v rfl (C_alloc H175 [[(.slice none 0 0)], [(.bool false)]] Tryz.zeroValue110 ?_)
   intro b176 w177 hb178 hx179 H180
   refine O_u (C_storeA H180 1 rfl 0 (sub := [[(.int .i64 x168.kind)], [(.int .i64 x168.tm.T)], [(.int .i64 x168.tm.R)], [(.int .i64 x168.node.T)], [(.int .i64 x168.node.R)], [(.int .i64 x168.par.T)], [(.int .i64 x168.par.R)], [(.string x168.name)], (idCells x168.data), [(slV x168.oh x168.over)]]) [[(.int .i64 x168.kind)], [(.int .i64 x168.tm.T)], [(.int .i64 x168.tm.R)], [(.int .i64 x168.node.T)], [(.int .i64 x168.node.R)], [(.int .i64 x168.par.T)], [(.int .i64 x168.par.R)], [(.string x168.name)], (idCells x168.data), [(slV x168.oh x168.over)]] Tryz.sizeOf72 rfl rfl rfl rfl ⟨[[(.int .i64 0)], [(.int .i64 0)], [(.int .i64 0)], [(.int .i64 0)], [(.int .i64 0)], [(.int .i64 0)], [(.int .i64 0)], [(.string ByteArray.empty)], (idCells zeroId), [(.slice none 0 0)]], [], rfl, rfl, rfl⟩ rfl ?_)
   intro w181 hg182 H183
   refine O_u (C_storeA H183 0 rfl 0 (sub := [[(slV x161.bh x161.b)], [(.bool x161.bad)]]) [[(slV x161.bh x161.b)], [(.bool x161.bad)]] Tryz.sizeOf110 rfl rfl rfl rfl ⟨[[(.slice none 0 0)], [(.bool false)]], [], rfl, rfl, rfl⟩ rfl ?_)
   intro w184 hg185 H186
   refine O_nil (Then_n (W_seq (W_reg ?_)))
   refine O_v rfl (R_fieldAddr (off := 3) (oo := 3) Tryz.underlying47 rfl rfl Tryz.sizeOf43 rfl rfl ?_)
   refine O_v rfl (R_load1 (v := (slV ho oacc)) Tryz.isAgg43 rfl ((boxR_at (H186.getOwn 8 rfl)).chunks 3 1 3 3 _ rfl rfl rfl) ?_)
   refine O_v rfl (R_loadA (cs := [[(.int .i64 x168.kind)], [(.int .i64 x168.tm.T)], [(.int .i64 x168.tm.R)], [(.int .i64 x168.node.T)], [(.int .i64 x168.node.R)], [(.int .i64 x168.par.T)], [(.int .i64 x168.par.R)], [(.string x168.name)], (idCells x168.data), [(slV x168.oh x168.over)]]) Tryz.isAgg72 Tryz.sizeOf72 rfl rfl ((boxR_at (H186.getOwn 1 rfl)).chunks 0 10 0 0 _ rfl rfl rfl) ?_)
   refine O_v rfl (C_buildSliceL H186 (enc := opCh) (val := opV) ([x168] : List OpS) Tryz.underlying43 Tryz.sizeOf72 Tryz.zeroValue72 rfl (by decide) (fun _ => rfl) (fun _ => rfl) rfl rfl (by decide) ?_)
   intro b187 w188 hb189 hx190 H191
   refine O_v rfl (C_append H191 4 rfl (bytes := 128) (l := oacc) (ys := ([x168] : List OpS)) Tryz.underlying43 rfl rfl rfl rfl rfl (by decide) rfl rfl (OwnS.sl (H191.getOwn 0 rfl) (fun _ => rfl)) (fun _ => rfl) (fun _ => rfl) (by simp only [List.length_append, List.length_cons, List.length_nil]; omega) (by decide) ?_)
   intro h192 w193 hg194 H195
   refine O_v rfl (R_fieldAddr (off := 3) (oo := 3) Tryz.underlying47 rfl rfl Tryz.sizeOf43 rfl rfl ?_)
   refine O_u (C_store1 H195 9 rfl 3 (v := (slV h192 (oacc ++ ([x168] : List OpS)))) [[(slV hp pacc)], [(.int .i64 ((((rdNum rq 1099511627776).1) : Nat) : Int))], [(.int .i64 ((((rdNum ((rdNum rq 1099511627776).2) 65536).1) : Nat) : Int))], [(slV h192 (oacc ++ ([x168] : List OpS)))], (idCells zeroId), [(.string ByteArray.empty)]] Tryz.sizeOf43 rfl rfl rfl rfl rfl rfl rfl ?_)
   intro w196 hg197 H198
   refine O_nil (Then_n (W_reg ?_))
   refine O_v rfl (R_loadA (cs := [[(slV x161.bh x161.b)], [(.bool x161.bad)]]) Tryz.isAgg110 Tryz.sizeOf110 rfl rfl ((boxR_at (H198.getOwn 1 rfl)).chunks 0 2 0 0 _ rfl rfl rfl) ?_)
   refine O_u (C_storeA H198 5 rfl 0 (sub := [[(slV x161.bh x161.b)], [(.bool x161.bad)]]) [[(slV x161.bh x161.b)], [(.bool x161.bad)]] Tryz.sizeOf110 rfl rfl rfl rfl ⟨[[(slV rr2.bh rr2.b)], [(.bool rr2.bad)]], [], rfl, rfl, rfl⟩ rfl ?_)
   intro w199 hg200 H201
   refine O_nil (Blk_n (Then_n (W_reg ?_)))
   refine O_v rfl (R_move (v := (.int .i64 ((j : Nat) : Int))) rfl ?_)
   refine O_v rfl (R_arith (a := ((j : Nat) : Int)) (b := 1) (r0 := ((j : Nat) : Int) + 1) (r := ((j + 1 : Nat) : Int)) rfl rfl rfl (wrapN _ (by omega)) ?_)
   refine O_v rfl (R_assign (v := (.int .i64 ((j + 1 : Nat) : Int))) rfl ?_)
   refine O_nil (Then_n ?_)
   have H202 := H201.freeze 3 rfl (fun _ => rfl)
   have H203 := H202.deepSnoc 2 rfl 0 rfl (x168) rfl rfl
   have H204 := H203.sub (B' := [rowR 72 41 opCh h192 (oacc ++ ([x168] : List OpS)), boxR b120 110 [[(slV x161.bh x161.b)], [(.bool x161.bad)]], boxR b105 110 [[(slV x98.bh x98.b)], [(.bool x98.bad)]], boxR b90 110 [[(slV x83.bh x83.b)], [(.bool x83.bad)]], rowR 45 32 idCh hp pacc, boxR b29 47 [[(slV hp pacc)], [(.int .i64 ((((rdNum rq 1099511627776).1) : Nat) : Int))], [(.int .i64 ((((rdNum ((rdNum rq 1099511627776).2) 65536).1) : Nat) : Int))], [(slV h192 (oacc ++ ([x168] : List OpS)))], (idCells zeroId), [(.string ByteArray.empty)]], boxR b21 110 [[(slV rr.bh rr.b)], [(.bool rr.bad)]], boxR b2 47 [[(.slice none 0 0)], [(.int .i64 0)], [(.int .i64 0)], [(.slice none 0 0)], (idCells zeroId), [(.string ByteArray.empty)]]]) (I' := [deepI (fun b => S b ∨ (fun z_ => (slV x168.oh x168.over).ownBlock = some z_) b) stampCh 2 (fun x : OpS => x.oh) (fun x : OpS => x.over) (oacc ++ ([x168] : List OpS)), slI (Old w) encB 1 x161.bh x161.b, slI (Old w) encB 1 x98.bh x98.b, slI (Old w) encB 1 x83.bh x83.b, slI (Old w) encB 1 rr.bh rr.b, slI (Old w) encB 1 x7.bh x7.b, slI (Old w) encB 1 hb b]) (List.Sublist.cons _ (List.Sublist.cons _ (List.Sublist.cons _ (List.Sublist.cons_cons _ (List.Sublist.cons_cons _ (List.Sublist.cons_cons _ (List.Sublist.cons_cons _ (List.Sublist.cons_cons _ (List.Sublist.cons_cons _ (List.Sublist.cons_cons _ (List.Sublist.cons_cons _ List.Sublist.slnil))))))))))) (List.forall_mem_cons.2 ⟨List.mem_of_getElem? (i := 0) rfl, List.forall_mem_cons.2 ⟨List.mem_of_getElem? (i := 2) rfl, List.forall_mem_cons.2 ⟨List.mem_of_getElem? (i := 5) rfl, List.forall_mem_cons.2 ⟨List.mem_of_getElem? (i := 6) rfl, List.forall_mem_cons.2 ⟨List.mem_of_getElem? (i := 7) rfl, List.forall_mem_cons.2 ⟨List.mem_of_getElem? (i := 8) rfl, List.forall_mem_cons.2 ⟨List.mem_of_getElem? (i := 9) rfl, fun _ h => (nomatch h)⟩⟩⟩⟩⟩⟩⟩)
   refine ⟨_, ?_, (j + 1), (oacc ++ ([x168] : List OpS)), (fun b => S b ∨ (fun z_ => (slV x168.oh x168.over).ownBlock = some z_) b), x161, ((rdOp rq2).2), h192, rfl, (by omega), hm2, (by simp only [List.length_append, List.length_cons, List.length_nil]; omega), (names_snoc hnm (op_name hx170)), (fun b hb => hb.elim (hS b) (H201.newRow 3 rfl b)), hr164, (ops_next hgo2 (by omega) hx170), _, envL_self ⟨rfl, rfl, rfl, rfl, rfl, rfl, trivial⟩, H204⟩
   omega
  ·have hc160 : (¬ (((j : Nat) : Int) < ((((rdNum ((rdNum ((rdNum rq 1099511627776).2) 65536).2) 64).1) : Nat) : Int)) ∨ rr2.bad = true) := (Or.imp (fun h => (of_decide_eq_false h)) (fun h => (notF h)) (andF hc160))
   refine W_exit (Then_x (Then_x (Blk_x (Then_n (W_seq (W_reg ?_))))))
   refine O_v rfl (R_loadA (cs := [[(slV rr2.bh rr2.b)], [(.bool rr2.bad)]]) Tryz.isAgg110 Tryz.sizeOf110 rfl rfl ((boxR_at (H159.getOwn 1 rfl)).chunks 0 2 0 0 _ rfl rfl rfl) ?_)
   refine O_v rfl (R_callL (vs := [(aggOf (rdCh rr2))]) ref04_Change_c76 rfl rfl ((ref02_GetId rr2 (Old w) rq2 w157 (H159.sl 1 rfl) (H159.imm _ (List.mem_of_getElem? (i := 1) rfl)).2 hrr2).ret ?_))
   rintro _ w206 ⟨x205, rfl, hx207, hr208, hs209⟩
   have H210 := H159.ext hx207
   have H211 := H210.immOf 1 rfl (slI (Old w) encB 1 x205.bh x205.b) (fun _ h => h) (fun _ => hs209)
   refine O_v rfl (R_move (v := (.tuple #[(aggOf (idCh ((rdId rq2).1))), (aggOf (rdCh x205))])) rfl ?_)
   refine O_v rfl (R_extract (v := (aggOf (idCh ((rdId rq2).1)))) rfl rfl ?_)
   refine O_v rfl (R_extract (v := (aggOf (rdCh x205))) rfl rfl ?_)
   refine O_v rfl (C_alloc H211 [(idCells zeroId)] Tryz.zeroValue44 ?_)
   intro b212 w213 hb214 hx215 H216
   refine O_v rfl (C_alloc H216 [[(.slice none 0 0)], [(.bool false)]] Tryz.zeroValue110 ?_)
   intro b217 w218 hb219 hx220 H221
   refine O_u (C_storeA H221 1 rfl 0 (sub := [(idCells ((rdId rq2).1))]) [(idCells ((rdId rq2).1))] Tryz.sizeOf44 rfl rfl rfl rfl ⟨[(idCells zeroId)], [], rfl, rfl, rfl⟩ rfl ?_)
   intro w222 hg223 H224
   refine O_u (C_storeA H224 0 rfl 0 (sub := [[(slV x205.bh x205.b)], [(.bool x205.bad)]]) [[(slV x205.bh x205.b)], [(.bool x205.bad)]] Tryz.sizeOf110 rfl rfl rfl rfl ⟨[[(.slice none 0 0)], [(.bool false)]], [], rfl, rfl, rfl⟩ rfl ?_)
   intro w225 hg226 H227
   refine O_nil (Then_n (W_seq (W_reg ?_)))
   refine O_v rfl (R_loadA (cs := [[(slV x205.bh x205.b)], [(.bool x205.bad)]]) Tryz.isAgg110 Tryz.sizeOf110 rfl rfl ((boxR_at (H227.getOwn 0 rfl)).chunks 0 2 0 0 _ rfl rfl rfl) ?_)
   refine O_v rfl (R_callL (vs := [(aggOf (rdCh x205)), (.int .i64 200)]) ref04_Change_c78 rfl rfl ((ref02_GetText x205 (Old w) ((rdId rq2).2) 200 w225 (H227.sl 0 rfl) (H227.imm _ (List.mem_of_getElem? (i := 0) rfl)).2 hr208).ret ?_))
   rintro _ w229 ⟨x228, rfl, hx230, hr231, hs232⟩
   have H233 := H227.ext hx230
   have H234 := H233.immOf 0 rfl (slI (Old w) encB 1 x228.bh x228.b) (fun _ h => h) (fun _ => hs232)
   refine O_v rfl (R_move (v := (.tuple #[(.string ((rdText ((rdId rq2).2) 200).1)), (aggOf (rdCh x228))])) rfl ?_)
   refine O_v rfl (R_extract (v := (.string ((rdText ((rdId rq2).2) 200).1))) rfl rfl ?_)
   refine O_v rfl (R_extract (v := (aggOf (rdCh x228))) rfl rfl ?_)
   refine O_v rfl (C_alloc H234 [[(.slice none 0 0)], [(.bool false)]] Tryz.zeroValue110 ?_)
   intro b235 w236 hb237 hx238 H239
   refine O_v rfl (R_assign (v := (.string ((rdText ((rdId rq2).2) 200).1))) rfl ?_)
   refine O_u (C_storeA H239 0 rfl 0 (sub := [[(slV x228.bh x228.b)], [(.bool x228.bad)]]) [[(slV x228.bh x228.b)], [(.bool x228.bad)]] Tryz.sizeOf110 rfl rfl rfl rfl ⟨[[(.slice none 0 0)], [(.bool false)]], [], rfl, rfl, rfl⟩ rfl ?_)
   intro w240 hg241 H242
   refine O_nil (Then_n (W_seq (W_reg ?_)))
   refine O_v rfl (R_loadA (cs := [(idCells ((rdId rq2).1))]) Tryz.isAgg44 Tryz.sizeOf44 rfl rfl ((boxR_at (H242.getOwn 2 rfl)).chunks 0 1 0 0 _ rfl rfl rfl) ?_)
   refine O_v rfl (R_fieldAddr (off := 4) (oo := 4) Tryz.underlying47 rfl rfl Tryz.sizeOf45 rfl rfl ?_)
   refine O_u (C_storeA H242 8 rfl 4 (sub := [(idCells ((rdId rq2).1))]) [[(slV hp pacc)], [(.int .i64 ((((rdNum rq 1099511627776).1) : Nat) : Int))], [(.int .i64 ((((rdNum ((rdNum rq 1099511627776).2) 65536).1) : Nat) : Int))], [(slV ho oacc)], (idCells ((rdId rq2).1)), [(.string ByteArray.empty)]] Tryz.sizeOf45 rfl rfl rfl rfl ⟨[(idCells zeroId)], [[(.string ByteArray.empty)]], rfl, rfl, rfl⟩ rfl ?_)
   intro w243 hg244 H245
   refine O_nil (Then_n (W_seq (W_reg ?_)))
   refine O_v rfl (R_move (v := (.string ((rdText ((rdId rq2).2) 200).1))) rfl ?_)
   refine O_v rfl (R_fieldAddr (off := 36) (oo := 36) Tryz.underlying47 rfl rfl Tryz.sizeOf9 rfl rfl ?_)
   refine O_u (C_store1 H245 8 rfl 5 (v := (.string ((rdText ((rdId rq2).2) 200).1))) [[(slV hp pacc)], [(.int .i64 ((((rdNum rq 1099511627776).1) : Nat) : Int))], [(.int .i64 ((((rdNum ((rdNum rq 1099511627776).2) 65536).1) : Nat) : Int))], [(slV ho oacc)], (idCells ((rdId rq2).1)), [(.string ((rdText ((rdId rq2).2) 200).1))]] Tryz.sizeOf9 rfl rfl rfl rfl rfl rfl rfl ?_)
   intro w246 hg247 H248
   refine O_nil (Then_n (W_seq (W_seq ?_)))
   refine W_rg [(0, .q 0), (1, .q 0), (2, .q 0), (3, .q 0), (4, .q 0), (5, .q 0), (6, .q 0), (7, .q 0)] (by kernel_rfl) ?_
   refine Lx_q (i := 0) rfl rfl _ (fun v249 hv250 => R_loadA (cs := [[(slV x228.bh x228.b)], [(.bool x228.bad)]]) Tryz.isAgg110 Tryz.sizeOf110 rfl rfl ((boxR_at ((H248.ext hv250).getOwn 0 rfl)).chunks 0 2 0 0 _ rfl rfl rfl) ⟨rfl, Gr.refl _ _⟩) ?_
   refine Lx_q (i := 1) rfl rfl (.bool (rdDone ((rdText ((rdId rq2).2) 200).2))) (fun v251 hv252 => R_callL (vs := [(aggOf (rdCh x228))]) ref04_Change_c75 rfl rfl (ref02_Done x228 (Old w) ((rdText ((rdId rq2).2) 200).2) v251 ((H248.ext hv252).sl 0 rfl) ((H248.ext hv252).imm _ (List.mem_of_getElem? (i := 0) rfl)).2 hr231)) ?_
   refine Lx_q (i := 2) rfl rfl _ (fun v253 hv254 => R_not rfl ⟨rfl, Gr.refl _ _⟩) ?_
   refine Lx_q (i := 3) rfl rfl _ (fun v255 hv256 => R_move (v := (.bool (!(rdDone ((rdText ((rdId rq2).2) 200).2))))) rfl ⟨rfl, Gr.refl _ _⟩) ?_
   refine Lx_qg (i := 4) true (!(rdDone ((rdText ((rdId rq2).2) 200).2))) rfl rfl rfl rfl rfl (!(!(rdDone ((rdText ((rdId rq2).2) 200).2)))) ga_f _ (fun hA v257 hv258 => R_loadA (cs := [[(slV hp pacc)], [(.int .i64 ((((rdNum rq 1099511627776).1) : Nat) : Int))], [(.int .i64 ((((rdNum ((rdNum rq 1099511627776).2) 65536).1) : Nat) : Int))], [(slV ho oacc)], (idCells ((rdId rq2).1)), [(.string ((rdText ((rdId rq2).2) 200).1))]]) Tryz.isAgg47 Tryz.sizeOf47 rfl rfl ((boxR_at ((H248.ext hv258).getOwn 8 rfl)).chunks 0 6 0 0 _ rfl rfl rfl) ⟨rfl, Gr.refl _ _⟩) ?_
   refine Lx_qg (i := 5) true (!(rdDone ((rdText ((rdId rq2).2) 200).2))) rfl rfl rfl rfl rfl (!(!(rdDone ((rdText ((rdId rq2).2) 200).2)))) ga_f (.bool (changeOk ({ parents := pacc, ph := hp, time := ((((rdNum rq 1099511627776).1) : Nat) : Int), r := ((((rdNum ((rdNum rq 1099511627776).2) 65536).1) : Nat) : Int), ops := oacc, oh := ho, tree := (rdId rq2).1, msg := (rdText ((rdId rq2).2) 200).1 } : ChangeS))) (fun hA v259 hv260 => R_callL (vs := [(aggOf [[(slV hp pacc)], [(.int .i64 ((((rdNum rq 1099511627776).1) : Nat) : Int))], [(.int .i64 ((((rdNum ((rdNum rq 1099511627776).2) 65536).1) : Nat) : Int))], [(slV ho oacc)], (idCells ((rdId rq2).1)), [(.string ((rdText ((rdId rq2).2) 200).1))]])]) ref04_Change_c24 rfl (lst1 (gv_t hA)) (ref04_RightChange ({ parents := pacc, ph := hp, time := ((((rdNum rq 1099511627776).1) : Nat) : Int), r := ((((rdNum ((rdNum rq 1099511627776).2) 65536).1) : Nat) : Int), ops := oacc, oh := ho, tree := (rdId rq2).1, msg := (rdText ((rdId rq2).2) 200).1 } : ChangeS) v259 ((H248.ext hv260).rowSl 7 rfl (fun _ => rfl)) ((H248.ext hv260).rowSl 3 rfl (fun _ => rfl)) ((H248.ext hv260).deepOld 2 rfl) hnm)) ?_
   refine Lx_qg (i := 6) true (!(rdDone ((rdText ((rdId rq2).2) 200).2))) rfl rfl rfl rfl rfl (!(!(rdDone ((rdText ((rdId rq2).2) 200).2)))) ga_f _ (fun hA v261 hv262 => R_not (gv_t hA) ⟨rfl, Gr.refl _ _⟩) ?_
   refine Lx_q (i := 7) rfl rfl _ (fun v263 hv264 => R_pick (t := (!(rdDone ((rdText ((rdId rq2).2) 200).2)))) (v := (.bool ((!(rdDone ((rdText ((rdId rq2).2) 200).2))) || (!(changeOk ({ parents := pacc, ph := hp, time := ((((rdNum rq 1099511627776).1) : Nat) : Int), r := ((((rdNum ((rdNum rq 1099511627776).2) 65536).1) : Nat) : Int), ops := oacc, oh := ho, tree := (rdId rq2).1, msg := (rdText ((rdId rq2).2) 200).1 } : ChangeS)))))) rfl pk_or ⟨rfl, Gr.refl _ _⟩) ?_
   refine Lx_nil (fun w265 hw266 => ?_)
   have H267 := H248.ext hw266
   refine Then_n ?_
   refine W_cond (t := ((!(rdDone ((rdText ((rdId rq2).2) 200).2))) || (!(changeOk ({ parents := pacc, ph := hp, time := ((((rdNum rq 1099511627776).1) : Nat) : Int), r := ((((rdNum ((rdNum rq 1099511627776).2) 65536).1) : Nat) : Int), ops := oacc, oh := ho, tree := (rdId rq2).1, msg := (rdText ((rdId rq2).2) 200).1 } : ChangeS))))) rfl (fun hc268 => ?_) (fun hc268 => ?_)
   ·have hc268 : ((rdDone ((rdText ((rdId rq2).2) 200).2)) = false ∨ (changeOk ({ parents := pacc, ph := hp, time := ((((rdNum rq 1099511627776).1) : Nat) : Int), r := ((((rdNum ((rdNum rq 1099511627776).2) 65536).1) : Nat) : Int), ops := oacc, oh := ho, tree := (rdId rq2).1, msg := (rdText ((rdId rq2).2) 200).1 } : ChangeS)) = false) := (Or.imp (fun h => (notT h)) (fun h => (notT h)) (orT hc268))
    refine W_seq (W_reg ?_)
    refine O_v rfl (R_buildL (vs := []) (v := aggOf [[(.slice none 0 0)], [(.int .i64 0)], [(.int .i64 0)], [(.slice none 0 0)], (idCells zeroId), [(.string ByteArray.empty)]]) rfl (fun _ => by kernel_rfl) ?_)
    refine O_u (C_storeA H267 10 rfl 0 (sub := [[(.slice none 0 0)], [(.int .i64 0)], [(.int .i64 0)], [(.slice none 0 0)], (idCells zeroId), [(.string ByteArray.empty)]]) [[(.slice none 0 0)], [(.int .i64 0)], [(.int .i64 0)], [(.slice none 0 0)], (idCells zeroId), [(.string ByteArray.empty)]] Tryz.sizeOf47 rfl rfl rfl rfl ⟨[[(.slice none 0 0)], [(.int .i64 0)], [(.int .i64 0)], [(.slice none 0 0)], (idCells zeroId), [(.string ByteArray.empty)]], [], rfl, rfl, rfl⟩ rfl ?_)
    intro w269 hg270 H271
    refine O_v rfl (R_assign (v := (.bool false)) rfl ?_)
    refine O_nil (Then_n (W_ret (Then_r ?_)))
    refine ret_ct (v := (.bool false)) Tryz.results33 (inMem (cs := [[(.slice none 0 0)], [(.int .i64 0)], [(.int .i64 0)], [(.slice none 0 0)], (idCells zeroId), [(.string ByteArray.empty)]]) rfl Tryz.isAgg47 Tryz.sizeOf47 rfl (boxR_at (H271.getOwn 10 rfl))) rfl ?_
    exact ⟨({ parents := [], ph := nilH, time := 0, r := 0, ops := [], oh := nilH, tree := zeroId, msg := ByteArray.empty } : ChangeS), (fun z_ => nob z_ ∨ nob z_ ∨ nob z_), (bool_val (changeR_no (ids_end hgo (by omega)) hgo2 hrr2 hc160 rfl hc268).1), H271.gr, fun b hb => ⟨(hb.elim ((fun h => h.elim)) (fun h => h.elim ((fun h => h.elim)) ((fun h => h.elim)))), (hb.elim ((fun h => h.elim)) (fun h => h.elim ((fun h => h.elim)) ((fun h => h.elim))))⟩, (Sl.nil _ _ _ _), (Sl.nil _ _ _ _), (fun _ h => (nomatch h)), (changeR_no (ids_end hgo (by omega)) hgo2 hrr2 hc160 rfl hc268).2⟩
   ·have hc268 : ((rdDone ((rdText ((rdId rq2).2) 200).2)) = true ∧ (changeOk ({ parents := pacc, ph := hp, time := ((((rdNum rq 1099511627776).1) : Nat) : Int), r := ((((rdNum ((rdNum rq 1099511627776).2) 65536).1) : Nat) : Int), ops := oacc, oh := ho, tree := (rdId rq2).1, msg := (rdText ((rdId rq2).2) 200).1 } : ChangeS)) = true) := (And.imp (fun h => (notF h)) (fun h => (notF h)) (orF hc268))
    refine W_skip (Then_n (W_seq (W_reg ?_)))
    refine O_v rfl (R_loadA (cs := [[(slV hp pacc)], [(.int .i64 ((((rdNum rq 1099511627776).1) : Nat) : Int))], [(.int .i64 ((((rdNum ((rdNum rq 1099511627776).2) 65536).1) : Nat) : Int))], [(slV ho oacc)], (idCells ((rdId rq2).1)), [(.string ((rdText ((rdId rq2).2) 200).1))]]) Tryz.isAgg47 Tryz.sizeOf47 rfl rfl ((boxR_at (H267.getOwn 8 rfl)).chunks 0 6 0 0 _ rfl rfl rfl) ?_)
    refine O_u (C_storeA H267 10 rfl 0 (sub := [[(slV hp pacc)], [(.int .i64 ((((rdNum rq 1099511627776).1) : Nat) : Int))], [(.int .i64 ((((rdNum ((rdNum rq 1099511627776).2) 65536).1) : Nat) : Int))], [(slV ho oacc)], (idCells ((rdId rq2).1)), [(.string ((rdText ((rdId rq2).2) 200).1))]]) [[(slV hp pacc)], [(.int .i64 ((((rdNum rq 1099511627776).1) : Nat) : Int))], [(.int .i64 ((((rdNum ((rdNum rq 1099511627776).2) 65536).1) : Nat) : Int))], [(slV ho oacc)], (idCells ((rdId rq2).1)), [(.string ((rdText ((rdId rq2).2) 200).1))]] Tryz.sizeOf47 rfl rfl rfl rfl ⟨[[(.slice none 0 0)], [(.int .i64 0)], [(.int .i64 0)], [(.slice none 0 0)], (idCells zeroId), [(.string ByteArray.empty)]], [], rfl, rfl, rfl⟩ rfl ?_)
    intro w272 hg273 H274
    refine O_v rfl (R_assign (v := (.bool true)) rfl ?_)
    refine O_nil (Then_n (W_ret ?_))
    refine ret_ct (v := (.bool true)) Tryz.results33 (inMem (cs := [[(slV hp pacc)], [(.int .i64 ((((rdNum rq 1099511627776).1) : Nat) : Int))], [(.int .i64 ((((rdNum ((rdNum rq 1099511627776).2) 65536).1) : Nat) : Int))], [(slV ho oacc)], (idCells ((rdId rq2).1)), [(.string ((rdText ((rdId rq2).2) 200).1))]]) rfl Tryz.isAgg47 Tryz.sizeOf47 rfl (boxR_at (H274.getOwn 10 rfl))) rfl ?_
    have hn275 := H274.newRow 7 rfl
    have H276 := H274.freeze 7 rfl (fun _ => rfl)
    have hn277 := H276.newRow 3 rfl
    have H278 := H276.freeze 3 rfl (fun _ => rfl)
    exact ⟨({ parents := pacc, ph := hp, time := ((((rdNum rq 1099511627776).1) : Nat) : Int), r := ((((rdNum ((rdNum rq 1099511627776).2) 65536).1) : Nat) : Int), ops := oacc, oh := ho, tree := (rdId rq2).1, msg := (rdText ((rdId rq2).2) 200).1 } : ChangeS), (fun z_ => (fun z_ => (slV hp pacc).ownBlock = some z_) z_ ∨ (fun z_ => (slV ho oacc).ownBlock = some z_) z_ ∨ S z_), (bool_val (changeR_yes (ids_end hgo (by omega)) hgo2 hrr2 hc160 rfl hc268).1), H278.gr, fun b hb => ⟨(hb.elim (hn275 b) (fun h => h.elim (hn277 b) (hS b))), (hb.elim ((H278.imm _ (List.mem_of_getElem? (i := 1) rfl)).2 b) (fun h => h.elim ((H278.imm _ (List.mem_of_getElem? (i := 0) rfl)).2 b) ((H278.imm _ (List.mem_of_getElem? (i := 4) rfl)).2 b)))⟩, ((H278.sl 1 rfl).mono (fun _ h => .inl h)), ((H278.sl 0 rfl).mono (fun _ h => .inr (.inl h))), (fun o ho => ((H278.getImm 4 rfl) o ho).mono (fun _ h => .inr (.inr h))), (changeR_yes (ids_end hgo (by omega)) hgo2 hrr2 hc160 rfl hc268).2⟩

end Go.Proofs.YthjdhfoeckfmbaaGreat
namespace Go.Proofs.YthjdhfoeckfmbaaGreat
open Go
set_option maxRecDepth 100000
set_option linter.unusedVariables false
set_option linter.unusedSimpArgs false
set_option linter.unusedSectionVars false
variable [DD]
theorem ref04_rightItem_c44 : callable Tryz.prog 44 = true := by kernel_rfl
theorem ref04_rightItem_c60 : callable Tryz.prog 60 = true := by kernel_rfl
theorem ref04_rightItem_c62 : callable Tryz.prog 62 = true := by kernel_rfl
theorem ref04_rightItem_c71 : callable Tryz.prog 71 = true := by kernel_rfl
set_option maxHeartbeats 1000000 in
theorem ref04_rightItem (x : ItemS) (w : World) (Sx_heads : Sl (Old w) headCh 34 x.hh x.heads w) (hl : x.name.size ≤ 9223372036854775807) :
    Calls Tryz.prog 43 #[(aggOf (itemCh x))] w (Ret fun v w' => v = (.bool (itemOkS x)) ∧ Ext w w') := by
 refine calls_W Tryz.func43 rfl Tryz.ntmps43 rfl ?_
 have H0 := Ctx.start w nob
 have H1 := H0.addSl _ Sx_heads (fun b hb => ⟨hb, fun _ ho => (nomatch ho)⟩)
 have LSx_heads := Sx_heads.len
 refine W_seq (W_reg ?_)
 refine O_v rfl (C_box H1 [[(.int .i64 x.node.T)], [(.int .i64 x.node.R)], [(.int .i64 x.tm.T)], [(.int .i64 x.tm.R)], [(.string x.name)], (idCells x.sub), [(slV x.hh x.heads)]] rfl ?_)
 intro b2 w3 hb4 hx5 H6
 refine O_v rfl (R_assign (v := (.bool false)) rfl ?_)
 refine O_nil (Then_n (W_seq (W_seq ?_)))
 refine W_rg [(0, .q 0), (1, .q 0), (2, .q 0), (3, .q 0), (4, .q 0), (5, .q 0), (6, .q 0), (7, .q 0), (8, .q 0), (9, .q 0), (10, .q 0), (11, .q 0), (12, .q 0), (13, .q 0), (14, .q 0), (15, .q 0), (16, .q 0), (17, .q 0), (18, .q 0), (19, .q 0), (20, .q 0), (21, .q 0), (22, .q 0), (23, .q 0), (24, .q 0), (25, .q 0), (26, .q 0), (27, .q 0), (28, .q 0), (29, .q 0)] (by kernel_rfl) ?_
 refine Lx_q (i := 0) rfl rfl _ (fun v7 hv8 => R_fieldAddr (off := 0) (oo := 0) Tryz.underlying77 rfl rfl Tryz.sizeOf69 rfl rfl ⟨rfl, Gr.refl _ _⟩) ?_
 refine Lx_q (i := 1) rfl rfl _ (fun v9 hv10 => R_loadA (cs := [[(.int .i64 x.node.T)], [(.int .i64 x.node.R)]]) Tryz.isAgg69 Tryz.sizeOf69 rfl rfl ((boxR_at ((H6.ext hv10).getOwn 0 rfl)).chunks 0 2 0 0 _ rfl rfl rfl) ⟨rfl, Gr.refl _ _⟩) ?_
 refine Lx_q (i := 2) rfl rfl (.bool (stRight x.node)) (fun v11 hv12 => R_callL (vs := [(aggOf (stampCh x.node))]) ref04_rightItem_c62 rfl rfl (ref03_Right x.node v11 )) ?_
 refine Lx_q (i := 3) rfl rfl _ (fun v13 hv14 => R_not rfl ⟨rfl, Gr.refl _ _⟩) ?_
 refine Lx_q (i := 4) rfl rfl _ (fun v15 hv16 => R_move (v := (.bool (!(stRight x.node)))) rfl ⟨rfl, Gr.refl _ _⟩) ?_
 refine Lx_qg (i := 5) true (!(stRight x.node)) rfl rfl rfl rfl rfl (!(!(stRight x.node))) ga_f _ (fun hA v17 hv18 => R_fieldAddr (off := 2) (oo := 2) Tryz.underlying77 rfl rfl Tryz.sizeOf69 rfl rfl ⟨rfl, Gr.refl _ _⟩) ?_
 refine Lx_qg (i := 6) true (!(stRight x.node)) rfl rfl rfl rfl rfl (!(!(stRight x.node))) ga_f _ (fun hA v19 hv20 => R_loadA (cs := [[(.int .i64 x.tm.T)], [(.int .i64 x.tm.R)]]) Tryz.isAgg69 Tryz.sizeOf69 rfl (gv_t hA) ((boxR_at ((H6.ext hv20).getOwn 0 rfl)).chunks 2 2 2 2 _ rfl rfl rfl) ⟨rfl, Gr.refl _ _⟩) ?_
 refine Lx_qg (i := 7) true (!(stRight x.node)) rfl rfl rfl rfl rfl (!(!(stRight x.node))) ga_f (.bool (stRight x.tm)) (fun hA v21 hv22 => R_callL (vs := [(aggOf (stampCh x.tm))]) ref04_rightItem_c62 rfl (lst1 (gv_t hA)) (ref03_Right x.tm v21 )) ?_
 refine Lx_qg (i := 8) true (!(stRight x.node)) rfl rfl rfl rfl rfl (!(!(stRight x.node))) ga_f _ (fun hA v23 hv24 => R_not (gv_t hA) ⟨rfl, Gr.refl _ _⟩) ?_
 refine Lx_q (i := 9) rfl rfl _ (fun v25 hv26 => R_pick (t := (!(stRight x.node))) (v := (.bool ((!(stRight x.node)) || (!(stRight x.tm))))) rfl pk_or ⟨rfl, Gr.refl _ _⟩) ?_
 refine Lx_q (i := 10) rfl rfl _ (fun v27 hv28 => R_move (v := (.bool ((!(stRight x.node)) || (!(stRight x.tm))))) rfl ⟨rfl, Gr.refl _ _⟩) ?_
 refine Lx_qg (i := 11) true ((!(stRight x.node)) || (!(stRight x.tm))) rfl rfl rfl rfl rfl (!((!(stRight x.node)) || (!(stRight x.tm)))) ga_f _ (fun hA v29 hv30 => R_fieldAddr (off := 2) (oo := 2) Tryz.underlying77 rfl rfl Tryz.sizeOf69 rfl rfl ⟨rfl, Gr.refl _ _⟩) ?_
 refine Lx_qg (i := 12) true ((!(stRight x.node)) || (!(stRight x.tm))) rfl rfl rfl rfl rfl (!((!(stRight x.node)) || (!(stRight x.tm)))) ga_f _ (fun hA v31 hv32 => R_loadA (cs := [[(.int .i64 x.tm.T)], [(.int .i64 x.tm.R)]]) Tryz.isAgg69 Tryz.sizeOf69 rfl (gv_t hA) ((boxR_at ((H6.ext hv32).getOwn 0 rfl)).chunks 2 2 2 2 _ rfl rfl rfl) ⟨rfl, Gr.refl _ _⟩) ?_
 refine Lx_qg (i := 13) true ((!(stRight x.node)) || (!(stRight x.tm))) rfl rfl rfl rfl rfl (!((!(stRight x.node)) || (!(stRight x.tm)))) ga_f _ (fun hA v33 hv34 => R_fieldAddr (off := 0) (oo := 0) Tryz.underlying77 rfl rfl Tryz.sizeOf69 rfl rfl ⟨rfl, Gr.refl _ _⟩) ?_
 refine Lx_qg (i := 14) true ((!(stRight x.node)) || (!(stRight x.tm))) rfl rfl rfl rfl rfl (!((!(stRight x.node)) || (!(stRight x.tm)))) ga_f _ (fun hA v35 hv36 => R_loadA (cs := [[(.int .i64 x.node.T)], [(.int .i64 x.node.R)]]) Tryz.isAgg69 Tryz.sizeOf69 rfl (gv_t hA) ((boxR_at ((H6.ext hv36).getOwn 0 rfl)).chunks 0 2 0 0 _ rfl rfl rfl) ⟨rfl, Gr.refl _ _⟩) ?_
 refine Lx_qg (i := 15) true ((!(stRight x.node)) || (!(stRight x.tm))) rfl rfl rfl rfl rfl (!((!(stRight x.node)) || (!(stRight x.tm)))) ga_f (.int .i64 (cmpSt x.tm x.node)) (fun hA v37 hv38 => R_callL (vs := [(aggOf (stampCh x.tm)), (aggOf (stampCh x.node))]) ref04_rightItem_c44 rfl (lst2 (gv_t hA) (gv_t hA)) (ref03_Cmp x.tm x.node v37 )) ?_
 refine Lx_qg (i := 16) true ((!(stRight x.node)) || (!(stRight x.tm))) rfl rfl rfl rfl rfl (!((!(stRight x.node)) || (!(stRight x.tm)))) ga_f _ (fun hA v39 hv40 => R_cmp (a := cmpSt x.tm x.node) (b := 0) (r := (decide (cmpSt x.tm x.node < 0))) (gv_t hA) rfl rfl ⟨rfl, Gr.refl _ _⟩) ?_
 refine Lx_q (i := 17) rfl rfl _ (fun v41 hv42 => R_pick (t := ((!(stRight x.node)) || (!(stRight x.tm)))) (v := (.bool (((!(stRight x.node)) || (!(stRight x.tm))) || (decide (cmpSt x.tm x.node < 0))))) rfl pk_or ⟨rfl, Gr.refl _ _⟩) ?_
 refine Lx_q (i := 18) rfl rfl _ (fun v43 hv44 => R_move (v := (.bool (((!(stRight x.node)) || (!(stRight x.tm))) || (decide (cmpSt x.tm x.node < 0))))) rfl ⟨rfl, Gr.refl _ _⟩) ?_
 refine Lx_qg (i := 19) true (((!(stRight x.node)) || (!(stRight x.tm))) || (decide (cmpSt x.tm x.node < 0))) rfl rfl rfl rfl rfl (!(((!(stRight x.node)) || (!(stRight x.tm))) || (decide (cmpSt x.tm x.node < 0)))) ga_f _ (fun hA v45 hv46 => R_fieldAddr (off := 4) (oo := 4) Tryz.underlying77 rfl rfl Tryz.sizeOf9 rfl rfl ⟨rfl, Gr.refl _ _⟩) ?_
 refine Lx_qg (i := 20) true (((!(stRight x.node)) || (!(stRight x.tm))) || (decide (cmpSt x.tm x.node < 0))) rfl rfl rfl rfl rfl (!(((!(stRight x.node)) || (!(stRight x.tm))) || (decide (cmpSt x.tm x.node < 0)))) ga_f _ (fun hA v47 hv48 => R_load1 (v := (.string x.name)) Tryz.isAgg9 (gv_t hA) ((boxR_at ((H6.ext hv48).getOwn 0 rfl)).chunks 4 1 4 4 _ rfl rfl rfl) ⟨rfl, Gr.refl _ _⟩) ?_
 refine Lx_qg (i := 21) true (((!(stRight x.node)) || (!(stRight x.tm))) || (decide (cmpSt x.tm x.node < 0))) rfl rfl rfl rfl rfl (!(((!(stRight x.node)) || (!(stRight x.tm))) || (decide (cmpSt x.tm x.node < 0)))) ga_f (.bool (nameOk x.name)) (fun hA v49 hv50 => by
      have hP : (((stRight x.node) = true ∧ (stRight x.tm) = true) ∧ ¬ (cmpSt x.tm x.node < 0)) := (And.imp (fun h => (And.imp (fun h => (notF h)) (fun h => (notF h)) (orF h))) (fun h => (of_decide_eq_false h)) (orF (notT hA)))
      exact R_callL (vs := [(.string x.name)]) ref04_rightItem_c71 rfl (lst1 (gv_t hA)) (ref03_Name x.name v49 (by omega))) ?_
 refine Lx_qg (i := 22) true (((!(stRight x.node)) || (!(stRight x.tm))) || (decide (cmpSt x.tm x.node < 0))) rfl rfl rfl rfl rfl (!(((!(stRight x.node)) || (!(stRight x.tm))) || (decide (cmpSt x.tm x.node < 0)))) ga_f _ (fun hA v51 hv52 => R_not (gv_t hA) ⟨rfl, Gr.refl _ _⟩) ?_
 refine Lx_q (i := 23) rfl rfl _ (fun v53 hv54 => R_pick (t := (((!(stRight x.node)) || (!(stRight x.tm))) || (decide (cmpSt x.tm x.node < 0)))) (v := (.bool ((((!(stRight x.node)) || (!(stRight x.tm))) || (decide (cmpSt x.tm x.node < 0))) || (!(nameOk x.name))))) rfl pk_or ⟨rfl, Gr.refl _ _⟩) ?_
 refine Lx_q (i := 24) rfl rfl _ (fun v55 hv56 => R_move (v := (.bool ((((!(stRight x.node)) || (!(stRight x.tm))) || (decide (cmpSt x.tm x.node < 0))) || (!(nameOk x.name))))) rfl ⟨rfl, Gr.refl _ _⟩) ?_
 refine Lx_qg (i := 25) true ((((!(stRight x.node)) || (!(stRight x.tm))) || (decide (cmpSt x.tm x.node < 0))) || (!(nameOk x.name))) rfl rfl rfl rfl rfl (!((((!(stRight x.node)) || (!(stRight x.tm))) || (decide (cmpSt x.tm x.node < 0))) || (!(nameOk x.name)))) ga_f _ (fun hA v57 hv58 => R_fieldAddr (off := 37) (oo := 37) Tryz.underlying77 rfl rfl Tryz.sizeOf75 rfl rfl ⟨rfl, Gr.refl _ _⟩) ?_
 refine Lx_qg (i := 26) true ((((!(stRight x.node)) || (!(stRight x.tm))) || (decide (cmpSt x.tm x.node < 0))) || (!(nameOk x.name))) rfl rfl rfl rfl rfl (!((((!(stRight x.node)) || (!(stRight x.tm))) || (decide (cmpSt x.tm x.node < 0))) || (!(nameOk x.name)))) ga_f _ (fun hA v59 hv60 => R_load1 (v := (slV x.hh x.heads)) Tryz.isAgg75 (gv_t hA) ((boxR_at ((H6.ext hv60).getOwn 0 rfl)).chunks 6 1 37 37 _ rfl rfl rfl) ⟨rfl, Gr.refl _ _⟩) ?_
 refine Lx_qg (i := 27) true ((((!(stRight x.node)) || (!(stRight x.tm))) || (decide (cmpSt x.tm x.node < 0))) || (!(nameOk x.name))) rfl rfl rfl rfl rfl (!((((!(stRight x.node)) || (!(stRight x.tm))) || (decide (cmpSt x.tm x.node < 0))) || (!(nameOk x.name)))) ga_f _ (fun hA v61 hv62 => R_len_slice (a := x.hh.a) (n := x.heads.length) (c := x.hh.c) Tryz.underlying75 (gv_t hA) ⟨rfl, Gr.refl _ _⟩) ?_
 refine Lx_qg (i := 28) true ((((!(stRight x.node)) || (!(stRight x.tm))) || (decide (cmpSt x.tm x.node < 0))) || (!(nameOk x.name))) rfl rfl rfl rfl rfl (!((((!(stRight x.node)) || (!(stRight x.tm))) || (decide (cmpSt x.tm x.node < 0))) || (!(nameOk x.name)))) ga_f _ (fun hA v63 hv64 => R_cmp (a := ((x.heads.length : Nat) : Int)) (b := 1000) (r := (decide (1000 < ((x.heads.length : Nat) : Int)))) (gv_t hA) rfl rfl ⟨rfl, Gr.refl _ _⟩) ?_
 refine Lx_q (i := 29) rfl rfl _ (fun v65 hv66 => R_pick (t := ((((!(stRight x.node)) || (!(stRight x.tm))) || (decide (cmpSt x.tm x.node < 0))) || (!(nameOk x.name)))) (v := (.bool (((((!(stRight x.node)) || (!(stRight x.tm))) || (decide (cmpSt x.tm x.node < 0))) || (!(nameOk x.name))) || (decide (1000 < ((x.heads.length : Nat) : Int)))))) rfl pk_or ⟨rfl, Gr.refl _ _⟩) ?_
 refine Lx_nil (fun w67 hw68 => ?_)
 have H69 := H6.ext hw68
 refine Then_n ?_
 refine W_cond (t := (((((!(stRight x.node)) || (!(stRight x.tm))) || (decide (cmpSt x.tm x.node < 0))) || (!(nameOk x.name))) || (decide (1000 < ((x.heads.length : Nat) : Int))))) rfl (fun hc70 => ?_) (fun hc70 => ?_)
 ·have hc70 : (((((stRight x.node) = false ∨ (stRight x.tm) = false) ∨ (cmpSt x.tm x.node < 0)) ∨ (nameOk x.name) = false) ∨ (1000 < ((x.heads.length : Nat) : Int))) := (Or.imp (fun h => (Or.imp (fun h => (Or.imp (fun h => (Or.imp (fun h => (notT h)) (fun h => (notT h)) (orT h))) (fun h => (of_decide_eq_true h)) (orT h))) (fun h => (notT h)) (orT h))) (fun h => (of_decide_eq_true h)) (orT hc70))
  refine W_seq (W_reg ?_)
  refine O_v rfl (R_assign (v := (.bool false)) rfl ?_)
  refine O_nil (Then_n (W_ret (Then_r ?_)))
  refine ret_1 (v := (.bool false)) Tryz.results43 rfl ?_
  exact ⟨(itemOk_f1 (by assumption)), H69.gr⟩
 ·have hc70 : (((((stRight x.node) = true ∧ (stRight x.tm) = true) ∧ ¬ (cmpSt x.tm x.node < 0)) ∧ (nameOk x.name) = true) ∧ ¬ (1000 < ((x.heads.length : Nat) : Int))) := (And.imp (fun h => (And.imp (fun h => (And.imp (fun h => (And.imp (fun h => (notF h)) (fun h => (notF h)) (orF h))) (fun h => (of_decide_eq_false h)) (orF h))) (fun h => (notF h)) (orF h))) (fun h => (of_decide_eq_false h)) (orF hc70))
  refine W_skip (Then_n (W_seq (W_seq (W_reg ?_))))
  refine O_v rfl (R_assign (v := (.int .i64 0)) rfl ?_)
  refine O_nil (Then_n (W_block ?_))
  refine W_loop (fun m71 e72 w73 => ∃ (k : Nat), m71 = x.heads.length - k ∧ (k ≤ x.heads.length) ∧ (∀ i, i < k → itemHeadOk x.node x.heads i) ∧ ∃ eb74, e72 = envL [(1, (.pointer (some ⟨b2, 0, none⟩))), (3, (.int .i64 ((k : Nat) : Int)))] eb74 ∧ Ctx w nob w73 [boxR b2 77 [[(.int .i64 x.node.T)], [(.int .i64 x.node.R)], [(.int .i64 x.tm.T)], [(.int .i64 x.tm.R)], [(.string x.name)], (idCells x.sub), [(slV x.hh x.heads)]]] [slI (Old w) headCh 34 x.hh x.heads]) _ ⟨0, rfl, (by omega), (all_zero _), _, envL_self ⟨rfl, rfl, trivial⟩, H69⟩ ?_
  rintro m71 _ w73 ⟨k, rfl, hk, hn, eb74, rfl, H75⟩
  refine W_seq (W_seq (W_reg ?_))
  refine O_v rfl (R_move (v := (.int .i64 ((k : Nat) : Int))) rfl ?_)
  refine O_v rfl (R_fieldAddr (off := 37) (oo := 37) Tryz.underlying77 rfl rfl Tryz.sizeOf75 rfl rfl ?_)
  refine O_v rfl (R_load1 (v := (slV x.hh x.heads)) Tryz.isAgg75 rfl ((boxR_at (H75.getOwn 0 rfl)).chunks 6 1 37 37 _ rfl rfl rfl) ?_)
  refine O_v rfl (R_len_slice (a := x.hh.a) (n := x.heads.length) (c := x.hh.c) Tryz.underlying75 rfl ?_)
  refine O_v rfl (R_cmp (a := ((k : Nat) : Int)) (b := ((x.heads.length : Nat) : Int)) (r := (decide (((k : Nat) : Int) < ((x.heads.length : Nat) : Int)))) rfl rfl rfl ?_)
  refine O_nil (Then_n ?_)
  refine W_cond (t := (decide (((k : Nat) : Int) < ((x.heads.length : Nat) : Int)))) rfl (fun hc76 => ?_) (fun hc76 => ?_)
  ·have hc76 : (((k : Nat) : Int) < ((x.heads.length : Nat) : Int)) := (of_decide_eq_true hc76)
   refine W_skip (Then_n (W_seq (W_block (W_seq (W_reg ?_)))))
   refine O_v rfl (R_fieldAddr (off := 37) (oo := 37) Tryz.underlying77 rfl rfl Tryz.sizeOf75 rfl rfl ?_)
   refine O_v rfl (R_load1 (v := (slV x.hh x.heads)) Tryz.isAgg75 rfl ((boxR_at (H75.getOwn 0 rfl)).chunks 6 1 37 37 _ rfl rfl rfl) ?_)
   refine O_v rfl (R_move (v := (.int .i64 ((k : Nat) : Int))) rfl ?_)
   refine O_v rfl (R_index_pure (H75.sl 0 rfl) (n := x.heads.length) rfl (j := ((k : Nat) : Int)) (oo := (x.hh.o + k * 34)) Tryz.underlying75 Tryz.sizeOf84 rfl rfl (by omega) (by omega) rfl ?_)
   refine O_v rfl (R_loadA (cs := [[(.int .i64 (((nth x.heads k).tm).T))], [(.int .i64 (((nth x.heads k).tm).R))], (idCells ((nth x.heads k).data))]) Tryz.isAgg84 Tryz.sizeOf84 rfl rfl ((Sl.elem (H75.sl 0 rfl) (i := k) (by omega) rfl).chunks 0 3 0 (x.hh.o + k * 34) _ rfl rfl rfl) ?_)
   refine O_v rfl (C_alloc H75 [[(.int .i64 0)], [(.int .i64 0)], (idCells zeroId)] Tryz.zeroValue84 ?_)
   intro b77 w78 hb79 hx80 H81
   refine O_u (C_storeA H81 0 rfl 0 (sub := [[(.int .i64 (((nth x.heads k).tm).T))], [(.int .i64 (((nth x.heads k).tm).R))], (idCells ((nth x.heads k).data))]) [[(.int .i64 (((nth x.heads k).tm).T))], [(.int .i64 (((nth x.heads k).tm).R))], (idCells ((nth x.heads k).data))] Tryz.sizeOf84 rfl rfl rfl rfl ⟨[[(.int .i64 0)], [(.int .i64 0)], (idCells zeroId)], [], rfl, rfl, rfl⟩ rfl ?_)
   intro w82 hg83 H84
   refine O_nil (Then_n (W_seq ?_))
   refine W_rgd TryzMixed [(0, .q 0), (1, .q 0), (2, .q 0), (3, .q 0), (4, .q 0), (5, .q 0), (6, .q 0), (7, .q 0), (8, .q 0), (9, .q 0), (10, .q 0), (11, .q 0), (12, .q 0), (13, .q 0), (14, .q 0), (15, .q 0), (16, .q 0), (17, .q 0), (18, .q 0), (19, .q 0), (20, .q 0), (21, .q 0), (22, .q 0), (23, .q 0), (24, .q 0), (25, .q 0), (26, .q 0), (27, .q 0), (28, .q 0), (29, .q 0), (30, .q 0), (31, .q 0), (32, .q 0), (33, .q 0)] (by kernel_rfl) ?_
   refine Lx_q (i := 0) rfl rfl _ (fun v85 hv86 => R_fieldAddr (off := 0) (oo := 0) Tryz.underlying84 rfl rfl Tryz.sizeOf69 rfl rfl ⟨rfl, Gr.refl _ _⟩) ?_
   refine Lx_q (i := 1) rfl rfl _ (fun v87 hv88 => R_loadA (cs := [[(.int .i64 (((nth x.heads k).tm).T))], [(.int .i64 (((nth x.heads k).tm).R))]]) Tryz.isAgg69 Tryz.sizeOf69 rfl rfl ((boxR_at ((H84.ext hv88).getOwn 0 rfl)).chunks 0 2 0 0 _ rfl rfl rfl) ⟨rfl, Gr.refl _ _⟩) ?_
   refine Lx_q (i := 2) rfl rfl (.bool (stRight ((nth x.heads k).tm))) (fun v89 hv90 => R_callL (vs := [(aggOf (stampCh ((nth x.heads k).tm)))]) ref04_rightItem_c62 rfl rfl (ref03_Right ((nth x.heads k).tm) v89 )) ?_
   refine Lx_q (i := 3) rfl rfl _ (fun v91 hv92 => R_not rfl ⟨rfl, Gr.refl _ _⟩) ?_
   refine Lx_q (i := 4) rfl rfl _ (fun v93 hv94 => R_move (v := (.bool (!(stRight ((nth x.heads k).tm))))) rfl ⟨rfl, Gr.refl _ _⟩) ?_
   refine Lx_qg (i := 5) true (!(stRight ((nth x.heads k).tm))) rfl rfl rfl rfl rfl (!(!(stRight ((nth x.heads k).tm)))) ga_f _ (fun hA v95 hv96 => R_fieldAddr (off := 0) (oo := 0) Tryz.underlying84 rfl rfl Tryz.sizeOf69 rfl rfl ⟨rfl, Gr.refl _ _⟩) ?_
   refine Lx_qg (i := 6) true (!(stRight ((nth x.heads k).tm))) rfl rfl rfl rfl rfl (!(!(stRight ((nth x.heads k).tm)))) ga_f _ (fun hA v97 hv98 => R_loadA (cs := [[(.int .i64 (((nth x.heads k).tm).T))], [(.int .i64 (((nth x.heads k).tm).R))]]) Tryz.isAgg69 Tryz.sizeOf69 rfl (gv_t hA) ((boxR_at ((H84.ext hv98).getOwn 0 rfl)).chunks 0 2 0 0 _ rfl rfl rfl) ⟨rfl, Gr.refl _ _⟩) ?_
   refine Lx_qg (i := 7) true (!(stRight ((nth x.heads k).tm))) rfl rfl rfl rfl rfl (!(!(stRight ((nth x.heads k).tm)))) ga_f _ (fun hA v99 hv100 => R_fieldAddr (off := 0) (oo := 0) Tryz.underlying77 rfl rfl Tryz.sizeOf69 rfl rfl ⟨rfl, Gr.refl _ _⟩) ?_
   refine Lx_qg (i := 8) true (!(stRight ((nth x.heads k).tm))) rfl rfl rfl rfl rfl (!(!(stRight ((nth x.heads k).tm)))) ga_f _ (fun hA v101 hv102 => R_loadA (cs := [[(.int .i64 x.node.T)], [(.int .i64 x.node.R)]]) Tryz.isAgg69 Tryz.sizeOf69 rfl (gv_t hA) ((boxR_at ((H84.ext hv102).getOwn 1 rfl)).chunks 0 2 0 0 _ rfl rfl rfl) ⟨rfl, Gr.refl _ _⟩) ?_
   refine Lx_qg (i := 9) true (!(stRight ((nth x.heads k).tm))) rfl rfl rfl rfl rfl (!(!(stRight ((nth x.heads k).tm)))) ga_f (.int .i64 (cmpSt ((nth x.heads k).tm) x.node)) (fun hA v103 hv104 => R_callL (vs := [(aggOf (stampCh ((nth x.heads k).tm))), (aggOf (stampCh x.node))]) ref04_rightItem_c44 rfl (lst2 (gv_t hA) (gv_t hA)) (ref03_Cmp ((nth x.heads k).tm) x.node v103 )) ?_
   refine Lx_qg (i := 10) true (!(stRight ((nth x.heads k).tm))) rfl rfl rfl rfl rfl (!(!(stRight ((nth x.heads k).tm)))) ga_f _ (fun hA v105 hv106 => R_cmp (a := cmpSt ((nth x.heads k).tm) x.node) (b := 1) (r := (!(decide (cmpSt ((nth x.heads k).tm) x.node = 1)))) (gv_t hA) rfl rfl ⟨rfl, Gr.refl _ _⟩) ?_
   refine Lx_q (i := 11) rfl rfl _ (fun v107 hv108 => R_pick (t := (!(stRight ((nth x.heads k).tm)))) (v := (.bool ((!(stRight ((nth x.heads k).tm))) || (!(decide (cmpSt ((nth x.heads k).tm) x.node = 1)))))) rfl pk_or ⟨rfl, Gr.refl _ _⟩) ?_
   refine Lx_q (i := 12) rfl rfl _ (fun v109 hv110 => R_move (v := (.bool ((!(stRight ((nth x.heads k).tm))) || (!(decide (cmpSt ((nth x.heads k).tm) x.node = 1)))))) rfl ⟨rfl, Gr.refl _ _⟩) ?_
   refine Lx_qg (i := 13) true ((!(stRight ((nth x.heads k).tm))) || (!(decide (cmpSt ((nth x.heads k).tm) x.node = 1)))) rfl rfl rfl rfl rfl (!((!(stRight ((nth x.heads k).tm))) || (!(decide (cmpSt ((nth x.heads k).tm) x.node = 1))))) ga_f _ (fun hA v111 hv112 => R_fieldAddr (off := 2) (oo := 2) Tryz.underlying84 rfl rfl Tryz.sizeOf45 rfl rfl ⟨rfl, Gr.refl _ _⟩) ?_
   refine Lx_qg (i := 14) true ((!(stRight ((nth x.heads k).tm))) || (!(decide (cmpSt ((nth x.heads k).tm) x.node = 1)))) rfl rfl rfl rfl rfl (!((!(stRight ((nth x.heads k).tm))) || (!(decide (cmpSt ((nth x.heads k).tm) x.node = 1))))) ga_f _ (fun hA v113 hv114 => R_loadA (cs := [(idCells ((nth x.heads k).data))]) Tryz.isAgg45 Tryz.sizeOf45 rfl (gv_t hA) ((boxR_at ((H84.ext hv114).getOwn 0 rfl)).chunks 2 1 2 2 _ rfl rfl rfl) ⟨rfl, Gr.refl _ _⟩) ?_
   refine Lx_qg (i := 15) true ((!(stRight ((nth x.heads k).tm))) || (!(decide (cmpSt ((nth x.heads k).tm) x.node = 1)))) rfl rfl rfl rfl rfl (!((!(stRight ((nth x.heads k).tm))) || (!(decide (cmpSt ((nth x.heads k).tm) x.node = 1))))) ga_f (.bool (decide (((nth x.heads k).data) = zeroId))) (fun hA v115 hv116 => R_callL (vs := [(aggOf (idCh ((nth x.heads k).data)))]) ref04_rightItem_c60 rfl (lst1 (gv_t hA)) (ref04_zero ((nth x.heads k).data) v115 )) ?_
   refine Lx_q (i := 16) rfl rfl _ (fun v117 hv118 => R_pick (t := ((!(stRight ((nth x.heads k).tm))) || (!(decide (cmpSt ((nth x.heads k).tm) x.node = 1))))) (v := (.bool (((!(stRight ((nth x.heads k).tm))) || (!(decide (cmpSt ((nth x.heads k).tm) x.node = 1)))) || (decide (((nth x.heads k).data) = zeroId))))) rfl pk_or ⟨rfl, Gr.refl _ _⟩) ?_
   refine Lx_q (i := 17) rfl rfl _ (fun v119 hv120 => R_move (v := (.bool (((!(stRight ((nth x.heads k).tm))) || (!(decide (cmpSt ((nth x.heads k).tm) x.node = 1)))) || (decide (((nth x.heads k).data) = zeroId))))) rfl ⟨rfl, Gr.refl _ _⟩) ?_
   refine Lx_qg (i := 18) true (((!(stRight ((nth x.heads k).tm))) || (!(decide (cmpSt ((nth x.heads k).tm) x.node = 1)))) || (decide (((nth x.heads k).data) = zeroId))) rfl rfl rfl rfl rfl (!(((!(stRight ((nth x.heads k).tm))) || (!(decide (cmpSt ((nth x.heads k).tm) x.node = 1)))) || (decide (((nth x.heads k).data) = zeroId)))) ga_f _ (fun hA v121 hv122 => R_move (v := (.int .i64 ((k : Nat) : Int))) rfl ⟨rfl, Gr.refl _ _⟩) ?_
   refine Lx_qg (i := 19) true (((!(stRight ((nth x.heads k).tm))) || (!(decide (cmpSt ((nth x.heads k).tm) x.node = 1)))) || (decide (((nth x.heads k).data) = zeroId))) rfl rfl rfl rfl rfl (!(((!(stRight ((nth x.heads k).tm))) || (!(decide (cmpSt ((nth x.heads k).tm) x.node = 1)))) || (decide (((nth x.heads k).data) = zeroId)))) ga_f _ (fun hA v123 hv124 => R_cmp (a := ((k : Nat) : Int)) (b := 0) (r := (decide (0 < ((k : Nat) : Int)))) (gv_t hA) rfl rfl ⟨rfl, Gr.refl _ _⟩) ?_
   refine Lx_qg (i := 20) true (((!(stRight ((nth x.heads k).tm))) || (!(decide (cmpSt ((nth x.heads k).tm) x.node = 1)))) || (decide (((nth x.heads k).data) = zeroId))) rfl rfl rfl rfl rfl (!(((!(stRight ((nth x.heads k).tm))) || (!(decide (cmpSt ((nth x.heads k).tm) x.node = 1)))) || (decide (((nth x.heads k).data) = zeroId)))) ga_f _ (fun hA v125 hv126 => R_move (v := (.bool (decide (0 < ((k : Nat) : Int))))) (gv_t hA) ⟨rfl, Gr.refl _ _⟩) ?_
   refine Lx_qg (i := 21) (!(((!(stRight ((nth x.heads k).tm))) || (!(decide (cmpSt ((nth x.heads k).tm) x.node = 1)))) || (decide (((nth x.heads k).data) = zeroId)))) (decide (0 < ((k : Nat) : Int))) rfl rfl rfl rfl rfl ((!(((!(stRight ((nth x.heads k).tm))) || (!(decide (cmpSt ((nth x.heads k).tm) x.node = 1)))) || (decide (((nth x.heads k).data) = zeroId)))) && (decide (0 < ((k : Nat) : Int)))) gb_t _ (fun hA v127 hv128 => R_fieldAddr (off := 37) (oo := 37) Tryz.underlying77 rfl rfl Tryz.sizeOf75 rfl rfl ⟨rfl, Gr.refl _ _⟩) ?_
   refine Lx_qg (i := 22) (!(((!(stRight ((nth x.heads k).tm))) || (!(decide (cmpSt ((nth x.heads k).tm) x.node = 1)))) || (decide (((nth x.heads k).data) = zeroId)))) (decide (0 < ((k : Nat) : Int))) rfl rfl rfl rfl rfl ((!(((!(stRight ((nth x.heads k).tm))) || (!(decide (cmpSt ((nth x.heads k).tm) x.node = 1)))) || (decide (((nth x.heads k).data) = zeroId)))) && (decide (0 < ((k : Nat) : Int)))) gb_t _ (fun hA v129 hv130 => R_load1 (v := (slV x.hh x.heads)) Tryz.isAgg75 (gv_t hA) ((boxR_at ((H84.ext hv130).getOwn 1 rfl)).chunks 6 1 37 37 _ rfl rfl rfl) ⟨rfl, Gr.refl _ _⟩) ?_
   refine Lx_qg (i := 23) (!(((!(stRight ((nth x.heads k).tm))) || (!(decide (cmpSt ((nth x.heads k).tm) x.node = 1)))) || (decide (((nth x.heads k).data) = zeroId)))) (decide (0 < ((k : Nat) : Int))) rfl rfl rfl rfl rfl ((!(((!(stRight ((nth x.heads k).tm))) || (!(decide (cmpSt ((nth x.heads k).tm) x.node = 1)))) || (decide (((nth x.heads k).data) = zeroId)))) && (decide (0 < ((k : Nat) : Int)))) gb_t _ (fun hA v131 hv132 => R_move (v := (.int .i64 ((k : Nat) : Int))) rfl ⟨rfl, Gr.refl _ _⟩) ?_
   refine Lx_qg (i := 24) (!(((!(stRight ((nth x.heads k).tm))) || (!(decide (cmpSt ((nth x.heads k).tm) x.node = 1)))) || (decide (((nth x.heads k).data) = zeroId)))) (decide (0 < ((k : Nat) : Int))) rfl rfl rfl rfl rfl ((!(((!(stRight ((nth x.heads k).tm))) || (!(decide (cmpSt ((nth x.heads k).tm) x.node = 1)))) || (decide (((nth x.heads k).data) = zeroId)))) && (decide (0 < ((k : Nat) : Int)))) gb_t _ (fun hA v133 hv134 => by
          have hP : ((((stRight ((nth x.heads k).tm)) = true ∧ (cmpSt ((nth x.heads k).tm) x.node = 1)) ∧ ¬ (((nth x.heads k).data) = zeroId)) ∧ (0 < ((k : Nat) : Int))) := (And.imp (fun h => (And.imp (fun h => (And.imp (fun h => (notF h)) (fun h => (of_decide_eq_true (notF h))) (orF h))) (fun h => (of_decide_eq_false h)) (orF (notT h)))) (fun h => (of_decide_eq_true h)) (andT hA))
          exact R_arith (a := ((k : Nat) : Int)) (b := 1) (r0 := ((k : Nat) : Int) - 1) (r := ((k - 1 : Nat) : Int)) (gv_t hA) rfl rfl (wrapP _ (by omega) (by omega)) ⟨rfl, Gr.refl _ _⟩) ?_
   refine Lx_qg (i := 25) (!(((!(stRight ((nth x.heads k).tm))) || (!(decide (cmpSt ((nth x.heads k).tm) x.node = 1)))) || (decide (((nth x.heads k).data) = zeroId)))) (decide (0 < ((k : Nat) : Int))) rfl rfl rfl rfl rfl ((!(((!(stRight ((nth x.heads k).tm))) || (!(decide (cmpSt ((nth x.heads k).tm) x.node = 1)))) || (decide (((nth x.heads k).data) = zeroId)))) && (decide (0 < ((k : Nat) : Int)))) gb_t _ (fun hA v135 hv136 => by
          have hP : ((((stRight ((nth x.heads k).tm)) = true ∧ (cmpSt ((nth x.heads k).tm) x.node = 1)) ∧ ¬ (((nth x.heads k).data) = zeroId)) ∧ (0 < ((k : Nat) : Int))) := (And.imp (fun h => (And.imp (fun h => (And.imp (fun h => (notF h)) (fun h => (of_decide_eq_true (notF h))) (orF h))) (fun h => (of_decide_eq_false h)) (orF (notT h)))) (fun h => (of_decide_eq_true h)) (andT hA))
          exact R_index_pure (H84.sl 0 rfl) (n := x.heads.length) rfl (j := ((k - 1 : Nat) : Int)) (oo := (x.hh.o + (k - 1) * 34)) Tryz.underlying75 Tryz.sizeOf84 (gv_t hA) (gv_t hA) (by omega) (by omega) rfl ⟨rfl, Gr.refl _ _⟩) ?_
   refine Lx_qg (i := 26) (!(((!(stRight ((nth x.heads k).tm))) || (!(decide (cmpSt ((nth x.heads k).tm) x.node = 1)))) || (decide (((nth x.heads k).data) = zeroId)))) (decide (0 < ((k : Nat) : Int))) rfl rfl rfl rfl rfl ((!(((!(stRight ((nth x.heads k).tm))) || (!(decide (cmpSt ((nth x.heads k).tm) x.node = 1)))) || (decide (((nth x.heads k).data) = zeroId)))) && (decide (0 < ((k : Nat) : Int)))) gb_t _ (fun hA v137 hv138 => R_fieldAddr (off := 0) (oo := (x.hh.o + (k - 1) * 34)) Tryz.underlying84 rfl rfl Tryz.sizeOf69 (gv_t hA) rfl ⟨rfl, Gr.refl _ _⟩) ?_
   refine Lx_qg (i := 27) (!(((!(stRight ((nth x.heads k).tm))) || (!(decide (cmpSt ((nth x.heads k).tm) x.node = 1)))) || (decide (((nth x.heads k).data) = zeroId)))) (decide (0 < ((k : Nat) : Int))) rfl rfl rfl rfl rfl ((!(((!(stRight ((nth x.heads k).tm))) || (!(decide (cmpSt ((nth x.heads k).tm) x.node = 1)))) || (decide (((nth x.heads k).data) = zeroId)))) && (decide (0 < ((k : Nat) : Int)))) gb_t _ (fun hA v139 hv140 => by
          have hP : ((((stRight ((nth x.heads k).tm)) = true ∧ (cmpSt ((nth x.heads k).tm) x.node = 1)) ∧ ¬ (((nth x.heads k).data) = zeroId)) ∧ (0 < ((k : Nat) : Int))) := (And.imp (fun h => (And.imp (fun h => (And.imp (fun h => (notF h)) (fun h => (of_decide_eq_true (notF h))) (orF h))) (fun h => (of_decide_eq_false h)) (orF (notT h)))) (fun h => (of_decide_eq_true h)) (andT hA))
          exact R_loadA (cs := [[(.int .i64 (((nth x.heads (k - 1)).tm).T))], [(.int .i64 (((nth x.heads (k - 1)).tm).R))]]) Tryz.isAgg69 Tryz.sizeOf69 rfl (gv_t hA) ((Sl.elem ((H84.ext hv140).sl 0 rfl) (i := (k - 1)) (by omega) rfl).chunks 0 2 0 (x.hh.o + (k - 1) * 34) _ rfl rfl rfl) ⟨rfl, Gr.refl _ _⟩) ?_
   refine Lx_qg (i := 28) (!(((!(stRight ((nth x.heads k).tm))) || (!(decide (cmpSt ((nth x.heads k).tm) x.node = 1)))) || (decide (((nth x.heads k).data) = zeroId)))) (decide (0 < ((k : Nat) : Int))) rfl rfl rfl rfl rfl ((!(((!(stRight ((nth x.heads k).tm))) || (!(decide (cmpSt ((nth x.heads k).tm) x.node = 1)))) || (decide (((nth x.heads k).data) = zeroId)))) && (decide (0 < ((k : Nat) : Int)))) gb_t _ (fun hA v141 hv142 => R_fieldAddr (off := 0) (oo := 0) Tryz.underlying84 rfl rfl Tryz.sizeOf69 rfl rfl ⟨rfl, Gr.refl _ _⟩) ?_
   refine Lx_qg (i := 29) (!(((!(stRight ((nth x.heads k).tm))) || (!(decide (cmpSt ((nth x.heads k).tm) x.node = 1)))) || (decide (((nth x.heads k).data) = zeroId)))) (decide (0 < ((k : Nat) : Int))) rfl rfl rfl rfl rfl ((!(((!(stRight ((nth x.heads k).tm))) || (!(decide (cmpSt ((nth x.heads k).tm) x.node = 1)))) || (decide (((nth x.heads k).data) = zeroId)))) && (decide (0 < ((k : Nat) : Int)))) gb_t _ (fun hA v143 hv144 => R_loadA (cs := [[(.int .i64 (((nth x.heads k).tm).T))], [(.int .i64 (((nth x.heads k).tm).R))]]) Tryz.isAgg69 Tryz.sizeOf69 rfl (gv_t hA) ((boxR_at ((H84.ext hv144).getOwn 0 rfl)).chunks 0 2 0 0 _ rfl rfl rfl) ⟨rfl, Gr.refl _ _⟩) ?_
   refine Lx_qg (i := 30) (!(((!(stRight ((nth x.heads k).tm))) || (!(decide (cmpSt ((nth x.heads k).tm) x.node = 1)))) || (decide (((nth x.heads k).data) = zeroId)))) (decide (0 < ((k : Nat) : Int))) rfl rfl rfl rfl rfl ((!(((!(stRight ((nth x.heads k).tm))) || (!(decide (cmpSt ((nth x.heads k).tm) x.node = 1)))) || (decide (((nth x.heads k).data) = zeroId)))) && (decide (0 < ((k : Nat) : Int)))) gb_t (.int .i64 (cmpSt ((nth x.heads (k - 1)).tm) ((nth x.heads k).tm))) (fun hA v145 hv146 => R_callL (vs := [(aggOf (stampCh ((nth x.heads (k - 1)).tm))), (aggOf (stampCh ((nth x.heads k).tm)))]) ref04_rightItem_c44 rfl (lst2 (gv_t hA) (gv_t hA)) (ref03_Cmp ((nth x.heads (k - 1)).tm) ((nth x.heads k).tm) v145 )) ?_
   refine Lx_qg (i := 31) (!(((!(stRight ((nth x.heads k).tm))) || (!(decide (cmpSt ((nth x.heads k).tm) x.node = 1)))) || (decide (((nth x.heads k).data) = zeroId)))) (decide (0 < ((k : Nat) : Int))) rfl rfl rfl rfl rfl ((!(((!(stRight ((nth x.heads k).tm))) || (!(decide (cmpSt ((nth x.heads k).tm) x.node = 1)))) || (decide (((nth x.heads k).data) = zeroId)))) && (decide (0 < ((k : Nat) : Int)))) gb_t _ (fun hA v147 hv148 => R_cmp (a := cmpSt ((nth x.heads (k - 1)).tm) ((nth x.heads k).tm)) (b := (-1)) (r := (!(decide (cmpSt ((nth x.heads (k - 1)).tm) ((nth x.heads k).tm) = (-1))))) (gv_t hA) rfl rfl ⟨rfl, Gr.refl _ _⟩) ?_
   refine Lx_qg (i := 32) true (((!(stRight ((nth x.heads k).tm))) || (!(decide (cmpSt ((nth x.heads k).tm) x.node = 1)))) || (decide (((nth x.heads k).data) = zeroId))) rfl rfl rfl rfl rfl (!(((!(stRight ((nth x.heads k).tm))) || (!(decide (cmpSt ((nth x.heads k).tm) x.node = 1)))) || (decide (((nth x.heads k).data) = zeroId)))) ga_f _ (fun hA v149 hv150 => R_pick (t := (decide (0 < ((k : Nat) : Int)))) (v := (.bool ((decide (0 < ((k : Nat) : Int))) && (!(decide (cmpSt ((nth x.heads (k - 1)).tm) ((nth x.heads k).tm) = (-1))))))) (gv_t hA) (pk_andA hA) ⟨rfl, Gr.refl _ _⟩) ?_
   refine Lx_q (i := 33) rfl rfl _ (fun v151 hv152 => R_pick (t := (((!(stRight ((nth x.heads k).tm))) || (!(decide (cmpSt ((nth x.heads k).tm) x.node = 1)))) || (decide (((nth x.heads k).data) = zeroId)))) (v := (.bool ((((!(stRight ((nth x.heads k).tm))) || (!(decide (cmpSt ((nth x.heads k).tm) x.node = 1)))) || (decide (((nth x.heads k).data) = zeroId))) || ((decide (0 < ((k : Nat) : Int))) && (!(decide (cmpSt ((nth x.heads (k - 1)).tm) ((nth x.heads k).tm) = (-1)))))))) rfl pk_or ⟨rfl, Gr.refl _ _⟩) ?_
   refine Lx_nil (fun w153 hw154 => ?_)
   have H155 := H84.ext hw154
   refine Then_n ?_
   refine W_cond (t := ((((!(stRight ((nth x.heads k).tm))) || (!(decide (cmpSt ((nth x.heads k).tm) x.node = 1)))) || (decide (((nth x.heads k).data) = zeroId))) || ((decide (0 < ((k : Nat) : Int))) && (!(decide (cmpSt ((nth x.heads (k - 1)).tm) ((nth x.heads k).tm) = (-1))))))) rfl (fun hc156 => ?_) (fun hc156 => ?_)
   ·have hc156 : ((((stRight ((nth x.heads k).tm)) = false ∨ ¬ (cmpSt ((nth x.heads k).tm) x.node = 1)) ∨ (((nth x.heads k).data) = zeroId)) ∨ ((0 < ((k : Nat) : Int)) ∧ ¬ (cmpSt ((nth x.heads (k - 1)).tm) ((nth x.heads k).tm) = (-1)))) := (Or.imp (fun h => (Or.imp (fun h => (Or.imp (fun h => (notT h)) (fun h => (of_decide_eq_false (notT h))) (orT h))) (fun h => (of_decide_eq_true h)) (orT h))) (fun h => (And.imp (fun h => (of_decide_eq_true h)) (fun h => (of_decide_eq_false (notT h))) (andT h))) (orT hc156))
    refine W_seq (W_reg ?_)
    refine O_v rfl (R_assign (v := (.bool false)) rfl ?_)
    refine O_nil (Then_n (W_ret (Blk_r (Then_r (Then_r (Blk_r (Then_r ?_)))))))
    refine ret_1 (v := (.bool false)) Tryz.results43 rfl ?_
    exact ⟨(itemOk_f2 (k := k) (by omega) (by assumption)), H155.gr⟩
   ·have hc156 : ((((stRight ((nth x.heads k).tm)) = true ∧ (cmpSt ((nth x.heads k).tm) x.node = 1)) ∧ ¬ (((nth x.heads k).data) = zeroId)) ∧ (¬ (0 < ((k : Nat) : Int)) ∨ (cmpSt ((nth x.heads (k - 1)).tm) ((nth x.heads k).tm) = (-1)))) := (And.imp (fun h => (And.imp (fun h => (And.imp (fun h => (notF h)) (fun h => (of_decide_eq_true (notF h))) (orF h))) (fun h => (of_decide_eq_false h)) (orF h))) (fun h => (Or.imp (fun h => (of_decide_eq_false h)) (fun h => (of_decide_eq_true (notF h))) (andF h))) (orF hc156))
    refine W_skip (Blk_n (Then_n (W_reg ?_)))
    refine O_v rfl (R_move (v := (.int .i64 ((k : Nat) : Int))) rfl ?_)
    refine O_v rfl (R_arith (a := ((k : Nat) : Int)) (b := 1) (r0 := ((k : Nat) : Int) + 1) (r := ((k + 1 : Nat) : Int)) rfl rfl rfl (wrapN _ (by omega)) ?_)
    refine O_v rfl (R_assign (v := (.int .i64 ((k + 1 : Nat) : Int))) rfl ?_)
    refine O_nil (Then_n ?_)
    have H157 := H155.sub (B' := [boxR b2 77 [[(.int .i64 x.node.T)], [(.int .i64 x.node.R)], [(.int .i64 x.tm.T)], [(.int .i64 x.tm.R)], [(.string x.name)], (idCells x.sub), [(slV x.hh x.heads)]]]) (I' := [slI (Old w) headCh 34 x.hh x.heads]) (List.Sublist.cons _ (List.Sublist.cons_cons _ List.Sublist.slnil)) (List.forall_mem_cons.2 ⟨List.mem_of_getElem? (i := 0) rfl, fun _ h => (nomatch h)⟩)
    refine ⟨_, ?_, (k + 1), rfl, (by omega), (all_succ hn (itemHead_t (by assumption))), _, envL_self ⟨rfl, rfl, trivial⟩, H157⟩
    omega
  ·have hc76 : ¬ (((k : Nat) : Int) < ((x.heads.length : Nat) : Int)) := (of_decide_eq_false hc76)
   refine W_exit (Then_x (Then_x (Blk_x (Then_n (W_seq (W_reg ?_))))))
   refine O_v rfl (R_assign (v := (.bool true)) rfl ?_)
   refine O_nil (Then_n (W_ret ?_))
   refine ret_1 (v := (.bool true)) Tryz.results43 rfl ?_
   exact ⟨(itemOk_t (by assumption) (by rwa [show x.heads.length = k from by omega])), H75.gr⟩

end Go.Proofs.YthjdhfoeckfmbaaGreat
namespace Go.Proofs.YthjdhfoeckfmbaaGreat
open Go
set_option maxRecDepth 100000
set_option linter.unusedVariables false
set_option linter.unusedSimpArgs false
set_option linter.unusedSectionVars false
variable [DD]
theorem ref04_RightDir_c43 : callable Tryz.prog 43 = true := by kernel_rfl
theorem ref04_RightDir_c44 : callable Tryz.prog 44 = true := by kernel_rfl
set_option maxHeartbeats 1000000 in
theorem ref04_RightDir (hitems : SlH) (items : List ItemS) (w : World) (Sitems : Sl (Old w) itemCh 38 hitems items w) (Ditems_heads : ∀ x ∈ items, Sl (Old w) headCh 34 x.hh x.heads w) (hl : ∀ x ∈ items, x.name.size ≤ 9223372036854775807) :
    Calls Tryz.prog 16 #[(slV hitems items)] w (Ret fun v w' => v = (.bool (dirOk items)) ∧ Ext w w') := by
 refine calls_W Tryz.func16 rfl Tryz.ntmps16 rfl ?_
 have H0 := Ctx.start w nob
 have H1 := H0.addSl _ Sitems (fun b hb => ⟨hb, fun _ ho => (nomatch ho)⟩)
 have LSitems := Sitems.len
 have H2 := H1.addImm' (deepI (Old w) headCh 34 (fun x : ItemS => x.hh) (fun x : ItemS => x.heads) items) Ditems_heads (fun b hb => ⟨hb, fun _ ho => (nomatch ho)⟩)
 refine W_seq (W_reg ?_)
 refine O_v rfl (R_assign (v := (.bool false)) rfl ?_)
 refine O_nil (Then_n (W_seq (W_seq (W_reg ?_))))
 refine O_v rfl (R_assign (v := (.int .i64 0)) rfl ?_)
 refine O_nil (Then_n (W_block ?_))
 refine W_loop (fun m3 e4 w5 => ∃ (k : Nat), m3 = items.length - k ∧ (k ≤ items.length) ∧ (∀ i, i < k → itemOkS (nth items i) = true ∧ (i = 0 ∨ cmpSt (nth items (i - 1)).node (nth items i).node = -1)) ∧ ∃ eb6, e4 = envL [(0, (slV hitems items)), (3, (.int .i64 ((k : Nat) : Int)))] eb6 ∧ Ctx w nob w5 [] [deepI (Old w) headCh 34 (fun x : ItemS => x.hh) (fun x : ItemS => x.heads) items, slI (Old w) itemCh 38 hitems items]) _ ⟨0, rfl, (by omega), (all_zero _), _, envL_self ⟨rfl, rfl, trivial⟩, H2⟩ ?_
 rintro m3 _ w5 ⟨k, rfl, hk, hn, eb6, rfl, H7⟩
 refine W_seq (W_seq (W_reg ?_))
 refine O_v rfl (R_move (v := (.int .i64 ((k : Nat) : Int))) rfl ?_)
 refine O_v rfl (R_move (v := (slV hitems items)) rfl ?_)
 refine O_v rfl (R_len_slice (a := hitems.a) (n := items.length) (c := hitems.c) Tryz.underlying31 rfl ?_)
 refine O_v rfl (R_cmp (a := ((k : Nat) : Int)) (b := ((items.length : Nat) : Int)) (r := (decide (((k : Nat) : Int) < ((items.length : Nat) : Int)))) rfl rfl rfl ?_)
 refine O_nil (Then_n ?_)
 refine W_cond (t := (decide (((k : Nat) : Int) < ((items.length : Nat) : Int)))) rfl (fun hc8 => ?_) (fun hc8 => ?_)
 ·have hc8 : (((k : Nat) : Int) < ((items.length : Nat) : Int)) := (of_decide_eq_true hc8)
  refine W_skip (Then_n (W_seq (W_block (W_seq ?_))))
  refine W_rgd TryzMixed [(0, .q 0), (1, .q 0), (2, .q 0), (3, .q 0), (4, .q 0), (5, .q 0), (6, .q 0), (7, .q 0), (8, .q 0), (9, .q 0), (10, .q 0), (11, .q 0), (12, .q 0), (13, .q 0), (14, .q 0), (15, .q 0), (16, .q 0), (17, .q 0), (18, .q 0), (19, .q 0), (20, .q 0), (21, .q 0), (22, .q 0), (23, .q 0), (24, .q 0)] (by kernel_rfl) ?_
  refine Lx_q (i := 0) rfl rfl _ (fun v9 hv10 => R_move (v := (slV hitems items)) rfl ⟨rfl, Gr.refl _ _⟩) ?_
  refine Lx_q (i := 1) rfl rfl _ (fun v11 hv12 => R_move (v := (.int .i64 ((k : Nat) : Int))) rfl ⟨rfl, Gr.refl _ _⟩) ?_
  refine Lx_q (i := 2) rfl rfl _ (fun v13 hv14 => R_index_pure (H7.sl 1 rfl) (n := items.length) rfl (j := ((k : Nat) : Int)) (oo := (hitems.o + k * 38)) Tryz.underlying31 Tryz.sizeOf77 rfl rfl (by omega) (by omega) rfl ⟨rfl, Gr.refl _ _⟩) ?_
  refine Lx_q (i := 3) rfl rfl _ (fun v15 hv16 => R_loadA (cs := [[(.int .i64 (((nth items k).node).T))], [(.int .i64 (((nth items k).node).R))], [(.int .i64 (((nth items k).tm).T))], [(.int .i64 (((nth items k).tm).R))], [(.string ((nth items k).name))], (idCells ((nth items k).sub)), [(slV ((nth items k).hh) ((nth items k).heads))]]) Tryz.isAgg77 Tryz.sizeOf77 rfl rfl ((Sl.elem ((H7.ext hv16).sl 1 rfl) (i := k) (by omega) rfl).chunks 0 7 0 (hitems.o + k * 38) _ rfl rfl rfl) ⟨rfl, Gr.refl _ _⟩) ?_
  refine Lx_q (i := 4) rfl rfl (.bool (itemOkS (nth items k))) (fun v17 hv18 => R_callL (vs := [(aggOf (itemCh (nth items k)))]) ref04_RightDir_c43 rfl rfl (ref04_rightItem (nth items k) v17 ((H7.ext hv18).deepOld 0 rfl _ (nth_mem (by omega))) (hl _ (nth_mem (by omega))))) ?_
  refine Lx_q (i := 5) rfl rfl _ (fun v19 hv20 => R_not rfl ⟨rfl, Gr.refl _ _⟩) ?_
  refine Lx_q (i := 6) rfl rfl _ (fun v21 hv22 => R_move (v := (.bool (!(itemOkS (nth items k))))) rfl ⟨rfl, Gr.refl _ _⟩) ?_
  refine Lx_qg (i := 7) true (!(itemOkS (nth items k))) rfl rfl rfl rfl rfl (!(!(itemOkS (nth items k)))) ga_f _ (fun hA v23 hv24 => R_move (v := (.int .i64 ((k : Nat) : Int))) rfl ⟨rfl, Gr.refl _ _⟩) ?_
  refine Lx_qg (i := 8) true (!(itemOkS (nth items k))) rfl rfl rfl rfl rfl (!(!(itemOkS (nth items k)))) ga_f _ (fun hA v25 hv26 => R_cmp (a := ((k : Nat) : Int)) (b := 0) (r := (decide (0 < ((k : Nat) : Int)))) (gv_t hA) rfl rfl ⟨rfl, Gr.refl _ _⟩) ?_
  refine Lx_qg (i := 9) true (!(itemOkS (nth items k))) rfl rfl rfl rfl rfl (!(!(itemOkS (nth items k)))) ga_f _ (fun hA v27 hv28 => R_move (v := (.bool (decide (0 < ((k : Nat) : Int))))) (gv_t hA) ⟨rfl, Gr.refl _ _⟩) ?_
  refine Lx_qg (i := 10) (!(!(itemOkS (nth items k)))) (decide (0 < ((k : Nat) : Int))) rfl rfl rfl rfl rfl ((!(!(itemOkS (nth items k)))) && (decide (0 < ((k : Nat) : Int)))) gb_t _ (fun hA v29 hv30 => R_move (v := (slV hitems items)) rfl ⟨rfl, Gr.refl _ _⟩) ?_
  refine Lx_qg (i := 11) (!(!(itemOkS (nth items k)))) (decide (0 < ((k : Nat) : Int))) rfl rfl rfl rfl rfl ((!(!(itemOkS (nth items k)))) && (decide (0 < ((k : Nat) : Int)))) gb_t _ (fun hA v31 hv32 => R_move (v := (.int .i64 ((k : Nat) : Int))) rfl ⟨rfl, Gr.refl _ _⟩) ?_
  refine Lx_qg (i := 12) (!(!(itemOkS (nth items k)))) (decide (0 < ((k : Nat) : Int))) rfl rfl rfl rfl rfl ((!(!(itemOkS (nth items k)))) && (decide (0 < ((k : Nat) : Int)))) gb_t _ (fun hA v33 hv34 => by
        have hP : ((itemOkS (nth items k)) = true ∧ (0 < ((k : Nat) : Int))) := (And.imp (fun h => (notF (notT h))) (fun h => (of_decide_eq_true h)) (andT hA))
        exact R_arith (a := ((k : Nat) : Int)) (b := 1) (r0 := ((k : Nat) : Int) - 1) (r := ((k - 1 : Nat) : Int)) (gv_t hA) rfl rfl (wrapP _ (by omega) (by omega)) ⟨rfl, Gr.refl _ _⟩) ?_
  refine Lx_qg (i := 13) (!(!(itemOkS (nth items k)))) (decide (0 < ((k : Nat) : Int))) rfl rfl rfl rfl rfl ((!(!(itemOkS (nth items k)))) && (decide (0 < ((k : Nat) : Int)))) gb_t _ (fun hA v35 hv36 => by
        have hP : ((itemOkS (nth items k)) = true ∧ (0 < ((k : Nat) : Int))) := (And.imp (fun h => (notF (notT h))) (fun h => (of_decide_eq_true h)) (andT hA))
        exact R_index_pure (H7.sl 1 rfl) (n := items.length) rfl (j := ((k - 1 : Nat) : Int)) (oo := (hitems.o + (k - 1) * 38)) Tryz.underlying31 Tryz.sizeOf77 (gv_t hA) (gv_t hA) (by omega) (by omega) rfl ⟨rfl, Gr.refl _ _⟩) ?_
  refine Lx_qg (i := 14) (!(!(itemOkS (nth items k)))) (decide (0 < ((k : Nat) : Int))) rfl rfl rfl rfl rfl ((!(!(itemOkS (nth items k)))) && (decide (0 < ((k : Nat) : Int)))) gb_t _ (fun hA v37 hv38 => R_fieldAddr (off := 0) (oo := (hitems.o + (k - 1) * 38)) Tryz.underlying77 rfl rfl Tryz.sizeOf69 (gv_t hA) rfl ⟨rfl, Gr.refl _ _⟩) ?_
  refine Lx_qg (i := 15) (!(!(itemOkS (nth items k)))) (decide (0 < ((k : Nat) : Int))) rfl rfl rfl rfl rfl ((!(!(itemOkS (nth items k)))) && (decide (0 < ((k : Nat) : Int)))) gb_t _ (fun hA v39 hv40 => by
        have hP : ((itemOkS (nth items k)) = true ∧ (0 < ((k : Nat) : Int))) := (And.imp (fun h => (notF (notT h))) (fun h => (of_decide_eq_true h)) (andT hA))
        exact R_loadA (cs := [[(.int .i64 (((nth items (k - 1)).node).T))], [(.int .i64 (((nth items (k - 1)).node).R))]]) Tryz.isAgg69 Tryz.sizeOf69 rfl (gv_t hA) ((Sl.elem ((H7.ext hv40).sl 1 rfl) (i := (k - 1)) (by omega) rfl).chunks 0 2 0 (hitems.o + (k - 1) * 38) _ rfl rfl rfl) ⟨rfl, Gr.refl _ _⟩) ?_
  refine Lx_qg (i := 16) (!(!(itemOkS (nth items k)))) (decide (0 < ((k : Nat) : Int))) rfl rfl rfl rfl rfl ((!(!(itemOkS (nth items k)))) && (decide (0 < ((k : Nat) : Int)))) gb_t _ (fun hA v41 hv42 => R_move (v := (slV hitems items)) rfl ⟨rfl, Gr.refl _ _⟩) ?_
  refine Lx_qg (i := 17) (!(!(itemOkS (nth items k)))) (decide (0 < ((k : Nat) : Int))) rfl rfl rfl rfl rfl ((!(!(itemOkS (nth items k)))) && (decide (0 < ((k : Nat) : Int)))) gb_t _ (fun hA v43 hv44 => R_move (v := (.int .i64 ((k : Nat) : Int))) rfl ⟨rfl, Gr.refl _ _⟩) ?_
  refine Lx_qg (i := 18) (!(!(itemOkS (nth items k)))) (decide (0 < ((k : Nat) : Int))) rfl rfl rfl rfl rfl ((!(!(itemOkS (nth items k)))) && (decide (0 < ((k : Nat) : Int)))) gb_t _ (fun hA v45 hv46 => by
        have hP : ((itemOkS (nth items k)) = true ∧ (0 < ((k : Nat) : Int))) := (And.imp (fun h => (notF (notT h))) (fun h => (of_decide_eq_true h)) (andT hA))
        exact R_index_pure (H7.sl 1 rfl) (n := items.length) rfl (j := ((k : Nat) : Int)) (oo := (hitems.o + k * 38)) Tryz.underlying31 Tryz.sizeOf77 (gv_t hA) (gv_t hA) (by omega) (by omega) rfl ⟨rfl, Gr.refl _ _⟩) ?_
  refine Lx_qg (i := 19) (!(!(itemOkS (nth items k)))) (decide (0 < ((k : Nat) : Int))) rfl rfl rfl rfl rfl ((!(!(itemOkS (nth items k)))) && (decide (0 < ((k : Nat) : Int)))) gb_t _ (fun hA v47 hv48 => R_fieldAddr (off := 0) (oo := (hitems.o + k * 38)) Tryz.underlying77 rfl rfl Tryz.sizeOf69 (gv_t hA) rfl ⟨rfl, Gr.refl _ _⟩) ?_
  refine Lx_qg (i := 20) (!(!(itemOkS (nth items k)))) (decide (0 < ((k : Nat) : Int))) rfl rfl rfl rfl rfl ((!(!(itemOkS (nth items k)))) && (decide (0 < ((k : Nat) : Int)))) gb_t _ (fun hA v49 hv50 => by
        have hP : ((itemOkS (nth items k)) = true ∧ (0 < ((k : Nat) : Int))) := (And.imp (fun h => (notF (notT h))) (fun h => (of_decide_eq_true h)) (andT hA))
        exact R_loadA (cs := [[(.int .i64 (((nth items k).node).T))], [(.int .i64 (((nth items k).node).R))]]) Tryz.isAgg69 Tryz.sizeOf69 rfl (gv_t hA) ((Sl.elem ((H7.ext hv50).sl 1 rfl) (i := k) (by omega) rfl).chunks 0 2 0 (hitems.o + k * 38) _ rfl rfl rfl) ⟨rfl, Gr.refl _ _⟩) ?_
  refine Lx_qg (i := 21) (!(!(itemOkS (nth items k)))) (decide (0 < ((k : Nat) : Int))) rfl rfl rfl rfl rfl ((!(!(itemOkS (nth items k)))) && (decide (0 < ((k : Nat) : Int)))) gb_t (.int .i64 (cmpSt ((nth items (k - 1)).node) ((nth items k).node))) (fun hA v51 hv52 => R_callL (vs := [(aggOf (stampCh ((nth items (k - 1)).node))), (aggOf (stampCh ((nth items k).node)))]) ref04_RightDir_c44 rfl (lst2 (gv_t hA) (gv_t hA)) (ref03_Cmp ((nth items (k - 1)).node) ((nth items k).node) v51 )) ?_
  refine Lx_qg (i := 22) (!(!(itemOkS (nth items k)))) (decide (0 < ((k : Nat) : Int))) rfl rfl rfl rfl rfl ((!(!(itemOkS (nth items k)))) && (decide (0 < ((k : Nat) : Int)))) gb_t _ (fun hA v53 hv54 => R_cmp (a := cmpSt ((nth items (k - 1)).node) ((nth items k).node)) (b := (-1)) (r := (!(decide (cmpSt ((nth items (k - 1)).node) ((nth items k).node) = (-1))))) (gv_t hA) rfl rfl ⟨rfl, Gr.refl _ _⟩) ?_
  refine Lx_qg (i := 23) true (!(itemOkS (nth items k))) rfl rfl rfl rfl rfl (!(!(itemOkS (nth items k)))) ga_f _ (fun hA v55 hv56 => R_pick (t := (decide (0 < ((k : Nat) : Int)))) (v := (.bool ((decide (0 < ((k : Nat) : Int))) && (!(decide (cmpSt ((nth items (k - 1)).node) ((nth items k).node) = (-1))))))) (gv_t hA) (pk_andA hA) ⟨rfl, Gr.refl _ _⟩) ?_
  refine Lx_q (i := 24) rfl rfl _ (fun v57 hv58 => R_pick (t := (!(itemOkS (nth items k)))) (v := (.bool ((!(itemOkS (nth items k))) || ((decide (0 < ((k : Nat) : Int))) && (!(decide (cmpSt ((nth items (k - 1)).node) ((nth items k).node) = (-1)))))))) rfl pk_or ⟨rfl, Gr.refl _ _⟩) ?_
  refine Lx_nil (fun w59 hw60 => ?_)
  have H61 := H7.ext hw60
  refine Then_n ?_
  refine W_cond (t := ((!(itemOkS (nth items k))) || ((decide (0 < ((k : Nat) : Int))) && (!(decide (cmpSt ((nth items (k - 1)).node) ((nth items k).node) = (-1))))))) rfl (fun hc62 => ?_) (fun hc62 => ?_)
  ·have hc62 : ((itemOkS (nth items k)) = false ∨ ((0 < ((k : Nat) : Int)) ∧ ¬ (cmpSt ((nth items (k - 1)).node) ((nth items k).node) = (-1)))) := (Or.imp (fun h => (notT h)) (fun h => (And.imp (fun h => (of_decide_eq_true h)) (fun h => (of_decide_eq_false (notT h))) (andT h))) (orT hc62))
   refine W_seq (W_reg ?_)
   refine O_v rfl (R_assign (v := (.bool false)) rfl ?_)
   refine O_nil (Then_n (W_ret (Blk_r (Then_r (Then_r (Blk_r (Then_r ?_)))))))
   refine ret_1 (v := (.bool false)) Tryz.results16 rfl ?_
   exact ⟨(dirOk_f (k := k) (by omega) (by assumption)), H61.gr⟩
  ·have hc62 : ((itemOkS (nth items k)) = true ∧ (¬ (0 < ((k : Nat) : Int)) ∨ (cmpSt ((nth items (k - 1)).node) ((nth items k).node) = (-1)))) := (And.imp (fun h => (notF h)) (fun h => (Or.imp (fun h => (of_decide_eq_false h)) (fun h => (of_decide_eq_true (notF h))) (andF h))) (orF hc62))
   refine W_skip (Blk_n (Then_n (W_reg ?_)))
   refine O_v rfl (R_move (v := (.int .i64 ((k : Nat) : Int))) rfl ?_)
   refine O_v rfl (R_arith (a := ((k : Nat) : Int)) (b := 1) (r0 := ((k : Nat) : Int) + 1) (r := ((k + 1 : Nat) : Int)) rfl rfl rfl (wrapN _ (by omega)) ?_)
   refine O_v rfl (R_assign (v := (.int .i64 ((k + 1 : Nat) : Int))) rfl ?_)
   refine O_nil (Then_n ?_)
   refine ⟨_, ?_, (k + 1), rfl, (by omega), (all_succ hn (dirAt_t (by assumption))), _, envL_self ⟨rfl, rfl, trivial⟩, H61⟩
   omega
 ·have hc8 : ¬ (((k : Nat) : Int) < ((items.length : Nat) : Int)) := (of_decide_eq_false hc8)
  refine W_exit (Then_x (Then_x (Blk_x (Then_n (W_seq (W_reg ?_))))))
  refine O_v rfl (R_move (v := (slV hitems items)) rfl ?_)
  refine O_v rfl (R_len_slice (a := hitems.a) (n := items.length) (c := hitems.c) Tryz.underlying31 rfl ?_)
  refine O_v rfl (R_cmp (a := ((items.length : Nat) : Int)) (b := 1000) (r := (decide (((items.length : Nat) : Int) ≤ 1000))) rfl rfl rfl ?_)
  refine O_v rfl (R_assign (v := (.bool (decide (((items.length : Nat) : Int) ≤ 1000)))) rfl ?_)
  refine O_nil (Then_n (W_ret ?_))
  refine ret_1 (v := (.bool (decide (((items.length : Nat) : Int) ≤ 1000)))) Tryz.results16 rfl ?_
  exact ⟨(dirOk_t (by rwa [show items.length = k from by omega])), H7.gr⟩

end Go.Proofs.YthjdhfoeckfmbaaGreat
namespace Go.Proofs.YthjdhfoeckfmbaaGreat
open Go
set_option maxRecDepth 100000
set_option linter.unusedVariables false
set_option linter.unusedSimpArgs false
set_option linter.unusedSectionVars false
variable [DD]
theorem ref04_item_c72 : callable Tryz.prog 72 = true := by kernel_rfl
theorem ref04_item_c76 : callable Tryz.prog 76 = true := by kernel_rfl
theorem ref04_item_c78 : callable Tryz.prog 78 = true := by kernel_rfl
theorem ref04_item_c110 : callable Tryz.prog 110 = true := by kernel_rfl
set_option maxHeartbeats 4000000 in
theorem ref04_item (r : RdS) (Fr : Nat → Prop) (q : List UInt8 × Bool) (w : World) (Sr : Sl Fr encB 1 r.bh r.b w) (XFr : ∀ b, Fr b → b < w.heap.size) (Er : r.st = q) :
    Calls Tryz.prog 74 #[(aggOf (rdCh r))] w (Ret fun v w' => ∃ (X : ItemS) (Z : RdS), v = .tuple #[itemV X, rdV Z] ∧ Ext w w' ∧ OwnS w.heap.size 84 34 headCh X.hh X.heads w' ∧ (X.core = (rdItem q).1) ∧ Z.st = (rdItem q).2 ∧ Sl Fr encB 1 Z.bh Z.b w') := by
 refine calls_W Tryz.func74 rfl Tryz.ntmps74 rfl ?_
 have H0 := Ctx.start w nob
 have H1 := H0.addSl _ Sr (fun b hb => ⟨XFr b hb, fun _ ho => (nomatch ho)⟩)
 have LSr := Sr.len
 refine W_seq (W_reg ?_)
 refine O_v rfl (C_box H1 [[(slV r.bh r.b)], [(.bool r.bad)]] rfl ?_)
 intro b4 w5 hb6 hx7 H8
 refine O_v rfl (C_alloc H8 [[(.int .i64 0)], [(.int .i64 0)], [(.int .i64 0)], [(.int .i64 0)], [(.string ByteArray.empty)], (idCells zeroId), [(.slice none 0 0)]] Tryz.zeroValue77 ?_)
 intro b9 w10 hb11 hx12 H13
 refine O_v rfl (C_alloc H13 [[(.slice none 0 0)], [(.bool false)]] Tryz.zeroValue110 ?_)
 intro b14 w15 hb16 hx17 H18
 refine O_nil (Then_n (W_seq (W_reg ?_)))
 refine O_v rfl (R_loadA (cs := [[(slV r.bh r.b)], [(.bool r.bad)]]) Tryz.isAgg110 Tryz.sizeOf110 rfl rfl ((boxR_at (H18.getOwn 2 rfl)).chunks 0 2 0 0 _ rfl rfl rfl) ?_)
 refine O_v rfl (R_callL (vs := [(aggOf (rdCh r))]) ref04_item_c110 rfl rfl ((ref03_GetStamp r Fr q w15 (H18.sl 0 rfl) (H18.imm _ (List.mem_of_getElem? (i := 0) rfl)).2 Er).ret ?_))
 rintro _ w20 ⟨x19, rfl, hx21, hr22, hs23⟩
 have H24 := H18.ext hx21
 have H25 := H24.immOf 0 rfl (slI Fr encB 1 x19.bh x19.b) (fun _ h => h) (fun _ => hs23)
 refine O_v rfl (R_move (v := (.tuple #[(aggOf (stampCh ((rdAt q).1))), (aggOf (rdCh x19))])) rfl ?_)
 refine O_v rfl (R_extract (v := (aggOf (stampCh ((rdAt q).1)))) rfl rfl ?_)
 refine O_v rfl (R_extract (v := (aggOf (rdCh x19))) rfl rfl ?_)
 refine O_v rfl (C_alloc H25 [[(.int .i64 0)], [(.int .i64 0)]] Tryz.zeroValue69 ?_)
 intro b26 w27 hb28 hx29 H30
 refine O_v rfl (C_alloc H30 [[(.slice none 0 0)], [(.bool false)]] Tryz.zeroValue110 ?_)
 intro b31 w32 hb33 hx34 H35
 refine O_u (C_storeA H35 1 rfl 0 (sub := [[(.int .i64 (((rdAt q).1).T))], [(.int .i64 (((rdAt q).1).R))]]) [[(.int .i64 (((rdAt q).1).T))], [(.int .i64 (((rdAt q).1).R))]] Tryz.sizeOf69 rfl rfl rfl rfl ⟨[[(.int .i64 0)], [(.int .i64 0)]], [], rfl, rfl, rfl⟩ rfl ?_)
 intro w36 hg37 H38
 refine O_u (C_storeA H38 0 rfl 0 (sub := [[(slV x19.bh x19.b)], [(.bool x19.bad)]]) [[(slV x19.bh x19.b)], [(.bool x19.bad)]] Tryz.sizeOf110 rfl rfl rfl rfl ⟨[[(.slice none 0 0)], [(.bool false)]], [], rfl, rfl, rfl⟩ rfl ?_)
 intro w39 hg40 H41
 refine O_nil (Then_n (W_seq (W_reg ?_)))
 refine O_v rfl (R_loadA (cs := [[(slV x19.bh x19.b)], [(.bool x19.bad)]]) Tryz.isAgg110 Tryz.sizeOf110 rfl rfl ((boxR_at (H41.getOwn 0 rfl)).chunks 0 2 0 0 _ rfl rfl rfl) ?_)
 refine O_v rfl (R_callL (vs := [(aggOf (rdCh x19))]) ref04_item_c110 rfl rfl ((ref03_GetStamp x19 Fr ((rdAt q).2) w39 (H41.sl 0 rfl) (H41.imm _ (List.mem_of_getElem? (i := 0) rfl)).2 hr22).ret ?_))
 rintro _ w43 ⟨x42, rfl, hx44, hr45, hs46⟩
 have H47 := H41.ext hx44
 have H48 := H47.immOf 0 rfl (slI Fr encB 1 x42.bh x42.b) (fun _ h => h) (fun _ => hs46)
 refine O_v rfl (R_move (v := (.tuple #[(aggOf (stampCh ((rdAt ((rdAt q).2)).1))), (aggOf (rdCh x42))])) rfl ?_)
 refine O_v rfl (R_extract (v := (aggOf (stampCh ((rdAt ((rdAt q).2)).1)))) rfl rfl ?_)
 refine O_v rfl (R_extract (v := (aggOf (rdCh x42))) rfl rfl ?_)
 refine O_v rfl (C_alloc H48 [[(.int .i64 0)], [(.int .i64 0)]] Tryz.zeroValue69 ?_)
 intro b49 w50 hb51 hx52 H53
 refine O_v rfl (C_alloc H53 [[(.slice none 0 0)], [(.bool false)]] Tryz.zeroValue110 ?_)
 intro b54 w55 hb56 hx57 H58
 refine O_u (C_storeA H58 1 rfl 0 (sub := [[(.int .i64 (((rdAt ((rdAt q).2)).1).T))], [(.int .i64 (((rdAt ((rdAt q).2)).1).R))]]) [[(.int .i64 (((rdAt ((rdAt q).2)).1).T))], [(.int .i64 (((rdAt ((rdAt q).2)).1).R))]] Tryz.sizeOf69 rfl rfl rfl rfl ⟨[[(.int .i64 0)], [(.int .i64 0)]], [], rfl, rfl, rfl⟩ rfl ?_)
 intro w59 hg60 H61
 refine O_u (C_storeA H61 0 rfl 0 (sub := [[(slV x42.bh x42.b)], [(.bool x42.bad)]]) [[(slV x42.bh x42.b)], [(.bool x42.bad)]] Tryz.sizeOf110 rfl rfl rfl rfl ⟨[[(.slice none 0 0)], [(.bool false)]], [], rfl, rfl, rfl⟩ rfl ?_)
 intro w62 hg63 H64
 refine O_nil (Then_n (W_seq (W_reg ?_)))
 refine O_v rfl (R_loadA (cs := [[(slV x42.bh x42.b)], [(.bool x42.bad)]]) Tryz.isAgg110 Tryz.sizeOf110 rfl rfl ((boxR_at (H64.getOwn 0 rfl)).chunks 0 2 0 0 _ rfl rfl rfl) ?_)
 refine O_v rfl (R_callL (vs := [(aggOf (rdCh x42)), (.int .i64 60)]) ref04_item_c78 rfl rfl ((ref02_GetText x42 Fr ((rdAt ((rdAt q).2)).2) 60 w62 (H64.sl 0 rfl) (H64.imm _ (List.mem_of_getElem? (i := 0) rfl)).2 hr45).ret ?_))
 rintro _ w66 ⟨x65, rfl, hx67, hr68, hs69⟩
 have H70 := H64.ext hx67
 have H71 := H70.immOf 0 rfl (slI Fr encB 1 x65.bh x65.b) (fun _ h => h) (fun _ => hs69)
 refine O_v rfl (R_move (v := (.tuple #[(.string ((rdText ((rdAt ((rdAt q).2)).2) 60).1)), (aggOf (rdCh x65))])) rfl ?_)
 refine O_v rfl (R_extract (v := (.string ((rdText ((rdAt ((rdAt q).2)).2) 60).1))) rfl rfl ?_)
 refine O_v rfl (R_extract (v := (aggOf (rdCh x65))) rfl rfl ?_)
 refine O_v rfl (C_alloc H71 [[(.slice none 0 0)], [(.bool false)]] Tryz.zeroValue110 ?_)
 intro b72 w73 hb74 hx75 H76
 refine O_v rfl (R_assign (v := (.string ((rdText ((rdAt ((rdAt q).2)).2) 60).1))) rfl ?_)
 refine O_u (C_storeA H76 0 rfl 0 (sub := [[(slV x65.bh x65.b)], [(.bool x65.bad)]]) [[(slV x65.bh x65.b)], [(.bool x65.bad)]] Tryz.sizeOf110 rfl rfl rfl rfl ⟨[[(.slice none 0 0)], [(.bool false)]], [], rfl, rfl, rfl⟩ rfl ?_)
 intro w77 hg78 H79
 refine O_nil (Then_n (W_seq (W_reg ?_)))
 refine O_v rfl (R_loadA (cs := [[(slV x65.bh x65.b)], [(.bool x65.bad)]]) Tryz.isAgg110 Tryz.sizeOf110 rfl rfl ((boxR_at (H79.getOwn 0 rfl)).chunks 0 2 0 0 _ rfl rfl rfl) ?_)
 refine O_v rfl (R_callL (vs := [(aggOf (rdCh x65))]) ref04_item_c76 rfl rfl ((ref02_GetId x65 Fr ((rdText ((rdAt ((rdAt q).2)).2) 60).2) w77 (H79.sl 0 rfl) (H79.imm _ (List.mem_of_getElem? (i := 0) rfl)).2 hr68).ret ?_))
 rintro _ w81 ⟨x80, rfl, hx82, hr83, hs84⟩
 have H85 := H79.ext hx82
 have H86 := H85.immOf 0 rfl (slI Fr encB 1 x80.bh x80.b) (fun _ h => h) (fun _ => hs84)
 refine O_v rfl (R_move (v := (.tuple #[(aggOf (idCh ((rdId ((rdText ((rdAt ((rdAt q).2)).2) 60).2)).1))), (aggOf (rdCh x80))])) rfl ?_)
 refine O_v rfl (R_extract (v := (aggOf (idCh ((rdId ((rdText ((rdAt ((rdAt q).2)).2) 60).2)).1)))) rfl rfl ?_)
 refine O_v rfl (R_extract (v := (aggOf (rdCh x80))) rfl rfl ?_)
 refine O_v rfl (C_alloc H86 [(idCells zeroId)] Tryz.zeroValue44 ?_)
 intro b87 w88 hb89 hx90 H91
 refine O_v rfl (C_alloc H91 [[(.slice none 0 0)], [(.bool false)]] Tryz.zeroValue110 ?_)
 intro b92 w93 hb94 hx95 H96
 refine O_u (C_storeA H96 1 rfl 0 (sub := [(idCells ((rdId ((rdText ((rdAt ((rdAt q).2)).2) 60).2)).1))]) [(idCells ((rdId ((rdText ((rdAt ((rdAt q).2)).2) 60).2)).1))] Tryz.sizeOf44 rfl rfl rfl rfl ⟨[(idCells zeroId)], [], rfl, rfl, rfl⟩ rfl ?_)
 intro w97 hg98 H99
 refine O_u (C_storeA H99 0 rfl 0 (sub := [[(slV x80.bh x80.b)], [(.bool x80.bad)]]) [[(slV x80.bh x80.b)], [(.bool x80.bad)]] Tryz.sizeOf110 rfl rfl rfl rfl ⟨[[(.slice none 0 0)], [(.bool false)]], [], rfl, rfl, rfl⟩ rfl ?_)
 intro w100 hg101 H102
 refine O_nil (Then_n (W_seq (W_reg ?_)))
 refine O_v rfl (R_loadA (cs := [[(slV x80.bh x80.b)], [(.bool x80.bad)]]) Tryz.isAgg110 Tryz.sizeOf110 rfl rfl ((boxR_at (H102.getOwn 0 rfl)).chunks 0 2 0 0 _ rfl rfl rfl) ?_)
 refine O_v rfl (R_callL (vs := [(aggOf (rdCh x80)), (.int .i64 1000)]) ref04_item_c72 rfl rfl ((ref02_GetNum x80 Fr ((rdId ((rdText ((rdAt ((rdAt q).2)).2) 60).2)).2) 1000 w100 (H102.sl 0 rfl) (H102.imm _ (List.mem_of_getElem? (i := 0) rfl)).2 hr83).ret ?_))
 rintro _ w104 ⟨x103, rfl, hx105, hr106, hs107⟩
 have H108 := H102.ext hx105
 have H109 := H108.immOf 0 rfl (slI Fr encB 1 x103.bh x103.b) (fun _ h => h) (fun _ => hs107)
 refine O_v rfl (R_move (v := (.tuple #[(.int .i64 ((((rdNum ((rdId ((rdText ((rdAt ((rdAt q).2)).2) 60).2)).2) 1000).1) : Nat) : Int)), (aggOf (rdCh x103))])) rfl ?_)
 refine O_v rfl (R_extract (v := (.int .i64 ((((rdNum ((rdId ((rdText ((rdAt ((rdAt q).2)).2) 60).2)).2) 1000).1) : Nat) : Int))) rfl rfl ?_)
 refine O_v rfl (R_extract (v := (aggOf (rdCh x103))) rfl rfl ?_)
 refine O_v rfl (C_alloc H109 [[(.slice none 0 0)], [(.bool false)]] Tryz.zeroValue110 ?_)
 intro b110 w111 hb112 hx113 H114
 refine O_v rfl (R_assign (v := (.int .i64 ((((rdNum ((rdId ((rdText ((rdAt ((rdAt q).2)).2) 60).2)).2) 1000).1) : Nat) : Int))) rfl ?_)
 refine O_u (C_storeA H114 0 rfl 0 (sub := [[(slV x103.bh x103.b)], [(.bool x103.bad)]]) [[(slV x103.bh x103.b)], [(.bool x103.bad)]] Tryz.sizeOf110 rfl rfl rfl rfl ⟨[[(.slice none 0 0)], [(.bool false)]], [], rfl, rfl, rfl⟩ rfl ?_)
 intro w115 hg116 H117
 refine O_nil (Then_n (W_seq (W_reg ?_)))
 refine O_v rfl (R_loadA (cs := [[(.int .i64 (((rdAt q).1).T))], [(.int .i64 (((rdAt q).1).R))]]) Tryz.isAgg69 Tryz.sizeOf69 rfl rfl ((boxR_at (H117.getOwn 7 rfl)).chunks 0 2 0 0 _ rfl rfl rfl) ?_)
 refine O_v rfl (R_loadA (cs := [[(.int .i64 (((rdAt ((rdAt q).2)).1).T))], [(.int .i64 (((rdAt ((rdAt q).2)).1).R))]]) Tryz.isAgg69 Tryz.sizeOf69 rfl rfl ((boxR_at (H117.getOwn 5 rfl)).chunks 0 2 0 0 _ rfl rfl rfl) ?_)
 refine O_v rfl (R_move (v := (.string ((rdText ((rdAt ((rdAt q).2)).2) 60).1))) rfl ?_)
 refine O_v rfl (R_loadA (cs := [(idCells ((rdId ((rdText ((rdAt ((rdAt q).2)).2) 60).2)).1))]) Tryz.isAgg44 Tryz.sizeOf44 rfl rfl ((boxR_at (H117.getOwn 2 rfl)).chunks 0 1 0 0 _ rfl rfl rfl) ?_)
 refine O_v rfl (R_buildL (vs := [(0, (aggOf (stampCh ((rdAt q).1)))), (1, (aggOf (stampCh ((rdAt ((rdAt q).2)).1)))), (2, (.string ((rdText ((rdAt ((rdAt q).2)).2) 60).1))), (3, (aggOf (idCh ((rdId ((rdText ((rdAt ((rdAt q).2)).2) 60).2)).1))))]) (v := aggOf [[(.int .i64 (((rdAt q).1).T))], [(.int .i64 (((rdAt q).1).R))], [(.int .i64 (((rdAt ((rdAt q).2)).1).T))], [(.int .i64 (((rdAt ((rdAt q).2)).1).R))], [(.string ((rdText ((rdAt ((rdAt q).2)).2) 60).1))], (idCells ((rdId ((rdText ((rdAt ((rdAt q).2)).2) 60).2)).1)), [(.slice none 0 0)]]) rfl (fun _ => by kernel_rfl) ?_)
 refine O_v rfl (C_alloc H117 [[(.int .i64 0)], [(.int .i64 0)], [(.int .i64 0)], [(.int .i64 0)], [(.string ByteArray.empty)], (idCells zeroId), [(.slice none 0 0)]] Tryz.zeroValue77 ?_)
 intro b118 w119 hb120 hx121 H122
 refine O_u (C_storeA H122 0 rfl 0 (sub := [[(.int .i64 (((rdAt q).1).T))], [(.int .i64 (((rdAt q).1).R))], [(.int .i64 (((rdAt ((rdAt q).2)).1).T))], [(.int .i64 (((rdAt ((rdAt q).2)).1).R))], [(.string ((rdText ((rdAt ((rdAt q).2)).2) 60).1))], (idCells ((rdId ((rdText ((rdAt ((rdAt q).2)).2) 60).2)).1)), [(.slice none 0 0)]]) [[(.int .i64 (((rdAt q).1).T))], [(.int .i64 (((rdAt q).1).R))], [(.int .i64 (((rdAt ((rdAt q).2)).1).T))], [(.int .i64 (((rdAt ((rdAt q).2)).1).R))], [(.string ((rdText ((rdAt ((rdAt q).2)).2) 60).1))], (idCells ((rdId ((rdText ((rdAt ((rdAt q).2)).2) 60).2)).1)), [(.slice none 0 0)]] Tryz.sizeOf77 rfl rfl rfl rfl ⟨[[(.int .i64 0)], [(.int .i64 0)], [(.int .i64 0)], [(.int .i64 0)], [(.string ByteArray.empty)], (idCells zeroId), [(.slice none 0 0)]], [], rfl, rfl, rfl⟩ rfl ?_)
 intro w123 hg124 H125
 refine O_nil (Then_n (W_seq (W_seq (W_reg ?_))))
 refine O_v rfl (R_assign (v := (.int .i64 0)) rfl ?_)
 refine O_nil (Then_n (W_block ?_))
 have H126 := H125.addNil 84 34 headCh
 refine W_loop (fun m127 e128 w129 => ∃ (k : Nat), ∃ (acc : List Head), ∃ (rr : RdS), ∃ (rq : List UInt8 × Bool), ∃ (ho : SlH), m127 = (rdNum (rdId (rdText (rdAt (rdAt q).2).2 60).2).2 1000).1 - k ∧ (k ≤ (rdNum (rdId (rdText (rdAt (rdAt q).2).2 60).2).2 1000).1) ∧ ((rdNum (rdId (rdText (rdAt (rdAt q).2).2 60).2).2 1000).1 ≤ 1000) ∧ (acc.length ≤ k) ∧ (rr.st = rq) ∧ (stopR rq acc (rdHeads ((rdNum (rdId (rdText (rdAt (rdAt q).2).2 60).2).2 1000).1 - k) acc rq) = rdHeads (rdNum (rdId (rdText (rdAt (rdAt q).2).2 60).2).2 1000).1 [] (rdNum (rdId (rdText (rdAt (rdAt q).2).2 60).2).2 1000).2) ∧ ∃ eb130, e128 = envL [(2, (.pointer (some ⟨b9, 0, none⟩))), (3, (.pointer (some ⟨b14, 0, none⟩))), (12, (.int .i64 ((((rdNum ((rdId ((rdText ((rdAt ((rdAt q).2)).2) 60).2)).2) 1000).1) : Nat) : Int))), (13, (.pointer (some ⟨b110, 0, none⟩))), (14, (.pointer (some ⟨b118, 0, none⟩))), (15, (.int .i64 ((k : Nat) : Int)))] eb130 ∧ Ctx w nob w129 [rowR 84 34 headCh ho acc, boxR b118 77 [[(.int .i64 (((rdAt q).1).T))], [(.int .i64 (((rdAt q).1).R))], [(.int .i64 (((rdAt ((rdAt q).2)).1).T))], [(.int .i64 (((rdAt ((rdAt q).2)).1).R))], [(.string ((rdText ((rdAt ((rdAt q).2)).2) 60).1))], (idCells ((rdId ((rdText ((rdAt ((rdAt q).2)).2) 60).2)).1)), [(slV ho acc)]], boxR b110 110 [[(slV rr.bh rr.b)], [(.bool rr.bad)]], boxR b92 110 [[(slV x80.bh x80.b)], [(.bool x80.bad)]], boxR b87 44 [(idCells ((rdId ((rdText ((rdAt ((rdAt q).2)).2) 60).2)).1))], boxR b72 110 [[(slV x65.bh x65.b)], [(.bool x65.bad)]], boxR b54 110 [[(slV x42.bh x42.b)], [(.bool x42.bad)]], boxR b49 69 [[(.int .i64 (((rdAt ((rdAt q).2)).1).T))], [(.int .i64 (((rdAt ((rdAt q).2)).1).R))]], boxR b31 110 [[(slV x19.bh x19.b)], [(.bool x19.bad)]], boxR b26 69 [[(.int .i64 (((rdAt q).1).T))], [(.int .i64 (((rdAt q).1).R))]], boxR b14 110 [[(.slice none 0 0)], [(.bool false)]], boxR b9 77 [[(.int .i64 0)], [(.int .i64 0)], [(.int .i64 0)], [(.int .i64 0)], [(.string ByteArray.empty)], (idCells zeroId), [(.slice none 0 0)]], boxR b4 110 [[(slV r.bh r.b)], [(.bool r.bad)]]] [slI Fr encB 1 rr.bh rr.b, slI Fr encB 1 x80.bh x80.b, slI Fr encB 1 x65.bh x65.b, slI Fr encB 1 x42.bh x42.b, slI Fr encB 1 x19.bh x19.b, slI Fr encB 1 r.bh r.b]) _ ⟨0, [], x103, ((rdNum (rdId (rdText (rdAt (rdAt q).2).2 60).2).2 1000).2), nilH, rfl, (by omega), (rdNum_le _ (by decide)), (by simp), hr106, headsR_start, _, envL_self ⟨rfl, rfl, rfl, rfl, rfl, rfl, trivial⟩, H126⟩ ?_
 rintro m127 _ w129 ⟨k, acc, rr, rq, ho, rfl, hk, hm, hal, hrr, hgo, eb130, rfl, H131⟩
 refine W_seq (W_seq ?_)
 refine W_rg [(0, .q 0), (1, .q 0), (2, .q 0), (3, .q 0), (4, .q 0), (5, .q 0), (6, .q 0), (7, .q 0)] (by kernel_rfl) ?_
 refine Lx_q (i := 0) rfl rfl _ (fun v132 hv133 => R_move (v := (.int .i64 ((k : Nat) : Int))) rfl ⟨rfl, Gr.refl _ _⟩) ?_
 refine Lx_q (i := 1) rfl rfl _ (fun v134 hv135 => R_move (v := (.int .i64 ((((rdNum ((rdId ((rdText ((rdAt ((rdAt q).2)).2) 60).2)).2) 1000).1) : Nat) : Int))) rfl ⟨rfl, Gr.refl _ _⟩) ?_
 refine Lx_q (i := 2) rfl rfl _ (fun v136 hv137 => R_cmp (a := ((k : Nat) : Int)) (b := ((((rdNum ((rdId ((rdText ((rdAt ((rdAt q).2)).2) 60).2)).2) 1000).1) : Nat) : Int)) (r := (decide (((k : Nat) : Int) < ((((rdNum ((rdId ((rdText ((rdAt ((rdAt q).2)).2) 60).2)).2) 1000).1) : Nat) : Int)))) rfl rfl rfl ⟨rfl, Gr.refl _ _⟩) ?_
 refine Lx_q (i := 3) rfl rfl _ (fun v138 hv139 => R_move (v := (.bool (decide (((k : Nat) : Int) < ((((rdNum ((rdId ((rdText ((rdAt ((rdAt q).2)).2) 60).2)).2) 1000).1) : Nat) : Int))))) rfl ⟨rfl, Gr.refl _ _⟩) ?_
 refine Lx_qg (i := 4) true (decide (((k : Nat) : Int) < ((((rdNum ((rdId ((rdText ((rdAt ((rdAt q).2)).2) 60).2)).2) 1000).1) : Nat) : Int))) rfl rfl rfl rfl rfl (decide (((k : Nat) : Int) < ((((rdNum ((rdId ((rdText ((rdAt ((rdAt q).2)).2) 60).2)).2) 1000).1) : Nat) : Int))) ga_t _ (fun hA v140 hv141 => R_fieldAddr (off := 1) (oo := 1) Tryz.underlying110 rfl rfl Tryz.sizeOf4 rfl rfl ⟨rfl, Gr.refl _ _⟩) ?_
 refine Lx_qg (i := 5) true (decide (((k : Nat) : Int) < ((((rdNum ((rdId ((rdText ((rdAt ((rdAt q).2)).2) 60).2)).2) 1000).1) : Nat) : Int))) rfl rfl rfl rfl rfl (decide (((k : Nat) : Int) < ((((rdNum ((rdId ((rdText ((rdAt ((rdAt q).2)).2) 60).2)).2) 1000).1) : Nat) : Int))) ga_t _ (fun hA v142 hv143 => R_load1 (v := (.bool rr.bad)) Tryz.isAgg4 (gv_t hA) ((boxR_at ((H131.ext hv143).getOwn 2 rfl)).chunks 1 1 1 1 _ rfl rfl rfl) ⟨rfl, Gr.refl _ _⟩) ?_
 refine Lx_qg (i := 6) true (decide (((k : Nat) : Int) < ((((rdNum ((rdId ((rdText ((rdAt ((rdAt q).2)).2) 60).2)).2) 1000).1) : Nat) : Int))) rfl rfl rfl rfl rfl (decide (((k : Nat) : Int) < ((((rdNum ((rdId ((rdText ((rdAt ((rdAt q).2)).2) 60).2)).2) 1000).1) : Nat) : Int))) ga_t _ (fun hA v144 hv145 => R_not (gv_t hA) ⟨rfl, Gr.refl _ _⟩) ?_
 refine Lx_q (i := 7) rfl rfl _ (fun v146 hv147 => R_pick (t := (decide (((k : Nat) : Int) < ((((rdNum ((rdId ((rdText ((rdAt ((rdAt q).2)).2) 60).2)).2) 1000).1) : Nat) : Int)))) (v := (.bool ((decide (((k : Nat) : Int) < ((((rdNum ((rdId ((rdText ((rdAt ((rdAt q).2)).2) 60).2)).2) 1000).1) : Nat) : Int))) && (!rr.bad)))) rfl pk_and ⟨rfl, Gr.refl _ _⟩) ?_
 refine Lx_nil (fun w148 hw149 => ?_)
 have H150 := H131.ext hw149
 refine Then_n ?_
 refine W_cond (t := ((decide (((k : Nat) : Int) < ((((rdNum ((rdId ((rdText ((rdAt ((rdAt q).2)).2) 60).2)).2) 1000).1) : Nat) : Int))) && (!rr.bad))) rfl (fun hc151 => ?_) (fun hc151 => ?_)
 ·have hc151 : ((((k : Nat) : Int) < ((((rdNum ((rdId ((rdText ((rdAt ((rdAt q).2)).2) 60).2)).2) 1000).1) : Nat) : Int)) ∧ rr.bad = false) := (And.imp (fun h => (of_decide_eq_true h)) (fun h => (notT h)) (andT hc151))
  refine W_skip (Then_n (W_seq (W_block (W_seq (W_reg ?_)))))
  refine O_v rfl (R_loadA (cs := [[(slV rr.bh rr.b)], [(.bool rr.bad)]]) Tryz.isAgg110 Tryz.sizeOf110 rfl rfl ((boxR_at (H150.getOwn 2 rfl)).chunks 0 2 0 0 _ rfl rfl rfl) ?_)
  refine O_v rfl (R_callL (vs := [(aggOf (rdCh rr))]) ref04_item_c110 rfl rfl ((ref03_GetStamp rr Fr rq w148 (H150.sl 0 rfl) (H150.imm _ (List.mem_of_getElem? (i := 0) rfl)).2 hrr).ret ?_))
  rintro _ w153 ⟨x152, rfl, hx154, hr155, hs156⟩
  have H157 := H150.ext hx154
  have H158 := H157.immOf 0 rfl (slI Fr encB 1 x152.bh x152.b) (fun _ h => h) (fun _ => hs156)
  refine O_v rfl (R_move (v := (.tuple #[(aggOf (stampCh ((rdAt rq).1))), (aggOf (rdCh x152))])) rfl ?_)
  refine O_v rfl (R_extract (v := (aggOf (stampCh ((rdAt rq).1)))) rfl rfl ?_)
  refine O_v rfl (R_extract (v := (aggOf (rdCh x152))) rfl rfl ?_)
  refine O_v rfl (C_alloc H158 [[(.int .i64 0)], [(.int .i64 0)]] Tryz.zeroValue69 ?_)
  intro b159 w160 hb161 hx162 H163
  refine O_v rfl (C_alloc H163 [[(.slice none 0 0)], [(.bool false)]] Tryz.zeroValue110 ?_)
  intro b164 w165 hb166 hx167 H168
  refine O_u (C_storeA H168 1 rfl 0 (sub := [[(.int .i64 (((rdAt rq).1).T))], [(.int .i64 (((rdAt rq).1).R))]]) [[(.int .i64 (((rdAt rq).1).T))], [(.int .i64 (((rdAt rq).1).R))]] Tryz.sizeOf69 rfl rfl rfl rfl ⟨[[(.int .i64 0)], [(.int .i64 0)]], [], rfl, rfl, rfl⟩ rfl ?_)
  intro w169 hg170 H171
  refine O_u (C_storeA H171 0 rfl 0 (sub := [[(slV x152.bh x152.b)], [(.bool x152.bad)]]) [[(slV x152.bh x152.b)], [(.bool x152.bad)]] Tryz.sizeOf110 rfl rfl rfl rfl ⟨[[(.slice none 0 0)], [(.bool false)]], [], rfl, rfl, rfl⟩ rfl ?_)
  intro w172 hg173 H174
  refine O_nil (Then_n (W_seq (W_reg ?_)))
  refine O_v rfl (R_loadA (cs := [[(slV x152.bh x152.b)], [(.bool x152.bad)]]) Tryz.isAgg110 Tryz.sizeOf110 rfl rfl ((boxR_at (H174.getOwn 0 rfl)).chunks 0 2 0 0 _ rfl rfl rfl) ?_)
  refine O_v rfl (R_callL (vs := [(aggOf (rdCh x152))]) ref04_item_c76 rfl rfl ((ref02_GetId x152 Fr ((rdAt rq).2) w172 (H174.sl 0 rfl) (H174.imm _ (List.mem_of_getElem? (i := 0) rfl)).2 hr155).ret ?_))
  rintro _ w176 ⟨x175, rfl, hx177, hr178, hs179⟩
  have H180 := H174.ext hx177
  have H181 := H180.immOf 0 rfl (slI Fr encB 1 x175.bh x175.b) (fun _ h => h) (fun _ => hs179)
  refine O_v rfl (R_move (v := (.tuple #[(aggOf (idCh ((rdId ((rdAt rq).2)).1))), (aggOf (rdCh x175))])) rfl ?_)
  refine O_v rfl (R_extract (v := (aggOf (idCh ((rdId ((rdAt rq).2)).1)))) rfl rfl ?_)
  refine O_v rfl (R_extract (v := (aggOf (rdCh x175))) rfl rfl ?_)
  refine O_v rfl (C_alloc H181 [(idCells zeroId)] Tryz.zeroValue44 ?_)
  intro b182 w183 hb184 hx185 H186
  refine O_v rfl (C_alloc H186 [[(.slice none 0 0)], [(.bool false)]] Tryz.zeroValue110 ?_)
  intro b187 w188 hb189 hx190 H191
  refine O_u (C_storeA H191 1 rfl 0 (sub := [(idCells ((rdId ((rdAt rq).2)).1))]) [(idCells ((rdId ((rdAt rq).2)).1))] Tryz.sizeOf44 rfl rfl rfl rfl ⟨[(idCells zeroId)], [], rfl, rfl, rfl⟩ rfl ?_)
  intro w192 hg193 H194
  refine O_u (C_storeA H194 0 rfl 0 (sub := [[(slV x175.bh x175.b)], [(.bool x175.bad)]]) [[(slV x175.bh x175.b)], [(.bool x175.bad)]] Tryz.sizeOf110 rfl rfl rfl rfl ⟨[[(.slice none 0 0)], [(.bool false)]], [], rfl, rfl, rfl⟩ rfl ?_)
  intro w195 hg196 H197
  refine O_nil (Then_n (W_seq (W_reg ?_)))
  refine O_v rfl (R_fieldAddr (off := 37) (oo := 37) Tryz.underlying77 rfl rfl Tryz.sizeOf75 rfl rfl ?_)
  refine O_v rfl (R_load1 (v := (slV ho acc)) Tryz.isAgg75 rfl ((boxR_at (H197.getOwn 5 rfl)).chunks 6 1 37 37 _ rfl rfl rfl) ?_)
  refine O_v rfl (R_loadA (cs := [[(.int .i64 (((rdAt rq).1).T))], [(.int .i64 (((rdAt rq).1).R))]]) Tryz.isAgg69 Tryz.sizeOf69 rfl rfl ((boxR_at (H197.getOwn 3 rfl)).chunks 0 2 0 0 _ rfl rfl rfl) ?_)
  refine O_v rfl (R_loadA (cs := [(idCells ((rdId ((rdAt rq).2)).1))]) Tryz.isAgg44 Tryz.sizeOf44 rfl rfl ((boxR_at (H197.getOwn 1 rfl)).chunks 0 1 0 0 _ rfl rfl rfl) ?_)
  refine O_v rfl (R_buildL (vs := [(0, (aggOf (stampCh ((rdAt rq).1)))), (1, (aggOf (idCh ((rdId ((rdAt rq).2)).1))))]) (v := aggOf [[(.int .i64 (((rdAt rq).1).T))], [(.int .i64 (((rdAt rq).1).R))], (idCells ((rdId ((rdAt rq).2)).1))]) rfl (fun _ => by kernel_rfl) ?_)
  refine O_v rfl (C_buildSliceL H197 (enc := headCh) (val := headV) ([({ tm := ((rdAt rq).1), data := (rdId ((rdAt rq).2)).1 } : Head)] : List Head) Tryz.underlying75 Tryz.sizeOf84 Tryz.zeroValue84 rfl (by decide) (fun _ => rfl) (fun _ => rfl) rfl rfl (by decide) ?_)
  intro b198 w199 hb200 hx201 H202
  refine O_v rfl (C_append H202 5 rfl (bytes := 48) (l := acc) (ys := ([({ tm := ((rdAt rq).1), data := (rdId ((rdAt rq).2)).1 } : Head)] : List Head)) Tryz.underlying75 rfl rfl rfl rfl rfl (by decide) rfl rfl (OwnS.sl (H202.getOwn 0 rfl) (fun _ => rfl)) (fun _ => rfl) (fun _ => rfl) (by simp only [List.length_append, List.length_cons, List.length_nil]; omega) (by decide) ?_)
  intro h203 w204 hg205 H206
  refine O_v rfl (R_fieldAddr (off := 37) (oo := 37) Tryz.underlying77 rfl rfl Tryz.sizeOf75 rfl rfl ?_)
  refine O_u (C_store1 H206 6 rfl 6 (v := (slV h203 (acc ++ ([({ tm := ((rdAt rq).1), data := (rdId ((rdAt rq).2)).1 } : Head)] : List Head)))) [[(.int .i64 (((rdAt q).1).T))], [(.int .i64 (((rdAt q).1).R))], [(.int .i64 (((rdAt ((rdAt q).2)).1).T))], [(.int .i64 (((rdAt ((rdAt q).2)).1).R))], [(.string ((rdText ((rdAt ((rdAt q).2)).2) 60).1))], (idCells ((rdId ((rdText ((rdAt ((rdAt q).2)).2) 60).2)).1)), [(slV h203 (acc ++ ([({ tm := ((rdAt rq).1), data := (rdId ((rdAt rq).2)).1 } : Head)] : List Head)))]] Tryz.sizeOf75 rfl rfl rfl rfl rfl rfl rfl ?_)
  intro w207 hg208 H209
  refine O_nil (Then_n (W_reg ?_))
  refine O_v rfl (R_loadA (cs := [[(slV x175.bh x175.b)], [(.bool x175.bad)]]) Tryz.isAgg110 Tryz.sizeOf110 rfl rfl ((boxR_at (H209.getOwn 1 rfl)).chunks 0 2 0 0 _ rfl rfl rfl) ?_)
  refine O_u (C_storeA H209 7 rfl 0 (sub := [[(slV x175.bh x175.b)], [(.bool x175.bad)]]) [[(slV x175.bh x175.b)], [(.bool x175.bad)]] Tryz.sizeOf110 rfl rfl rfl rfl ⟨[[(slV rr.bh rr.b)], [(.bool rr.bad)]], [], rfl, rfl, rfl⟩ rfl ?_)
  intro w210 hg211 H212
  refine O_nil (Blk_n (Then_n (W_reg ?_)))
  refine O_v rfl (R_move (v := (.int .i64 ((k : Nat) : Int))) rfl ?_)
  refine O_v rfl (R_arith (a := ((k : Nat) : Int)) (b := 1) (r0 := ((k : Nat) : Int) + 1) (r := ((k + 1 : Nat) : Int)) rfl rfl rfl (wrapN _ (by omega)) ?_)
  refine O_v rfl (R_assign (v := (.int .i64 ((k + 1 : Nat) : Int))) rfl ?_)
  refine O_nil (Then_n ?_)
  have H213 := H212.sub (B' := [rowR 84 34 headCh h203 (acc ++ ([({ tm := ((rdAt rq).1), data := (rdId ((rdAt rq).2)).1 } : Head)] : List Head)), boxR b118 77 [[(.int .i64 (((rdAt q).1).T))], [(.int .i64 (((rdAt q).1).R))], [(.int .i64 (((rdAt ((rdAt q).2)).1).T))], [(.int .i64 (((rdAt ((rdAt q).2)).1).R))], [(.string ((rdText ((rdAt ((rdAt q).2)).2) 60).1))], (idCells ((rdId ((rdText ((rdAt ((rdAt q).2)).2) 60).2)).1)), [(slV h203 (acc ++ ([({ tm := ((rdAt rq).1), data := (rdId ((rdAt rq).2)).1 } : Head)] : List Head)))]], boxR b110 110 [[(slV x175.bh x175.b)], [(.bool x175.bad)]], boxR b92 110 [[(slV x80.bh x80.b)], [(.bool x80.bad)]], boxR b87 44 [(idCells ((rdId ((rdText ((rdAt ((rdAt q).2)).2) 60).2)).1))], boxR b72 110 [[(slV x65.bh x65.b)], [(.bool x65.bad)]], boxR b54 110 [[(slV x42.bh x42.b)], [(.bool x42.bad)]], boxR b49 69 [[(.int .i64 (((rdAt ((rdAt q).2)).1).T))], [(.int .i64 (((rdAt ((rdAt q).2)).1).R))]], boxR b31 110 [[(slV x19.bh x19.b)], [(.bool x19.bad)]], boxR b26 69 [[(.int .i64 (((rdAt q).1).T))], [(.int .i64 (((rdAt q).1).R))]], boxR b14 110 [[(.slice none 0 0)], [(.bool false)]], boxR b9 77 [[(.int .i64 0)], [(.int .i64 0)], [(.int .i64 0)], [(.int .i64 0)], [(.string ByteArray.empty)], (idCells zeroId), [(.slice none 0 0)]], boxR b4 110 [[(slV r.bh r.b)], [(.bool r.bad)]]]) (I' := [slI Fr encB 1 x175.bh x175.b, slI Fr encB 1 x80.bh x80.b, slI Fr encB 1 x65.bh x65.b, slI Fr encB 1 x42.bh x42.b, slI Fr encB 1 x19.bh x19.b, slI Fr encB 1 r.bh r.b]) (List.Sublist.cons _ (List.Sublist.cons _ (List.Sublist.cons _ (List.Sublist.cons _ (List.Sublist.cons _ (List.Sublist.cons_cons _ (List.Sublist.cons_cons _ (List.Sublist.cons_cons _ (List.Sublist.cons_cons _ (List.Sublist.cons_cons _ (List.Sublist.cons_cons _ (List.Sublist.cons_cons _ (List.Sublist.cons_cons _ (List.Sublist.cons_cons _ (List.Sublist.cons_cons _ (List.Sublist.cons_cons _ (List.Sublist.cons_cons _ (List.Sublist.cons_cons _ List.Sublist.slnil)))))))))))))))))) (List.forall_mem_cons.2 ⟨List.mem_of_getElem? (i := 0) rfl, List.forall_mem_cons.2 ⟨List.mem_of_getElem? (i := 3) rfl, List.forall_mem_cons.2 ⟨List.mem_of_getElem? (i := 4) rfl, List.forall_mem_cons.2 ⟨List.mem_of_getElem? (i := 5) rfl, List.forall_mem_cons.2 ⟨List.mem_of_getElem? (i := 6) rfl, List.forall_mem_cons.2 ⟨List.mem_of_getElem? (i := 7) rfl, fun _ h => (nomatch h)⟩⟩⟩⟩⟩⟩)
  refine ⟨_, ?_, (k + 1), (acc ++ ([({ tm := ((rdAt rq).1), data := (rdId ((rdAt rq).2)).1 } : Head)] : List Head)), x175, ((rdHead rq).2), h203, rfl, (by omega), hm, (by simp only [List.length_append, List.length_cons, List.length_nil]; omega), hr178, (headsR_next hgo (by omega) (by rw [← hrr]; exact (hc151).2)), _, envL_self ⟨rfl, rfl, rfl, rfl, rfl, rfl, trivial⟩, H213⟩
  omega
 ·have hc151 : (¬ (((k : Nat) : Int) < ((((rdNum ((rdId ((rdText ((rdAt ((rdAt q).2)).2) 60).2)).2) 1000).1) : Nat) : Int)) ∨ rr.bad = true) := (Or.imp (fun h => (of_decide_eq_false h)) (fun h => (notF h)) (andF hc151))
  refine W_exit (Then_x (Then_x (Blk_x (Then_n (W_seq ?_)))))
  refine W_rgdM TryzMixed (fun c => c = b9) (fun i => if i == 2 then 1 else if i == 3 then 2 else 0) [(0, .q 1), (1, .q 1), (2, .c 1), (3, .c 2)] (by kernel_rfl) ?_
  refine Lx_q (i := 0) rfl rfl _ (fun v214 hv215 => R_loadA (cs := [[(.int .i64 (((rdAt q).1).T))], [(.int .i64 (((rdAt q).1).R))], [(.int .i64 (((rdAt ((rdAt q).2)).1).T))], [(.int .i64 (((rdAt ((rdAt q).2)).1).R))], [(.string ((rdText ((rdAt ((rdAt q).2)).2) 60).1))], (idCells ((rdId ((rdText ((rdAt ((rdAt q).2)).2) 60).2)).1)), [(slV ho acc)]]) Tryz.isAgg77 Tryz.sizeOf77 rfl rfl ((boxR_at (H150.ownGr 1 11 (by decide) rfl rfl hv215 (fun _ h => congrArg some h.symm))).chunks 0 7 0 0 _ rfl rfl rfl) ⟨rfl, Gr.refl _ _⟩) ?_
  refine Lx_q (i := 1) rfl rfl _ (fun v216 hv217 => R_loadA (cs := [[(slV rr.bh rr.b)], [(.bool rr.bad)]]) Tryz.isAgg110 Tryz.sizeOf110 rfl rfl ((boxR_at (H150.ownGr 2 11 (by decide) rfl rfl hv217 (fun _ h => congrArg some h.symm))).chunks 0 2 0 0 _ rfl rfl rfl) ⟨rfl, Gr.refl _ _⟩) ?_
  refine Lx_cu (i := 2) rfl (fun w218 hw219 => ?_)
  have H220 := H150.ext hw219
  refine (C_storeA H220 11 rfl 0 (sub := [[(.int .i64 (((rdAt q).1).T))], [(.int .i64 (((rdAt q).1).R))], [(.int .i64 (((rdAt ((rdAt q).2)).1).T))], [(.int .i64 (((rdAt ((rdAt q).2)).1).R))], [(.string ((rdText ((rdAt ((rdAt q).2)).2) 60).1))], (idCells ((rdId ((rdText ((rdAt ((rdAt q).2)).2) 60).2)).1)), [(slV ho acc)]]) [[(.int .i64 (((rdAt q).1).T))], [(.int .i64 (((rdAt q).1).R))], [(.int .i64 (((rdAt ((rdAt q).2)).1).T))], [(.int .i64 (((rdAt ((rdAt q).2)).1).R))], [(.string ((rdText ((rdAt ((rdAt q).2)).2) 60).1))], (idCells ((rdId ((rdText ((rdAt ((rdAt q).2)).2) 60).2)).1)), [(slV ho acc)]] Tryz.sizeOf77 rfl rfl rfl rfl ⟨[[(.int .i64 0)], [(.int .i64 0)], [(.int .i64 0)], [(.int .i64 0)], [(.string ByteArray.empty)], (idCells zeroId), [(.slice none 0 0)]], [], rfl, rfl, rfl⟩ rfl ?_)
  intro w221 hg222 H223
  refine ⟨Gr.mono hg222 (fun _ h => (Option.some.inj h).symm), ?_⟩
  refine Lx_cu (i := 3) rfl (fun w224 hw225 => ?_)
  have H226 := H223.ext hw225
  refine (C_storeA H226 10 rfl 0 (sub := [[(slV rr.bh rr.b)], [(.bool rr.bad)]]) [[(slV rr.bh rr.b)], [(.bool rr.bad)]] Tryz.sizeOf110 rfl rfl rfl rfl ⟨[[(.slice none 0 0)], [(.bool false)]], [], rfl, rfl, rfl⟩ rfl ?_)
  intro w227 hg228 H229
  refine ⟨Gr.mono (M' := fun _ => True) hg228 (fun _ _ => trivial), ?_⟩
  refine Lx_nil (fun w230 hw231 => ?_)
  have H232 := H229.ext hw231
  refine Then_n (W_ret ?_)
  refine ret_cc Tryz.results74 (inMem (cs := [[(.int .i64 (((rdAt q).1).T))], [(.int .i64 (((rdAt q).1).R))], [(.int .i64 (((rdAt ((rdAt q).2)).1).T))], [(.int .i64 (((rdAt ((rdAt q).2)).1).R))], [(.string ((rdText ((rdAt ((rdAt q).2)).2) 60).1))], (idCells ((rdId ((rdText ((rdAt ((rdAt q).2)).2) 60).2)).1)), [(slV ho acc)]]) rfl Tryz.isAgg77 Tryz.sizeOf77 rfl (boxR_at (H232.getOwn 11 rfl))) (inMem (cs := [[(slV rr.bh rr.b)], [(.bool rr.bad)]]) rfl Tryz.isAgg110 Tryz.sizeOf110 rfl (boxR_at (H232.getOwn 10 rfl))) ?_
  exact ⟨({ node := ((rdAt q).1), tm := ((rdAt ((rdAt q).2)).1), name := (rdText ((rdAt ((rdAt q).2)).2) 60).1, sub := (rdId ((rdText ((rdAt ((rdAt q).2)).2) 60).2)).1, heads := acc, hh := ho } : ItemS), rr, rfl, H232.gr, H232.retRow 0 rfl, (congrArg (ItemC.mk _ _ _ _) (congrArg Prod.fst (headsR_end hgo hrr hc151))), (hrr.trans (congrArg Prod.snd (headsR_end hgo hrr hc151))), (H232.sl 0 rfl)⟩

end Go.Proofs.YthjdhfoeckfmbaaGreat
