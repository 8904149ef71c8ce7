/- Proved: for every input, pollardlaw04.ObjLabels returns true and leaves its argument as it was. No condition. -/
import Derived.Test.YthjdhfoeckfmbaaGreatX3
namespace Go.Proofs.YthjdhfoeckfmbaaGreat
open Go
set_option maxRecDepth 100000
set_option linter.unusedVariables false
set_option linter.unusedSimpArgs false
set_option linter.unusedSectionVars false
variable [DD]
set_option maxHeartbeats 1000000 in
theorem rise_Head (ha : SlH) (a : List Head) (kcmp : FuncId) (ccmp : Array Value) (f : Head → Head → Int) (w : World) (Sa : Sl (Old w) headCh 34 ha a w) (Kcmp : callable Tryz.prog kcmp = true) (Ccmp : ∀ x ∈ a, ∀ y ∈ a, ∀ w1, Ext w w1 → Calls Tryz.prog kcmp (#[headV x, headV y] ++ ccmp) w1 (Ret fun v w2 => v = .int .i64 (f x y) ∧ Ext w1 w2)) :
    Calls Tryz.prog 112 #[(slV ha a), (.func (.func kcmp) #[] ccmp)] w (Ret fun v w' => v = (.bool (riseBy f a)) ∧ Ext w w') := by
 refine calls_W Tryz.func112 rfl Tryz.ntmps112 rfl ?_
 have H0 := Ctx.start w nob
 have H1 := H0.addSl _ Sa (fun b hb => ⟨hb, fun _ ho => (nomatch ho)⟩)
 have LSa := Sa.len
 refine W_seq (W_reg ?_)
 refine O_v rfl (R_assign (v := (.bool false)) rfl ?_)
 refine O_nil (Then_n (W_seq (W_seq (W_reg ?_))))
 refine O_v rfl (R_assign (v := (.int .i64 1)) rfl ?_)
 refine O_nil (Then_n (W_block ?_))
 refine W_loop (fun m2 e3 w4 => ∃ (k : Nat), m2 = a.length - k ∧ (1 ≤ k) ∧ (k ≤ max a.length 1) ∧ (∀ i, i < k → 1 ≤ i → f (nth a (i - 1)) (nth a i) < 0) ∧ ∃ eb5, e3 = envL [(0, (slV ha a)), (1, (.func (.func kcmp) #[] ccmp)), (5, (.int .i64 ((k : Nat) : Int)))] eb5 ∧ Ctx w nob w4 [] [slI (Old w) headCh 34 ha a]) _ ⟨1, rfl, (by omega), (by omega), (fun i h1 h2 => by omega), _, envL_self ⟨rfl, rfl, rfl, trivial⟩, H1⟩ ?_
 rintro m2 _ w4 ⟨k, rfl, h1, hk, hn, eb5, rfl, H6⟩
 refine W_seq (W_seq (W_reg ?_))
 refine O_v rfl (R_move (v := (.int .i64 ((k : Nat) : Int))) rfl ?_)
 refine O_v rfl (R_move (v := (slV ha a)) rfl ?_)
 refine O_v rfl (R_len_slice (a := ha.a) (n := a.length) (c := ha.c) Tryz.underlying75 rfl ?_)
 refine O_v rfl (R_cmp (a := ((k : Nat) : Int)) (b := ((a.length : Nat) : Int)) (r := (decide (((k : Nat) : Int) < ((a.length : Nat) : Int)))) rfl rfl rfl ?_)
 refine O_nil (Then_n ?_)
 refine W_cond (t := (decide (((k : Nat) : Int) < ((a.length : Nat) : Int)))) rfl (fun hc7 => ?_) (fun hc7 => ?_)
 ·have hc7 : (((k : Nat) : Int) < ((a.length : Nat) : Int)) := (of_decide_eq_true hc7)
  refine W_skip (Then_n (W_seq (W_block (W_seq ?_))))
  refine W_rgd TryzMixed [(0, .q 0), (1, .q 0), (2, .q 0), (3, .q 0), (4, .q 0), (5, .q 0), (6, .q 0), (7, .q 0), (8, .q 0), (9, .q 0), (10, .q 0), (11, .q 0)] (by kernel_rfl) ?_
  refine Lx_q (i := 0) rfl rfl _ (fun v8 hv9 => R_move (v := (.func (.func kcmp) #[] ccmp)) rfl ⟨rfl, Gr.refl _ _⟩) ?_
  refine Lx_q (i := 1) rfl rfl _ (fun v10 hv11 => R_move (v := (slV ha a)) rfl ⟨rfl, Gr.refl _ _⟩) ?_
  refine Lx_q (i := 2) rfl rfl _ (fun v12 hv13 => R_move (v := (.int .i64 ((k : Nat) : Int))) rfl ⟨rfl, Gr.refl _ _⟩) ?_
  refine Lx_q (i := 3) rfl rfl _ (fun v14 hv15 => R_arith (a := ((k : Nat) : Int)) (b := 1) (r0 := ((k : Nat) : Int) - 1) (r := ((k - 1 : Nat) : Int)) rfl rfl rfl (wrapP _ (by omega) (by omega)) ⟨rfl, Gr.refl _ _⟩) ?_
  refine Lx_q (i := 4) rfl rfl _ (fun v16 hv17 => R_index_pure (H6.sl 0 rfl) (n := a.length) rfl (j := ((k - 1 : Nat) : Int)) (oo := (ha.o + (k - 1) * 34)) Tryz.underlying75 Tryz.sizeOf84 rfl rfl (by omega) (by omega) rfl ⟨rfl, Gr.refl _ _⟩) ?_
  refine Lx_q (i := 5) rfl rfl _ (fun v18 hv19 => R_loadA (cs := [[(.int .i64 (((nth a (k - 1)).tm).T))], [(.int .i64 (((nth a (k - 1)).tm).R))], (idCells ((nth a (k - 1)).data))]) Tryz.isAgg84 Tryz.sizeOf84 rfl rfl ((Sl.elem ((H6.ext hv19).sl 0 rfl) (i := (k - 1)) (by omega) rfl).chunks 0 3 0 (ha.o + (k - 1) * 34) _ rfl rfl rfl) ⟨rfl, Gr.refl _ _⟩) ?_
  refine Lx_q (i := 6) rfl rfl _ (fun v20 hv21 => R_move (v := (slV ha a)) rfl ⟨rfl, Gr.refl _ _⟩) ?_
  refine Lx_q (i := 7) rfl rfl _ (fun v22 hv23 => R_move (v := (.int .i64 ((k : Nat) : Int))) rfl ⟨rfl, Gr.refl _ _⟩) ?_
  refine Lx_q (i := 8) rfl rfl _ (fun v24 hv25 => R_index_pure (H6.sl 0 rfl) (n := a.length) rfl (j := ((k : Nat) : Int)) (oo := (ha.o + k * 34)) Tryz.underlying75 Tryz.sizeOf84 rfl rfl (by omega) (by omega) rfl ⟨rfl, Gr.refl _ _⟩) ?_
  refine Lx_q (i := 9) rfl rfl _ (fun v26 hv27 => R_loadA (cs := [[(.int .i64 (((nth a k).tm).T))], [(.int .i64 (((nth a k).tm).R))], (idCells ((nth a k).data))]) Tryz.isAgg84 Tryz.sizeOf84 rfl rfl ((Sl.elem ((H6.ext hv27).sl 0 rfl) (i := k) (by omega) rfl).chunks 0 3 0 (ha.o + k * 34) _ rfl rfl rfl) ⟨rfl, Gr.refl _ _⟩) ?_
  refine Lx_q (i := 10) rfl rfl (.int .i64 (f (nth a (k - 1)) (nth a k))) (fun v28 hv29 => R_callV (vs := [(aggOf (headCh (nth a (k - 1)))), (aggOf (headCh (nth a k)))]) Kcmp rfl rfl (Ccmp _ (nth_mem (by omega)) _ (nth_mem (by omega)) v28 (H6.ext hv29).gr)) ?_
  refine Lx_q (i := 11) rfl rfl _ (fun v30 hv31 => R_cmp (a := f (nth a (k - 1)) (nth a k)) (b := 0) (r := (decide (0 ≤ f (nth a (k - 1)) (nth a k)))) rfl rfl rfl ⟨rfl, Gr.refl _ _⟩) ?_
  refine Lx_nil (fun w32 hw33 => ?_)
  have H34 := H6.ext hw33
  refine Then_n ?_
  refine W_cond (t := (decide (0 ≤ f (nth a (k - 1)) (nth a k)))) rfl (fun hc35 => ?_) (fun hc35 => ?_)
  ·have hc35 : (0 ≤ f (nth a (k - 1)) (nth a k)) := (of_decide_eq_true hc35)
   refine W_seq (W_reg ?_)
   refine O_v rfl (R_assign (v := (.bool false)) rfl ?_)
   refine O_nil (Then_n (W_ret (Blk_r (Then_r (Then_r (Blk_r (Then_r ?_)))))))
   refine ret_1 (v := (.bool false)) Tryz.results112 rfl ?_
   exact ⟨(boolF (fun h => by have := h k (by omega) (by omega); omega)), H34.gr⟩
  ·have hc35 : ¬ (0 ≤ f (nth a (k - 1)) (nth a k)) := (of_decide_eq_false hc35)
   refine W_skip (Blk_n (Then_n (W_reg ?_)))
   refine O_v rfl (R_move (v := (.int .i64 ((k : Nat) : Int))) rfl ?_)
   refine O_v rfl (R_arith (a := ((k : Nat) : Int)) (b := 1) (r0 := ((k : Nat) : Int) + 1) (r := ((k + 1 : Nat) : Int)) rfl rfl rfl (wrapN _ (by omega)) ?_)
   refine O_v rfl (R_assign (v := (.int .i64 ((k + 1 : Nat) : Int))) rfl ?_)
   refine O_nil (Then_n ?_)
   refine ⟨_, ?_, (k + 1), rfl, (by omega), (by omega), (rise_succ hn (by omega)), _, envL_self ⟨rfl, rfl, rfl, trivial⟩, H34⟩
   omega
 ·have hc7 : ¬ (((k : Nat) : Int) < ((a.length : Nat) : Int)) := (of_decide_eq_false hc7)
  refine W_exit (Then_x (Then_x (Blk_x (Then_n (W_seq (W_reg ?_))))))
  refine O_v rfl (R_assign (v := (.bool true)) rfl ?_)
  refine O_nil (Then_n (W_ret ?_))
  refine ret_1 (v := (.bool true)) Tryz.results112 rfl ?_
  exact ⟨(boolT (fun i h1 h2 => hn i (by omega) h2)), H6.gr⟩

end Go.Proofs.YthjdhfoeckfmbaaGreat
namespace Go.Proofs.YthjdhfoeckfmbaaGreat
open Go
set_option maxRecDepth 100000
set_option linter.unusedVariables false
set_option linter.unusedSimpArgs false
set_option linter.unusedSectionVars false
theorem obj_rightItem_c84 : callable Tryz.prog 84 = true := by kernel_rfl
theorem obj_rightItem_c100 : callable Tryz.prog 100 = true := by kernel_rfl
theorem obj_rightItem_c108 : callable Tryz.prog 108 = true := by kernel_rfl
theorem obj_rightItem_c112 : callable Tryz.prog 112 = true := by kernel_rfl
theorem obj_rightItem_c113 : callable Tryz.prog 113 = true := by kernel_rfl
set_option maxHeartbeats 2000000 in
theorem obj_rightItem (x : ItemS) (w : World) (Sx_heads : Sl (Old w) headCh 34 x.hh x.heads w) :
    Calls Tryz.prog 81 #[(aggOf (itemCh x))] w (Ret fun v w' => v = (.bool (itemOkS x)) ∧ Ext w w') := by
 refine calls_W Tryz.func81 rfl Tryz.ntmps81 rfl ?_
 have H0 := Ctx.start w nob
 have H1 := H0.addSl _ Sx_heads (fun b hb => ⟨hb, fun _ ho => (nomatch ho)⟩)
 have LSx_heads := Sx_heads.len
 refine W_seq (W_reg ?_)
 refine O_v rfl (C_box H1 [[(.int .i64 x.node.T)], [(.int .i64 x.node.R)], [(.int .i64 x.tm.T)], [(.int .i64 x.tm.R)], [(.string x.name)], (idCells x.sub), [(slV x.hh x.heads)]] rfl ?_)
 intro b2 w3 hb4 hx5 H6
 refine O_v rfl (R_assign (v := (.bool false)) rfl ?_)
 refine O_nil (Then_n (W_seq (W_seq ?_)))
 refine W_rg [(0, .q 0), (1, .q 0), (2, .q 0), (3, .q 0), (4, .q 0), (5, .q 0), (6, .q 0), (7, .q 0), (8, .q 0), (9, .q 0), (10, .q 0), (11, .q 0), (12, .q 0), (13, .q 0), (14, .q 0), (15, .q 0), (16, .q 0), (17, .q 0), (18, .q 0), (19, .q 0), (20, .q 0), (21, .q 0), (22, .q 0), (23, .q 0), (24, .q 0), (25, .q 0), (26, .q 0), (27, .q 0), (28, .q 0), (29, .q 0)] (by kernel_rfl) ?_
 refine Lx_q (i := 0) rfl rfl _ (fun v7 hv8 => R_fieldAddr (off := 0) (oo := 0) Tryz.underlying77 rfl rfl Tryz.sizeOf69 rfl rfl ⟨rfl, Gr.refl _ _⟩) ?_
 refine Lx_q (i := 1) rfl rfl _ (fun v9 hv10 => R_loadA (cs := [[(.int .i64 x.node.T)], [(.int .i64 x.node.R)]]) Tryz.isAgg69 Tryz.sizeOf69 rfl rfl ((boxR_at ((H6.ext hv10).getOwn 0 rfl)).chunks 0 2 0 0 _ rfl rfl rfl) ⟨rfl, Gr.refl _ _⟩) ?_
 refine Lx_q (i := 2) rfl rfl (.bool (stRight x.node)) (fun v11 hv12 => R_callL (vs := [(aggOf (stampCh x.node))]) obj_rightItem_c100 rfl rfl (stamp_Right x.node v11 )) ?_
 refine Lx_q (i := 3) rfl rfl _ (fun v13 hv14 => R_not rfl ⟨rfl, Gr.refl _ _⟩) ?_
 refine Lx_q (i := 4) rfl rfl _ (fun v15 hv16 => R_move (v := (.bool (!(stRight x.node)))) rfl ⟨rfl, Gr.refl _ _⟩) ?_
 refine Lx_qg (i := 5) true (!(stRight x.node)) rfl rfl rfl rfl rfl (!(!(stRight x.node))) ga_f _ (fun hA v17 hv18 => R_fieldAddr (off := 2) (oo := 2) Tryz.underlying77 rfl rfl Tryz.sizeOf69 rfl rfl ⟨rfl, Gr.refl _ _⟩) ?_
 refine Lx_qg (i := 6) true (!(stRight x.node)) rfl rfl rfl rfl rfl (!(!(stRight x.node))) ga_f _ (fun hA v19 hv20 => R_loadA (cs := [[(.int .i64 x.tm.T)], [(.int .i64 x.tm.R)]]) Tryz.isAgg69 Tryz.sizeOf69 rfl (gv_t hA) ((boxR_at ((H6.ext hv20).getOwn 0 rfl)).chunks 2 2 2 2 _ rfl rfl rfl) ⟨rfl, Gr.refl _ _⟩) ?_
 refine Lx_qg (i := 7) true (!(stRight x.node)) rfl rfl rfl rfl rfl (!(!(stRight x.node))) ga_f (.bool (stRight x.tm)) (fun hA v21 hv22 => R_callL (vs := [(aggOf (stampCh x.tm))]) obj_rightItem_c100 rfl (lst1 (gv_t hA)) (stamp_Right x.tm v21 )) ?_
 refine Lx_qg (i := 8) true (!(stRight x.node)) rfl rfl rfl rfl rfl (!(!(stRight x.node))) ga_f _ (fun hA v23 hv24 => R_not (gv_t hA) ⟨rfl, Gr.refl _ _⟩) ?_
 refine Lx_q (i := 9) rfl rfl _ (fun v25 hv26 => R_pick (t := (!(stRight x.node))) (v := (.bool ((!(stRight x.node)) || (!(stRight x.tm))))) rfl pk_or ⟨rfl, Gr.refl _ _⟩) ?_
 refine Lx_q (i := 10) rfl rfl _ (fun v27 hv28 => R_move (v := (.bool ((!(stRight x.node)) || (!(stRight x.tm))))) rfl ⟨rfl, Gr.refl _ _⟩) ?_
 refine Lx_qg (i := 11) true ((!(stRight x.node)) || (!(stRight x.tm))) rfl rfl rfl rfl rfl (!((!(stRight x.node)) || (!(stRight x.tm)))) ga_f _ (fun hA v29 hv30 => R_fieldAddr (off := 2) (oo := 2) Tryz.underlying77 rfl rfl Tryz.sizeOf69 rfl rfl ⟨rfl, Gr.refl _ _⟩) ?_
 refine Lx_qg (i := 12) true ((!(stRight x.node)) || (!(stRight x.tm))) rfl rfl rfl rfl rfl (!((!(stRight x.node)) || (!(stRight x.tm)))) ga_f _ (fun hA v31 hv32 => R_loadA (cs := [[(.int .i64 x.tm.T)], [(.int .i64 x.tm.R)]]) Tryz.isAgg69 Tryz.sizeOf69 rfl (gv_t hA) ((boxR_at ((H6.ext hv32).getOwn 0 rfl)).chunks 2 2 2 2 _ rfl rfl rfl) ⟨rfl, Gr.refl _ _⟩) ?_
 refine Lx_qg (i := 13) true ((!(stRight x.node)) || (!(stRight x.tm))) rfl rfl rfl rfl rfl (!((!(stRight x.node)) || (!(stRight x.tm)))) ga_f _ (fun hA v33 hv34 => R_fieldAddr (off := 0) (oo := 0) Tryz.underlying77 rfl rfl Tryz.sizeOf69 rfl rfl ⟨rfl, Gr.refl _ _⟩) ?_
 refine Lx_qg (i := 14) true ((!(stRight x.node)) || (!(stRight x.tm))) rfl rfl rfl rfl rfl (!((!(stRight x.node)) || (!(stRight x.tm)))) ga_f _ (fun hA v35 hv36 => R_loadA (cs := [[(.int .i64 x.node.T)], [(.int .i64 x.node.R)]]) Tryz.isAgg69 Tryz.sizeOf69 rfl (gv_t hA) ((boxR_at ((H6.ext hv36).getOwn 0 rfl)).chunks 0 2 0 0 _ rfl rfl rfl) ⟨rfl, Gr.refl _ _⟩) ?_
 refine Lx_qg (i := 15) true ((!(stRight x.node)) || (!(stRight x.tm))) rfl rfl rfl rfl rfl (!((!(stRight x.node)) || (!(stRight x.tm)))) ga_f (.int .i64 (cmpSt x.tm x.node)) (fun hA v37 hv38 => R_callL (vs := [(aggOf (stampCh x.tm)), (aggOf (stampCh x.node))]) obj_rightItem_c84 rfl (lst2 (gv_t hA) (gv_t hA)) (stamp_Cmp x.tm x.node v37 )) ?_
 refine Lx_qg (i := 16) true ((!(stRight x.node)) || (!(stRight x.tm))) rfl rfl rfl rfl rfl (!((!(stRight x.node)) || (!(stRight x.tm)))) ga_f _ (fun hA v39 hv40 => R_cmp (a := cmpSt x.tm x.node) (b := 0) (r := (decide (cmpSt x.tm x.node < 0))) (gv_t hA) rfl rfl ⟨rfl, Gr.refl _ _⟩) ?_
 refine Lx_q (i := 17) rfl rfl _ (fun v41 hv42 => R_pick (t := ((!(stRight x.node)) || (!(stRight x.tm)))) (v := (.bool (((!(stRight x.node)) || (!(stRight x.tm))) || (decide (cmpSt x.tm x.node < 0))))) rfl pk_or ⟨rfl, Gr.refl _ _⟩) ?_
 refine Lx_q (i := 18) rfl rfl _ (fun v43 hv44 => R_move (v := (.bool (((!(stRight x.node)) || (!(stRight x.tm))) || (decide (cmpSt x.tm x.node < 0))))) rfl ⟨rfl, Gr.refl _ _⟩) ?_
 refine Lx_qg (i := 19) true (((!(stRight x.node)) || (!(stRight x.tm))) || (decide (cmpSt x.tm x.node < 0))) rfl rfl rfl rfl rfl (!(((!(stRight x.node)) || (!(stRight x.tm))) || (decide (cmpSt x.tm x.node < 0)))) ga_f _ (fun hA v45 hv46 => R_fieldAddr (off := 4) (oo := 4) Tryz.underlying77 rfl rfl Tryz.sizeOf9 rfl rfl ⟨rfl, Gr.refl _ _⟩) ?_
 refine Lx_qg (i := 20) true (((!(stRight x.node)) || (!(stRight x.tm))) || (decide (cmpSt x.tm x.node < 0))) rfl rfl rfl rfl rfl (!(((!(stRight x.node)) || (!(stRight x.tm))) || (decide (cmpSt x.tm x.node < 0)))) ga_f _ (fun hA v47 hv48 => R_load1 (v := (.string x.name)) Tryz.isAgg9 (gv_t hA) ((boxR_at ((H6.ext hv48).getOwn 0 rfl)).chunks 4 1 4 4 _ rfl rfl rfl) ⟨rfl, Gr.refl _ _⟩) ?_
 refine Lx_qg (i := 21) true (((!(stRight x.node)) || (!(stRight x.tm))) || (decide (cmpSt x.tm x.node < 0))) rfl rfl rfl rfl rfl (!(((!(stRight x.node)) || (!(stRight x.tm))) || (decide (cmpSt x.tm x.node < 0)))) ga_f (.bool (nameOk x.name)) (fun hA v49 hv50 => R_callL (vs := [(.string x.name)]) obj_rightItem_c108 rfl (lst1 (gv_t hA)) (stamp_Name x.name v49 )) ?_
 refine Lx_qg (i := 22) true (((!(stRight x.node)) || (!(stRight x.tm))) || (decide (cmpSt x.tm x.node < 0))) rfl rfl rfl rfl rfl (!(((!(stRight x.node)) || (!(stRight x.tm))) || (decide (cmpSt x.tm x.node < 0)))) ga_f _ (fun hA v51 hv52 => R_not (gv_t hA) ⟨rfl, Gr.refl _ _⟩) ?_
 refine Lx_q (i := 23) rfl rfl _ (fun v53 hv54 => R_pick (t := (((!(stRight x.node)) || (!(stRight x.tm))) || (decide (cmpSt x.tm x.node < 0)))) (v := (.bool ((((!(stRight x.node)) || (!(stRight x.tm))) || (decide (cmpSt x.tm x.node < 0))) || (!(nameOk x.name))))) rfl pk_or ⟨rfl, Gr.refl _ _⟩) ?_
 refine Lx_q (i := 24) rfl rfl _ (fun v55 hv56 => R_move (v := (.bool ((((!(stRight x.node)) || (!(stRight x.tm))) || (decide (cmpSt x.tm x.node < 0))) || (!(nameOk x.name))))) rfl ⟨rfl, Gr.refl _ _⟩) ?_
 refine Lx_qg (i := 25) true ((((!(stRight x.node)) || (!(stRight x.tm))) || (decide (cmpSt x.tm x.node < 0))) || (!(nameOk x.name))) rfl rfl rfl rfl rfl (!((((!(stRight x.node)) || (!(stRight x.tm))) || (decide (cmpSt x.tm x.node < 0))) || (!(nameOk x.name)))) ga_f _ (fun hA v57 hv58 => R_fieldAddr (off := 37) (oo := 37) Tryz.underlying77 rfl rfl Tryz.sizeOf75 rfl rfl ⟨rfl, Gr.refl _ _⟩) ?_
 refine Lx_qg (i := 26) true ((((!(stRight x.node)) || (!(stRight x.tm))) || (decide (cmpSt x.tm x.node < 0))) || (!(nameOk x.name))) rfl rfl rfl rfl rfl (!((((!(stRight x.node)) || (!(stRight x.tm))) || (decide (cmpSt x.tm x.node < 0))) || (!(nameOk x.name)))) ga_f _ (fun hA v59 hv60 => R_load1 (v := (slV x.hh x.heads)) Tryz.isAgg75 (gv_t hA) ((boxR_at ((H6.ext hv60).getOwn 0 rfl)).chunks 6 1 37 37 _ rfl rfl rfl) ⟨rfl, Gr.refl _ _⟩) ?_
 refine Lx_qg (i := 27) true ((((!(stRight x.node)) || (!(stRight x.tm))) || (decide (cmpSt x.tm x.node < 0))) || (!(nameOk x.name))) rfl rfl rfl rfl rfl (!((((!(stRight x.node)) || (!(stRight x.tm))) || (decide (cmpSt x.tm x.node < 0))) || (!(nameOk x.name)))) ga_f _ (fun hA v61 hv62 => R_len_slice (a := x.hh.a) (n := x.heads.length) (c := x.hh.c) Tryz.underlying75 (gv_t hA) ⟨rfl, Gr.refl _ _⟩) ?_
 refine Lx_qg (i := 28) true ((((!(stRight x.node)) || (!(stRight x.tm))) || (decide (cmpSt x.tm x.node < 0))) || (!(nameOk x.name))) rfl rfl rfl rfl rfl (!((((!(stRight x.node)) || (!(stRight x.tm))) || (decide (cmpSt x.tm x.node < 0))) || (!(nameOk x.name)))) ga_f _ (fun hA v63 hv64 => R_cmp (a := ((x.heads.length : Nat) : Int)) (b := 1000) (r := (decide (1000 < ((x.heads.length : Nat) : Int)))) (gv_t hA) rfl rfl ⟨rfl, Gr.refl _ _⟩) ?_
 refine Lx_q (i := 29) rfl rfl _ (fun v65 hv66 => R_pick (t := ((((!(stRight x.node)) || (!(stRight x.tm))) || (decide (cmpSt x.tm x.node < 0))) || (!(nameOk x.name)))) (v := (.bool (((((!(stRight x.node)) || (!(stRight x.tm))) || (decide (cmpSt x.tm x.node < 0))) || (!(nameOk x.name))) || (decide (1000 < ((x.heads.length : Nat) : Int)))))) rfl pk_or ⟨rfl, Gr.refl _ _⟩) ?_
 refine Lx_nil (fun w67 hw68 => ?_)
 have H69 := H6.ext hw68
 refine Then_n ?_
 refine W_cond (t := (((((!(stRight x.node)) || (!(stRight x.tm))) || (decide (cmpSt x.tm x.node < 0))) || (!(nameOk x.name))) || (decide (1000 < ((x.heads.length : Nat) : Int))))) rfl (fun hc70 => ?_) (fun hc70 => ?_)
 ·have hc70 : (((((stRight x.node) = false ∨ (stRight x.tm) = false) ∨ (cmpSt x.tm x.node < 0)) ∨ (nameOk x.name) = false) ∨ (1000 < ((x.heads.length : Nat) : Int))) := (Or.imp (fun h => (Or.imp (fun h => (Or.imp (fun h => (Or.imp (fun h => (notT h)) (fun h => (notT h)) (orT h))) (fun h => (of_decide_eq_true h)) (orT h))) (fun h => (notT h)) (orT h))) (fun h => (of_decide_eq_true h)) (orT hc70))
  refine W_seq (W_reg ?_)
  refine O_v rfl (R_assign (v := (.bool false)) rfl ?_)
  refine O_nil (Then_n (W_ret (Then_r ?_)))
  refine ret_1 (v := (.bool false)) Tryz.results81 rfl ?_
  exact ⟨(itemOk_f1 (by assumption)), H69.gr⟩
 ·have hc70 : (((((stRight x.node) = true ∧ (stRight x.tm) = true) ∧ ¬ (cmpSt x.tm x.node < 0)) ∧ (nameOk x.name) = true) ∧ ¬ (1000 < ((x.heads.length : Nat) : Int))) := (And.imp (fun h => (And.imp (fun h => (And.imp (fun h => (And.imp (fun h => (notF h)) (fun h => (notF h)) (orF h))) (fun h => (of_decide_eq_false h)) (orF h))) (fun h => (notF h)) (orF h))) (fun h => (of_decide_eq_false h)) (orF hc70))
  refine W_skip (Then_n (W_seq (W_seq (W_reg ?_))))
  refine O_v rfl (R_fieldAddr (off := 37) (oo := 37) Tryz.underlying77 rfl rfl Tryz.sizeOf75 rfl rfl ?_)
  refine O_v rfl (R_load1 (v := (slV x.hh x.heads)) Tryz.isAgg75 rfl ((boxR_at (H69.getOwn 0 rfl)).chunks 6 1 37 37 _ rfl rfl rfl) ?_)
  refine O_v rfl (R_len_slice (a := x.hh.a) (n := x.heads.length) (c := x.hh.c) Tryz.underlying75 rfl ?_)
  refine O_v rfl (R_move (v := (.int .i64 0)) rfl ?_)
  refine O_nil (Then_n (W_block ?_))
  refine W_loop (fun m71 e72 w73 => ∃ (k : Nat), m71 = x.heads.length - k ∧ (k ≤ x.heads.length) ∧ (∀ i, i < k → itemHead1 x.node x.heads i) ∧ ∃ eb74, e72 = envL [(1, (.pointer (some ⟨b2, 0, none⟩))), (36, (slV x.hh x.heads)), (37, (.int .i64 ((x.heads.length : Nat) : Int))), (38, (.int .i64 ((k : Nat) : Int)))] eb74 ∧ Ctx w nob w73 [boxR b2 77 [[(.int .i64 x.node.T)], [(.int .i64 x.node.R)], [(.int .i64 x.tm.T)], [(.int .i64 x.tm.R)], [(.string x.name)], (idCells x.sub), [(slV x.hh x.heads)]]] [slI (Old w) headCh 34 x.hh x.heads]) _ ⟨0, rfl, (by omega), (all_zero _), _, envL_self ⟨rfl, rfl, rfl, rfl, trivial⟩, H69⟩ ?_
  rintro m71 _ w73 ⟨k, rfl, hk, hn, eb74, rfl, H75⟩
  refine W_seq (W_reg ?_)
  refine O_v rfl (R_cmp (a := ((k : Nat) : Int)) (b := ((x.heads.length : Nat) : Int)) (r := (decide (((k : Nat) : Int) < ((x.heads.length : Nat) : Int)))) rfl rfl rfl ?_)
  refine O_nil (Then_n (W_seq ?_))
  refine W_cond (t := (decide (((k : Nat) : Int) < ((x.heads.length : Nat) : Int)))) rfl (fun hc76 => ?_) (fun hc76 => ?_)
  ·have hc76 : (((k : Nat) : Int) < ((x.heads.length : Nat) : Int)) := (of_decide_eq_true hc76)
   refine W_skip (Then_n (W_seq (W_block (W_seq (W_reg ?_)))))
   refine O_v rfl (R_index_pure (H75.sl 0 rfl) (n := x.heads.length) rfl (j := ((k : Nat) : Int)) (oo := (x.hh.o + k * 34)) Tryz.underlying75 Tryz.sizeOf84 rfl rfl (by omega) (by omega) rfl ?_)
   refine O_v rfl (R_loadA (cs := [[(.int .i64 (((nth x.heads k).tm).T))], [(.int .i64 (((nth x.heads k).tm).R))], (idCells ((nth x.heads k).data))]) Tryz.isAgg84 Tryz.sizeOf84 rfl rfl ((Sl.elem (H75.sl 0 rfl) (i := k) (by omega) rfl).chunks 0 3 0 (x.hh.o + k * 34) _ rfl rfl rfl) ?_)
   refine O_v rfl (C_alloc H75 [[(.int .i64 0)], [(.int .i64 0)], (idCells zeroId)] Tryz.zeroValue84 ?_)
   intro b77 w78 hb79 hx80 H81
   refine O_u (C_storeA H81 0 rfl 0 (sub := [[(.int .i64 (((nth x.heads k).tm).T))], [(.int .i64 (((nth x.heads k).tm).R))], (idCells ((nth x.heads k).data))]) [[(.int .i64 (((nth x.heads k).tm).T))], [(.int .i64 (((nth x.heads k).tm).R))], (idCells ((nth x.heads k).data))] Tryz.sizeOf84 rfl rfl rfl rfl ⟨[[(.int .i64 0)], [(.int .i64 0)], (idCells zeroId)], [], rfl, rfl, rfl⟩ rfl ?_)
   intro w82 hg83 H84
   refine O_nil (Then_n (W_seq ?_))
   refine W_rg [(0, .q 0), (1, .q 0), (2, .q 0), (3, .q 0), (4, .q 0), (5, .q 0), (6, .q 0), (7, .q 0), (8, .q 0), (9, .q 0), (10, .q 0), (11, .q 0), (12, .q 0), (13, .q 0), (14, .q 0), (15, .q 0), (16, .q 0), (17, .q 0)] (by kernel_rfl) ?_
   refine Lx_q (i := 0) rfl rfl _ (fun v85 hv86 => R_fieldAddr (off := 0) (oo := 0) Tryz.underlying84 rfl rfl Tryz.sizeOf69 rfl rfl ⟨rfl, Gr.refl _ _⟩) ?_
   refine Lx_q (i := 1) rfl rfl _ (fun v87 hv88 => R_loadA (cs := [[(.int .i64 (((nth x.heads k).tm).T))], [(.int .i64 (((nth x.heads k).tm).R))]]) Tryz.isAgg69 Tryz.sizeOf69 rfl rfl ((boxR_at ((H84.ext hv88).getOwn 0 rfl)).chunks 0 2 0 0 _ rfl rfl rfl) ⟨rfl, Gr.refl _ _⟩) ?_
   refine Lx_q (i := 2) rfl rfl (.bool (stRight ((nth x.heads k).tm))) (fun v89 hv90 => R_callL (vs := [(aggOf (stampCh ((nth x.heads k).tm)))]) obj_rightItem_c100 rfl rfl (stamp_Right ((nth x.heads k).tm) v89 )) ?_
   refine Lx_q (i := 3) rfl rfl _ (fun v91 hv92 => R_not rfl ⟨rfl, Gr.refl _ _⟩) ?_
   refine Lx_q (i := 4) rfl rfl _ (fun v93 hv94 => R_move (v := (.bool (!(stRight ((nth x.heads k).tm))))) rfl ⟨rfl, Gr.refl _ _⟩) ?_
   refine Lx_qg (i := 5) true (!(stRight ((nth x.heads k).tm))) rfl rfl rfl rfl rfl (!(!(stRight ((nth x.heads k).tm)))) ga_f _ (fun hA v95 hv96 => R_fieldAddr (off := 0) (oo := 0) Tryz.underlying84 rfl rfl Tryz.sizeOf69 rfl rfl ⟨rfl, Gr.refl _ _⟩) ?_
   refine Lx_qg (i := 6) true (!(stRight ((nth x.heads k).tm))) rfl rfl rfl rfl rfl (!(!(stRight ((nth x.heads k).tm)))) ga_f _ (fun hA v97 hv98 => R_loadA (cs := [[(.int .i64 (((nth x.heads k).tm).T))], [(.int .i64 (((nth x.heads k).tm).R))]]) Tryz.isAgg69 Tryz.sizeOf69 rfl (gv_t hA) ((boxR_at ((H84.ext hv98).getOwn 0 rfl)).chunks 0 2 0 0 _ rfl rfl rfl) ⟨rfl, Gr.refl _ _⟩) ?_
   refine Lx_qg (i := 7) true (!(stRight ((nth x.heads k).tm))) rfl rfl rfl rfl rfl (!(!(stRight ((nth x.heads k).tm)))) ga_f _ (fun hA v99 hv100 => R_fieldAddr (off := 0) (oo := 0) Tryz.underlying77 rfl rfl Tryz.sizeOf69 rfl rfl ⟨rfl, Gr.refl _ _⟩) ?_
   refine Lx_qg (i := 8) true (!(stRight ((nth x.heads k).tm))) rfl rfl rfl rfl rfl (!(!(stRight ((nth x.heads k).tm)))) ga_f _ (fun hA v101 hv102 => R_loadA (cs := [[(.int .i64 x.node.T)], [(.int .i64 x.node.R)]]) Tryz.isAgg69 Tryz.sizeOf69 rfl (gv_t hA) ((boxR_at ((H84.ext hv102).getOwn 1 rfl)).chunks 0 2 0 0 _ rfl rfl rfl) ⟨rfl, Gr.refl _ _⟩) ?_
   refine Lx_qg (i := 9) true (!(stRight ((nth x.heads k).tm))) rfl rfl rfl rfl rfl (!(!(stRight ((nth x.heads k).tm)))) ga_f (.int .i64 (cmpSt ((nth x.heads k).tm) x.node)) (fun hA v103 hv104 => R_callL (vs := [(aggOf (stampCh ((nth x.heads k).tm))), (aggOf (stampCh x.node))]) obj_rightItem_c84 rfl (lst2 (gv_t hA) (gv_t hA)) (stamp_Cmp ((nth x.heads k).tm) x.node v103 )) ?_
   refine Lx_qg (i := 10) true (!(stRight ((nth x.heads k).tm))) rfl rfl rfl rfl rfl (!(!(stRight ((nth x.heads k).tm)))) ga_f _ (fun hA v105 hv106 => R_cmp (a := cmpSt ((nth x.heads k).tm) x.node) (b := 0) (r := (decide (cmpSt ((nth x.heads k).tm) x.node ≤ 0))) (gv_t hA) rfl rfl ⟨rfl, Gr.refl _ _⟩) ?_
   refine Lx_q (i := 11) rfl rfl _ (fun v107 hv108 => R_pick (t := (!(stRight ((nth x.heads k).tm)))) (v := (.bool ((!(stRight ((nth x.heads k).tm))) || (decide (cmpSt ((nth x.heads k).tm) x.node ≤ 0))))) rfl pk_or ⟨rfl, Gr.refl _ _⟩) ?_
   refine Lx_q (i := 12) rfl rfl _ (fun v109 hv110 => R_move (v := (.bool ((!(stRight ((nth x.heads k).tm))) || (decide (cmpSt ((nth x.heads k).tm) x.node ≤ 0))))) rfl ⟨rfl, Gr.refl _ _⟩) ?_
   refine Lx_qg (i := 13) true ((!(stRight ((nth x.heads k).tm))) || (decide (cmpSt ((nth x.heads k).tm) x.node ≤ 0))) rfl rfl rfl rfl rfl (!((!(stRight ((nth x.heads k).tm))) || (decide (cmpSt ((nth x.heads k).tm) x.node ≤ 0)))) ga_f _ (fun hA v111 hv112 => R_fieldAddr (off := 2) (oo := 2) Tryz.underlying84 rfl rfl Tryz.sizeOf45 rfl rfl ⟨rfl, Gr.refl _ _⟩) ?_
   refine Lx_qg (i := 14) true ((!(stRight ((nth x.heads k).tm))) || (decide (cmpSt ((nth x.heads k).tm) x.node ≤ 0))) rfl rfl rfl rfl rfl (!((!(stRight ((nth x.heads k).tm))) || (decide (cmpSt ((nth x.heads k).tm) x.node ≤ 0)))) ga_f _ (fun hA v113 hv114 => R_loadA (cs := [(idCells ((nth x.heads k).data))]) Tryz.isAgg45 Tryz.sizeOf45 rfl (gv_t hA) ((boxR_at ((H84.ext hv114).getOwn 0 rfl)).chunks 2 1 2 2 _ rfl rfl rfl) ⟨rfl, Gr.refl _ _⟩) ?_
   refine Lx_qg (i := 15) true ((!(stRight ((nth x.heads k).tm))) || (decide (cmpSt ((nth x.heads k).tm) x.node ≤ 0))) rfl rfl rfl rfl rfl (!((!(stRight ((nth x.heads k).tm))) || (decide (cmpSt ((nth x.heads k).tm) x.node ≤ 0)))) ga_f _ (fun hA v115 hv116 => R_buildL (vs := []) (v := aggOf [(idCells zeroId)]) rfl (fun _ => by kernel_rfl) ⟨rfl, Gr.refl _ _⟩) ?_
   refine Lx_qg (i := 16) true ((!(stRight ((nth x.heads k).tm))) || (decide (cmpSt ((nth x.heads k).tm) x.node ≤ 0))) rfl rfl rfl rfl rfl (!((!(stRight ((nth x.heads k).tm))) || (decide (cmpSt ((nth x.heads k).tm) x.node ≤ 0)))) ga_f _ (fun hA v117 hv118 => R_eqv (a := (nth x.heads k).data) (b := zeroId) eqv_ID45 rfl Tryz.eqGuardType45 (gv_t hA) (gv_t hA) ⟨rfl, Gr.refl _ _⟩) ?_
   refine Lx_q (i := 17) rfl rfl _ (fun v119 hv120 => R_pick (t := ((!(stRight ((nth x.heads k).tm))) || (decide (cmpSt ((nth x.heads k).tm) x.node ≤ 0)))) (v := (.bool (((!(stRight ((nth x.heads k).tm))) || (decide (cmpSt ((nth x.heads k).tm) x.node ≤ 0))) || (decide ((nth x.heads k).data = zeroId))))) rfl pk_or ⟨rfl, Gr.refl _ _⟩) ?_
   refine Lx_nil (fun w121 hw122 => ?_)
   have H123 := H84.ext hw122
   refine Then_n ?_
   refine W_cond (t := (((!(stRight ((nth x.heads k).tm))) || (decide (cmpSt ((nth x.heads k).tm) x.node ≤ 0))) || (decide ((nth x.heads k).data = zeroId)))) rfl (fun hc124 => ?_) (fun hc124 => ?_)
   ·have hc124 : (((stRight ((nth x.heads k).tm)) = false ∨ (cmpSt ((nth x.heads k).tm) x.node ≤ 0)) ∨ ((nth x.heads k).data = zeroId)) := (Or.imp (fun h => (Or.imp (fun h => (notT h)) (fun h => (of_decide_eq_true h)) (orT h))) (fun h => (of_decide_eq_true h)) (orT hc124))
    refine W_seq (W_reg ?_)
    refine O_v rfl (R_assign (v := (.bool false)) rfl ?_)
    refine O_nil (Then_n (W_ret (Blk_r (Then_r (Then_r (Blk_r (Then_r ?_)))))))
    refine ret_1 (v := (.bool false)) Tryz.results81 rfl ?_
    exact ⟨(itemOk_f3 (k := k) (by omega) (by assumption)), H123.gr⟩
   ·have hc124 : (((stRight ((nth x.heads k).tm)) = true ∧ ¬ (cmpSt ((nth x.heads k).tm) x.node ≤ 0)) ∧ ¬ ((nth x.heads k).data = zeroId)) := (And.imp (fun h => (And.imp (fun h => (notF h)) (fun h => (of_decide_eq_false h)) (orF h))) (fun h => (of_decide_eq_false h)) (orF hc124))
    refine W_skip (Blk_n (Then_n (W_reg ?_)))
    refine O_v rfl (R_arith (a := ((k : Nat) : Int)) (b := 1) (r0 := ((k : Nat) : Int) + 1) (r := ((k + 1 : Nat) : Int)) rfl rfl rfl (wrapN _ (by omega)) ?_)
    refine O_v rfl (R_move (v := (.int .i64 ((k + 1 : Nat) : Int))) rfl ?_)
    refine O_nil (Then_n ?_)
    have H125 := H123.sub (B' := [boxR b2 77 [[(.int .i64 x.node.T)], [(.int .i64 x.node.R)], [(.int .i64 x.tm.T)], [(.int .i64 x.tm.R)], [(.string x.name)], (idCells x.sub), [(slV x.hh x.heads)]]]) (I' := [slI (Old w) headCh 34 x.hh x.heads]) (List.Sublist.cons _ (List.Sublist.cons_cons _ List.Sublist.slnil)) (List.forall_mem_cons.2 ⟨List.mem_of_getElem? (i := 0) rfl, fun _ h => (nomatch h)⟩)
    refine ⟨_, ?_, (k + 1), rfl, (by omega), (all_succ hn (itemHead1_t (by assumption))), _, envL_self ⟨rfl, rfl, rfl, rfl, trivial⟩, H125⟩
    omega
  ·have hc76 : ¬ (((k : Nat) : Int) < ((x.heads.length : Nat) : Int)) := (of_decide_eq_false hc76)
   refine W_exit (Then_x (Then_x (Blk_x (Then_n (W_seq (W_reg ?_))))))
   refine O_v rfl (R_fieldAddr (off := 37) (oo := 37) Tryz.underlying77 rfl rfl Tryz.sizeOf75 rfl rfl ?_)
   refine O_v rfl (R_load1 (v := (slV x.hh x.heads)) Tryz.isAgg75 rfl ((boxR_at (H75.getOwn 0 rfl)).chunks 6 1 37 37 _ rfl rfl rfl) ?_)
   refine O_v rfl (R_callL (vs := [(slV x.hh x.heads), (.func (.func 113) #[] #[])]) obj_rightItem_c112 rfl rfl ((rise_Head x.hh x.heads 113 #[] (fun (a b : Head) => cmpSt a.tm b.tm) w73 (H75.slOld 0 rfl) obj_rightItem_c113 (fun x _ y _ w1 _ => callsCap0 (rightItem_1 x y w1))).ret ?_))
   rintro _ w126 ⟨rfl, hx127⟩
   have H128 := H75.ext hx127
   refine O_v rfl (R_assign (v := (.bool (riseBy (fun (a b : Head) => cmpSt a.tm b.tm) x.heads))) rfl ?_)
   refine O_nil (Then_n (W_ret ?_))
   refine ret_1 (v := (.bool (riseBy (fun (a b : Head) => cmpSt a.tm b.tm) x.heads))) Tryz.results81 rfl ?_
   exact ⟨(itemOk_e (by assumption) (by rwa [show x.heads.length = k from by omega])), H128.gr⟩

end Go.Proofs.YthjdhfoeckfmbaaGreat
namespace Go.Proofs.YthjdhfoeckfmbaaGreat
open Go
set_option maxRecDepth 100000
set_option linter.unusedVariables false
set_option linter.unusedSimpArgs false
set_option linter.unusedSectionVars false
theorem rightDir_1_c81 : callable Tryz.prog 81 = true := by kernel_rfl
set_option maxHeartbeats 1000000 in
theorem rightDir_1 (x : ItemS) (w : World) (Sx_heads : Sl (Old w) headCh 34 x.hh x.heads w) :
    Calls Tryz.prog 80 #[(aggOf (itemCh x))] w (Ret fun v w' => v = (.bool (!(itemOkS x))) ∧ Ext w w') := by
 refine calls_W Tryz.func80 rfl Tryz.ntmps80 rfl ?_
 have H0 := Ctx.start w nob
 have H1 := H0.addSl _ Sx_heads (fun b hb => ⟨hb, fun _ ho => (nomatch ho)⟩)
 have LSx_heads := Sx_heads.len
 refine W_seq (W_reg ?_)
 refine O_v rfl (C_box H1 [[(.int .i64 x.node.T)], [(.int .i64 x.node.R)], [(.int .i64 x.tm.T)], [(.int .i64 x.tm.R)], [(.string x.name)], (idCells x.sub), [(slV x.hh x.heads)]] rfl ?_)
 intro b2 w3 hb4 hx5 H6
 refine O_v rfl (R_assign (v := (.bool false)) rfl ?_)
 refine O_nil (Then_n (W_seq (W_reg ?_)))
 refine O_v rfl (R_loadA (cs := [[(.int .i64 x.node.T)], [(.int .i64 x.node.R)], [(.int .i64 x.tm.T)], [(.int .i64 x.tm.R)], [(.string x.name)], (idCells x.sub), [(slV x.hh x.heads)]]) Tryz.isAgg77 Tryz.sizeOf77 rfl rfl ((boxR_at (H6.getOwn 0 rfl)).chunks 0 7 0 0 _ rfl rfl rfl) ?_)
 refine O_v rfl (R_callL (vs := [(aggOf (itemCh x))]) rightDir_1_c81 rfl rfl ((obj_rightItem x w3 (H6.slOld 0 rfl)).ret ?_))
 rintro _ w7 ⟨rfl, hx8⟩
 have H9 := H6.ext hx8
 refine O_v rfl (R_not rfl ?_)
 refine O_v rfl (R_assign (v := (.bool (!(itemOkS x)))) rfl ?_)
 refine O_nil (Then_n (W_ret ?_))
 refine ret_1 (v := (.bool (!(itemOkS x)))) Tryz.results80 rfl ?_
 exact ⟨rfl, H9.gr⟩

end Go.Proofs.YthjdhfoeckfmbaaGreat
namespace Go.Proofs.YthjdhfoeckfmbaaGreat
open Go
set_option maxRecDepth 100000
set_option linter.unusedVariables false
set_option linter.unusedSimpArgs false
set_option linter.unusedSectionVars false
variable [DD]
theorem rightDir_2_c84 : callable Tryz.prog 84 = true := by kernel_rfl
set_option maxHeartbeats 1000000 in
theorem rightDir_2 (a : ItemS) (b : ItemS) (w : World) (Sa_heads : Sl (Old w) headCh 34 a.hh a.heads w) (Sb_heads : Sl (Old w) headCh 34 b.hh b.heads w) :
    Calls Tryz.prog 83 #[(aggOf (itemCh a)), (aggOf (itemCh b))] w (Ret fun v w' => v = (.int .i64 (cmpSt a.node b.node)) ∧ Ext w w') := by
 refine calls_W Tryz.func83 rfl Tryz.ntmps83 rfl ?_
 have H0 := Ctx.start w nob
 have H1 := H0.addSl _ Sa_heads (fun b hb => ⟨hb, fun _ ho => (nomatch ho)⟩)
 have LSa_heads := Sa_heads.len
 have H2 := H1.addSl _ Sb_heads (fun b hb => ⟨hb, fun _ ho => (nomatch ho)⟩)
 have LSb_heads := Sb_heads.len
 refine W_seq (W_reg ?_)
 refine O_v rfl (C_box H2 [[(.int .i64 a.node.T)], [(.int .i64 a.node.R)], [(.int .i64 a.tm.T)], [(.int .i64 a.tm.R)], [(.string a.name)], (idCells a.sub), [(slV a.hh a.heads)]] rfl ?_)
 intro b3 w4 hb5 hx6 H7
 refine O_v rfl (C_box H7 [[(.int .i64 b.node.T)], [(.int .i64 b.node.R)], [(.int .i64 b.tm.T)], [(.int .i64 b.tm.R)], [(.string b.name)], (idCells b.sub), [(slV b.hh b.heads)]] rfl ?_)
 intro b8 w9 hb10 hx11 H12
 refine O_v rfl (R_assign (v := (.int .i64 0)) rfl ?_)
 refine O_nil (Then_n (W_seq (W_reg ?_)))
 refine O_v rfl (R_fieldAddr (off := 0) (oo := 0) Tryz.underlying77 rfl rfl Tryz.sizeOf69 rfl rfl ?_)
 refine O_v rfl (R_loadA (cs := [[(.int .i64 a.node.T)], [(.int .i64 a.node.R)]]) Tryz.isAgg69 Tryz.sizeOf69 rfl rfl ((boxR_at (H12.getOwn 1 rfl)).chunks 0 2 0 0 _ rfl rfl rfl) ?_)
 refine O_v rfl (R_fieldAddr (off := 0) (oo := 0) Tryz.underlying77 rfl rfl Tryz.sizeOf69 rfl rfl ?_)
 refine O_v rfl (R_loadA (cs := [[(.int .i64 b.node.T)], [(.int .i64 b.node.R)]]) Tryz.isAgg69 Tryz.sizeOf69 rfl rfl ((boxR_at (H12.getOwn 0 rfl)).chunks 0 2 0 0 _ rfl rfl rfl) ?_)
 refine O_v rfl (R_callL (vs := [(aggOf (stampCh a.node)), (aggOf (stampCh b.node))]) rightDir_2_c84 rfl rfl ((stamp_Cmp a.node b.node w9 ).ret ?_))
 rintro _ w13 ⟨rfl, hx14⟩
 have H15 := H12.ext hx14
 refine O_v rfl (R_assign (v := (.int .i64 (cmpSt a.node b.node))) rfl ?_)
 refine O_nil (Then_n (W_ret ?_))
 refine ret_1 (v := (.int .i64 (cmpSt a.node b.node))) Tryz.results83 rfl ?_
 exact ⟨rfl, H15.gr⟩

end Go.Proofs.YthjdhfoeckfmbaaGreat
namespace Go.Proofs.YthjdhfoeckfmbaaGreat
open Go
set_option maxRecDepth 100000
set_option linter.unusedVariables false
set_option linter.unusedSimpArgs false
set_option linter.unusedSectionVars false
variable [DD]
set_option maxHeartbeats 1000000 in
theorem rise_Item (ha : SlH) (a : List ItemS) (kcmp : FuncId) (ccmp : Array Value) (f : ItemS → ItemS → Int) (w : World) (Sa : Sl (Old w) itemCh 38 ha a w) (Kcmp : callable Tryz.prog kcmp = true) (Ccmp : ∀ x ∈ a, ∀ y ∈ a, ∀ w1, Ext w w1 → Calls Tryz.prog kcmp (#[itemV x, itemV y] ++ ccmp) w1 (Ret fun v w2 => v = .int .i64 (f x y) ∧ Ext w1 w2)) :
    Calls Tryz.prog 82 #[(slV ha a), (.func (.func kcmp) #[] ccmp)] w (Ret fun v w' => v = (.bool (riseBy f a)) ∧ Ext w w') := by
 refine calls_W Tryz.func82 rfl Tryz.ntmps82 rfl ?_
 have H0 := Ctx.start w nob
 have H1 := H0.addSl _ Sa (fun b hb => ⟨hb, fun _ ho => (nomatch ho)⟩)
 have LSa := Sa.len
 refine W_seq (W_reg ?_)
 refine O_v rfl (R_assign (v := (.bool false)) rfl ?_)
 refine O_nil (Then_n (W_seq (W_seq (W_reg ?_))))
 refine O_v rfl (R_assign (v := (.int .i64 1)) rfl ?_)
 refine O_nil (Then_n (W_block ?_))
 refine W_loop (fun m2 e3 w4 => ∃ (k : Nat), m2 = a.length - k ∧ (1 ≤ k) ∧ (k ≤ max a.length 1) ∧ (∀ i, i < k → 1 ≤ i → f (nth a (i - 1)) (nth a i) < 0) ∧ ∃ eb5, e3 = envL [(0, (slV ha a)), (1, (.func (.func kcmp) #[] ccmp)), (5, (.int .i64 ((k : Nat) : Int)))] eb5 ∧ Ctx w nob w4 [] [slI (Old w) itemCh 38 ha a]) _ ⟨1, rfl, (by omega), (by omega), (fun i h1 h2 => by omega), _, envL_self ⟨rfl, rfl, rfl, trivial⟩, H1⟩ ?_
 rintro m2 _ w4 ⟨k, rfl, h1, hk, hn, eb5, rfl, H6⟩
 refine W_seq (W_seq (W_reg ?_))
 refine O_v rfl (R_move (v := (.int .i64 ((k : Nat) : Int))) rfl ?_)
 refine O_v rfl (R_move (v := (slV ha a)) rfl ?_)
 refine O_v rfl (R_len_slice (a := ha.a) (n := a.length) (c := ha.c) Tryz.underlying31 rfl ?_)
 refine O_v rfl (R_cmp (a := ((k : Nat) : Int)) (b := ((a.length : Nat) : Int)) (r := (decide (((k : Nat) : Int) < ((a.length : Nat) : Int)))) rfl rfl rfl ?_)
 refine O_nil (Then_n ?_)
 refine W_cond (t := (decide (((k : Nat) : Int) < ((a.length : Nat) : Int)))) rfl (fun hc7 => ?_) (fun hc7 => ?_)
 ·have hc7 : (((k : Nat) : Int) < ((a.length : Nat) : Int)) := (of_decide_eq_true hc7)
  refine W_skip (Then_n (W_seq (W_block (W_seq ?_))))
  refine W_rgd TryzMixed [(0, .q 0), (1, .q 0), (2, .q 0), (3, .q 0), (4, .q 0), (5, .q 0), (6, .q 0), (7, .q 0), (8, .q 0), (9, .q 0), (10, .q 0), (11, .q 0)] (by kernel_rfl) ?_
  refine Lx_q (i := 0) rfl rfl _ (fun v8 hv9 => R_move (v := (.func (.func kcmp) #[] ccmp)) rfl ⟨rfl, Gr.refl _ _⟩) ?_
  refine Lx_q (i := 1) rfl rfl _ (fun v10 hv11 => R_move (v := (slV ha a)) rfl ⟨rfl, Gr.refl _ _⟩) ?_
  refine Lx_q (i := 2) rfl rfl _ (fun v12 hv13 => R_move (v := (.int .i64 ((k : Nat) : Int))) rfl ⟨rfl, Gr.refl _ _⟩) ?_
  refine Lx_q (i := 3) rfl rfl _ (fun v14 hv15 => R_arith (a := ((k : Nat) : Int)) (b := 1) (r0 := ((k : Nat) : Int) - 1) (r := ((k - 1 : Nat) : Int)) rfl rfl rfl (wrapP _ (by omega) (by omega)) ⟨rfl, Gr.refl _ _⟩) ?_
  refine Lx_q (i := 4) rfl rfl _ (fun v16 hv17 => R_index_pure (H6.sl 0 rfl) (n := a.length) rfl (j := ((k - 1 : Nat) : Int)) (oo := (ha.o + (k - 1) * 38)) Tryz.underlying31 Tryz.sizeOf77 rfl rfl (by omega) (by omega) rfl ⟨rfl, Gr.refl _ _⟩) ?_
  refine Lx_q (i := 5) rfl rfl _ (fun v18 hv19 => R_loadA (cs := [[(.int .i64 (((nth a (k - 1)).node).T))], [(.int .i64 (((nth a (k - 1)).node).R))], [(.int .i64 (((nth a (k - 1)).tm).T))], [(.int .i64 (((nth a (k - 1)).tm).R))], [(.string ((nth a (k - 1)).name))], (idCells ((nth a (k - 1)).sub)), [(slV ((nth a (k - 1)).hh) ((nth a (k - 1)).heads))]]) Tryz.isAgg77 Tryz.sizeOf77 rfl rfl ((Sl.elem ((H6.ext hv19).sl 0 rfl) (i := (k - 1)) (by omega) rfl).chunks 0 7 0 (ha.o + (k - 1) * 38) _ rfl rfl rfl) ⟨rfl, Gr.refl _ _⟩) ?_
  refine Lx_q (i := 6) rfl rfl _ (fun v20 hv21 => R_move (v := (slV ha a)) rfl ⟨rfl, Gr.refl _ _⟩) ?_
  refine Lx_q (i := 7) rfl rfl _ (fun v22 hv23 => R_move (v := (.int .i64 ((k : Nat) : Int))) rfl ⟨rfl, Gr.refl _ _⟩) ?_
  refine Lx_q (i := 8) rfl rfl _ (fun v24 hv25 => R_index_pure (H6.sl 0 rfl) (n := a.length) rfl (j := ((k : Nat) : Int)) (oo := (ha.o + k * 38)) Tryz.underlying31 Tryz.sizeOf77 rfl rfl (by omega) (by omega) rfl ⟨rfl, Gr.refl _ _⟩) ?_
  refine Lx_q (i := 9) rfl rfl _ (fun v26 hv27 => R_loadA (cs := [[(.int .i64 (((nth a k).node).T))], [(.int .i64 (((nth a k).node).R))], [(.int .i64 (((nth a k).tm).T))], [(.int .i64 (((nth a k).tm).R))], [(.string ((nth a k).name))], (idCells ((nth a k).sub)), [(slV ((nth a k).hh) ((nth a k).heads))]]) Tryz.isAgg77 Tryz.sizeOf77 rfl rfl ((Sl.elem ((H6.ext hv27).sl 0 rfl) (i := k) (by omega) rfl).chunks 0 7 0 (ha.o + k * 38) _ rfl rfl rfl) ⟨rfl, Gr.refl _ _⟩) ?_
  refine Lx_q (i := 10) rfl rfl (.int .i64 (f (nth a (k - 1)) (nth a k))) (fun v28 hv29 => R_callV (vs := [(aggOf (itemCh (nth a (k - 1)))), (aggOf (itemCh (nth a k)))]) Kcmp rfl rfl (Ccmp _ (nth_mem (by omega)) _ (nth_mem (by omega)) v28 (H6.ext hv29).gr)) ?_
  refine Lx_q (i := 11) rfl rfl _ (fun v30 hv31 => R_cmp (a := f (nth a (k - 1)) (nth a k)) (b := 0) (r := (decide (0 ≤ f (nth a (k - 1)) (nth a k)))) rfl rfl rfl ⟨rfl, Gr.refl _ _⟩) ?_
  refine Lx_nil (fun w32 hw33 => ?_)
  have H34 := H6.ext hw33
  refine Then_n ?_
  refine W_cond (t := (decide (0 ≤ f (nth a (k - 1)) (nth a k)))) rfl (fun hc35 => ?_) (fun hc35 => ?_)
  ·have hc35 : (0 ≤ f (nth a (k - 1)) (nth a k)) := (of_decide_eq_true hc35)
   refine W_seq (W_reg ?_)
   refine O_v rfl (R_assign (v := (.bool false)) rfl ?_)
   refine O_nil (Then_n (W_ret (Blk_r (Then_r (Then_r (Blk_r (Then_r ?_)))))))
   refine ret_1 (v := (.bool false)) Tryz.results82 rfl ?_
   exact ⟨(boolF (fun h => by have := h k (by omega) (by omega); omega)), H34.gr⟩
  ·have hc35 : ¬ (0 ≤ f (nth a (k - 1)) (nth a k)) := (of_decide_eq_false hc35)
   refine W_skip (Blk_n (Then_n (W_reg ?_)))
   refine O_v rfl (R_move (v := (.int .i64 ((k : Nat) : Int))) rfl ?_)
   refine O_v rfl (R_arith (a := ((k : Nat) : Int)) (b := 1) (r0 := ((k : Nat) : Int) + 1) (r := ((k + 1 : Nat) : Int)) rfl rfl rfl (wrapN _ (by omega)) ?_)
   refine O_v rfl (R_assign (v := (.int .i64 ((k + 1 : Nat) : Int))) rfl ?_)
   refine O_nil (Then_n ?_)
   refine ⟨_, ?_, (k + 1), rfl, (by omega), (by omega), (rise_succ hn (by omega)), _, envL_self ⟨rfl, rfl, rfl, trivial⟩, H34⟩
   omega
 ·have hc7 : ¬ (((k : Nat) : Int) < ((a.length : Nat) : Int)) := (of_decide_eq_false hc7)
  refine W_exit (Then_x (Then_x (Blk_x (Then_n (W_seq (W_reg ?_))))))
  refine O_v rfl (R_assign (v := (.bool true)) rfl ?_)
  refine O_nil (Then_n (W_ret ?_))
  refine ret_1 (v := (.bool true)) Tryz.results82 rfl ?_
  exact ⟨(boolT (fun i h1 h2 => hn i (by omega) h2)), H6.gr⟩

end Go.Proofs.YthjdhfoeckfmbaaGreat
namespace Go.Proofs.YthjdhfoeckfmbaaGreat
open Go
set_option maxRecDepth 100000
set_option linter.unusedVariables false
set_option linter.unusedSimpArgs false
set_option linter.unusedSectionVars false
theorem obj_rightDir_c79 : callable Tryz.prog 79 = true := by kernel_rfl
theorem obj_rightDir_c80 : callable Tryz.prog 80 = true := by kernel_rfl
theorem obj_rightDir_c82 : callable Tryz.prog 82 = true := by kernel_rfl
theorem obj_rightDir_c83 : callable Tryz.prog 83 = true := by kernel_rfl
set_option maxHeartbeats 1000000 in
theorem obj_rightDir (hitems : SlH) (items : List ItemS) (w : World) (Sitems : Sl (Old w) itemCh 38 hitems items w) (Ditems_heads : ∀ x ∈ items, Sl (Old w) headCh 34 x.hh x.heads w) :
    Calls Tryz.prog 38 #[(slV hitems items)] w (Ret fun v w' => v = (.bool (dirOk items)) ∧ Ext w w') := by
 refine calls_W Tryz.func38 rfl Tryz.ntmps38 rfl ?_
 have H0 := Ctx.start w nob
 have H1 := H0.addSl _ Sitems (fun b hb => ⟨hb, fun _ ho => (nomatch ho)⟩)
 have LSitems := Sitems.len
 have H2 := H1.addImm' (deepI (Old w) headCh 34 (fun x : ItemS => x.hh) (fun x : ItemS => x.heads) items) Ditems_heads (fun b hb => ⟨hb, fun _ ho => (nomatch ho)⟩)
 refine W_seq (W_reg ?_)
 refine O_v rfl (R_assign (v := (.bool false)) rfl ?_)
 refine O_nil (Then_n (W_seq ?_))
 refine W_rg [(0, .q 0), (1, .q 0), (2, .q 0), (3, .q 0), (4, .q 0), (5, .q 0), (6, .q 0), (7, .q 0), (8, .q 0), (9, .q 0), (10, .q 0), (11, .q 0), (12, .q 0)] (by kernel_rfl) ?_
 refine Lx_q (i := 0) rfl rfl _ (fun v3 hv4 => R_move (v := (slV hitems items)) rfl ⟨rfl, Gr.refl _ _⟩) ?_
 refine Lx_q (i := 1) rfl rfl _ (fun v5 hv6 => R_len_slice (a := hitems.a) (n := items.length) (c := hitems.c) Tryz.underlying31 rfl ⟨rfl, Gr.refl _ _⟩) ?_
 refine Lx_q (i := 2) rfl rfl _ (fun v7 hv8 => R_cmp (a := ((items.length : Nat) : Int)) (b := 1000) (r := (decide (((items.length : Nat) : Int) ≤ 1000))) rfl rfl rfl ⟨rfl, Gr.refl _ _⟩) ?_
 refine Lx_q (i := 3) rfl rfl _ (fun v9 hv10 => R_move (v := (.bool (decide (((items.length : Nat) : Int) ≤ 1000)))) rfl ⟨rfl, Gr.refl _ _⟩) ?_
 refine Lx_qg (i := 4) true (decide (((items.length : Nat) : Int) ≤ 1000)) rfl rfl rfl rfl rfl (decide (((items.length : Nat) : Int) ≤ 1000)) ga_t _ (fun hA v11 hv12 => R_move (v := (slV hitems items)) rfl ⟨rfl, Gr.refl _ _⟩) ?_
 refine Lx_qg (i := 5) true (decide (((items.length : Nat) : Int) ≤ 1000)) rfl rfl rfl rfl rfl (decide (((items.length : Nat) : Int) ≤ 1000)) ga_t (.bool (items.any (fun (x : ItemS) => !itemOkS x))) (fun hA v13 hv14 => R_callL (vs := [(slV hitems items), (.func (.func 80) #[] #[])]) obj_rightDir_c79 rfl (lst2 (gv_t hA) rfl) (ContainsFunc_Item hitems items 80 #[] (fun (x : ItemS) => !itemOkS x) v13 ((H2.ext hv14).slOld 1 rfl) obj_rightDir_c80 (fun x hx w1 he => callsCap0 (rightDir_1 x w1 (((H2.ext hv14).deepOld 0 rfl _ hx).ext he))))) ?_
 refine Lx_qg (i := 6) true (decide (((items.length : Nat) : Int) ≤ 1000)) rfl rfl rfl rfl rfl (decide (((items.length : Nat) : Int) ≤ 1000)) ga_t _ (fun hA v15 hv16 => R_not (gv_t hA) ⟨rfl, Gr.refl _ _⟩) ?_
 refine Lx_q (i := 7) rfl rfl _ (fun v17 hv18 => R_pick (t := (decide (((items.length : Nat) : Int) ≤ 1000))) (v := (.bool ((decide (((items.length : Nat) : Int) ≤ 1000)) && (!(items.any (fun (x : ItemS) => !itemOkS x)))))) rfl pk_and ⟨rfl, Gr.refl _ _⟩) ?_
 refine Lx_q (i := 8) rfl rfl _ (fun v19 hv20 => R_move (v := (.bool ((decide (((items.length : Nat) : Int) ≤ 1000)) && (!(items.any (fun (x : ItemS) => !itemOkS x)))))) rfl ⟨rfl, Gr.refl _ _⟩) ?_
 refine Lx_qg (i := 9) true ((decide (((items.length : Nat) : Int) ≤ 1000)) && (!(items.any (fun (x : ItemS) => !itemOkS x)))) rfl rfl rfl rfl rfl ((decide (((items.length : Nat) : Int) ≤ 1000)) && (!(items.any (fun (x : ItemS) => !itemOkS x)))) ga_t _ (fun hA v21 hv22 => R_move (v := (slV hitems items)) rfl ⟨rfl, Gr.refl _ _⟩) ?_
 refine Lx_qg (i := 10) true ((decide (((items.length : Nat) : Int) ≤ 1000)) && (!(items.any (fun (x : ItemS) => !itemOkS x)))) rfl rfl rfl rfl rfl ((decide (((items.length : Nat) : Int) ≤ 1000)) && (!(items.any (fun (x : ItemS) => !itemOkS x)))) ga_t (.bool (riseBy (fun (a b : ItemS) => cmpSt a.node b.node) items)) (fun hA v23 hv24 => R_callL (vs := [(slV hitems items), (.func (.func 83) #[] #[])]) obj_rightDir_c82 rfl (lst2 (gv_t hA) rfl) (rise_Item hitems items 83 #[] (fun (a b : ItemS) => cmpSt a.node b.node) v23 ((H2.ext hv24).slOld 1 rfl) obj_rightDir_c83 (fun x hx y hy w1 he => callsCap0 (rightDir_2 x y w1 (((H2.ext hv24).deepOld 0 rfl _ hx).ext he) (((H2.ext hv24).deepOld 0 rfl _ hy).ext he))))) ?_
 refine Lx_q (i := 11) rfl rfl _ (fun v25 hv26 => R_pick (t := ((decide (((items.length : Nat) : Int) ≤ 1000)) && (!(items.any (fun (x : ItemS) => !itemOkS x))))) (v := (.bool (((decide (((items.length : Nat) : Int) ≤ 1000)) && (!(items.any (fun (x : ItemS) => !itemOkS x)))) && (riseBy (fun (a b : ItemS) => cmpSt a.node b.node) items)))) rfl pk_and ⟨rfl, Gr.refl _ _⟩) ?_
 refine Lx_q (i := 12) rfl rfl _ (fun v27 hv28 => R_assign (v := (.bool (((decide (((items.length : Nat) : Int) ≤ 1000)) && (!(items.any (fun (x : ItemS) => !itemOkS x)))) && (riseBy (fun (a b : ItemS) => cmpSt a.node b.node) items)))) rfl ⟨rfl, Gr.refl _ _⟩) ?_
 refine Lx_nil (fun w29 hw30 => ?_)
 have H31 := H2.ext hw30
 refine Then_n (W_ret ?_)
 refine ret_1 (v := (.bool (((decide (((items.length : Nat) : Int) ≤ 1000)) && (!(items.any (fun (x : ItemS) => !itemOkS x)))) && (riseBy (fun (a b : ItemS) => cmpSt a.node b.node) items)))) Tryz.results38 rfl ?_
 exact ⟨dirOk_e, H31.gr⟩

end Go.Proofs.YthjdhfoeckfmbaaGreat
namespace Go.Proofs.YthjdhfoeckfmbaaGreat
open Go
set_option maxRecDepth 100000
set_option linter.unusedVariables false
set_option linter.unusedSimpArgs false
set_option linter.unusedSectionVars false
theorem obj_Dir_c38 : callable Tryz.prog 38 = true := by kernel_rfl
theorem obj_Dir_c45 : callable Tryz.prog 45 = true := by kernel_rfl
theorem obj_Dir_c46 : callable Tryz.prog 46 = true := by kernel_rfl
theorem obj_Dir_c47 : callable Tryz.prog 47 = true := by kernel_rfl
theorem obj_Dir_c48 : callable Tryz.prog 48 = true := by kernel_rfl
theorem obj_Dir_c49 : callable Tryz.prog 49 = true := by kernel_rfl
set_option maxHeartbeats 2000000 in
theorem obj_Dir (hb : SlH) (b : List UInt8) (w : World) (Sb : Sl (Old w) encB 1 hb b w) (hl : b.length ≤ 140737488355328) :
    Calls Tryz.prog 17 #[(slV hb b)] w (Ret fun v w' => ∃ (h : SlH) (l : List ItemS) (S : Nat → Prop) (e : Int), v = .tuple #[slV h l, (.int .i64 e)] ∧ Ext w w' ∧ OwnS w.heap.size 77 38 itemCh h l w' ∧ (∀ b, S b → w.heap.size ≤ b ∧ b < w'.heap.size ∧ (slV h l).ownBlock ≠ some b) ∧ (∀ x ∈ l, Sl S headCh 34 x.hh x.heads w') ∧ ((l.map ItemS.core, e) = dirOf b)) := by
 refine calls_W Tryz.func17 rfl Tryz.ntmps17 rfl ?_
 have H0 := Ctx.start w nob
 have H1 := H0.addSl _ Sb (fun b hb => ⟨hb, fun _ ho => (nomatch ho)⟩)
 have LSb := Sb.len
 refine W_seq (W_reg ?_)
 refine O_v rfl (R_assign (v := (.slice none 0 0)) rfl ?_)
 refine O_v rfl (R_assign (v := (.int .i64 0)) rfl ?_)
 refine O_nil (Then_n (W_seq (W_reg ?_)))
 refine O_v rfl (R_move (v := (slV hb b)) rfl ?_)
 refine O_v rfl (R_callL (vs := [(slV hb b), (.int .u8 2)]) obj_Dir_c45 rfl rfl ((obj_open hb b 2 w (H1.slOld 0 rfl) (by omega)).ret ?_))
 rintro _ w5 ⟨b2, r3, S4, rfl, hx6, hb7, hS8, hQ9, hr10⟩
 have H11 := H1.addRd hx6 hb7 hS8 hQ9
 refine O_v rfl (R_assign (v := (.pointer (some ⟨b2, 0, none⟩))) rfl ?_)
 refine O_nil (Then_n (W_seq (W_reg ?_)))
 refine O_v rfl (R_assign (v := (.slice none 0 0)) rfl ?_)
 refine O_nil (Then_n (W_seq (W_seq (W_reg ?_))))
 refine O_v rfl (R_move (v := (.pointer (some ⟨b2, 0, none⟩))) rfl ?_)
 refine O_v rfl (R_callL (vs := [(.pointer (some ⟨b2, 0, none⟩)), (.int .i64 1000)]) obj_Dir_c46 rfl rfl ((Reader_Num b2 r3 S4 (openSt b 2) 1000 w5 ((H11.pick (B' := [boxR b2 132 (rdCh r3)]) (I' := [slI S4 encB 1 r3.bh r3.b]) [0] (by decide) rfl (List.forall_mem_cons.2 ⟨List.mem_of_getElem? (i := 0) rfl, fun _ h => (nomatch h)⟩)).rdStart) hr10).ret ?_))
 rintro _ w13 ⟨r12, rfl, hg14, hQ15, hr16⟩
 have H17 := H11.rdUpd (r := r3) 0 0 rfl rfl hg14 hQ15
 refine O_v rfl (R_move (v := (.int .i64 0)) rfl ?_)
 refine O_nil (Then_n (W_block ?_))
 have H18 := H17.addNil 77 38 itemCh
 have H19 := H18.deepNil headCh 34 (fun x : ItemS => x.hh) (fun x : ItemS => x.heads)
 refine W_loop (fun m21 e22 w23 => ∃ (k : Nat), ∃ (acc : List ItemS), ∃ (S : Nat → Prop), ∃ (rr : RdS), ∃ (rq : List UInt8 × Bool), ∃ (h20 : SlH), m21 = (rdNum (openSt b 2) 1000).1 - k ∧ (k ≤ (rdNum (openSt b 2) 1000).1) ∧ ((rdNum (openSt b 2) 1000).1 ≤ 1000) ∧ (acc.length ≤ k) ∧ (∀ b, S b → w.heap.size ≤ b) ∧ (rr.st = rq) ∧ (rdItems ((rdNum (openSt b 2) 1000).1 - k) (acc.map ItemS.core) rq = rdItems (rdNum (openSt b 2) 1000).1 [] (rdNum (openSt b 2) 1000).2) ∧ ∃ eb24, e22 = envL [(2, (.slice none 0 0)), (3, (.int .i64 0)), (4, (.pointer (some ⟨b2, 0, none⟩))), (5, (slV h20 acc)), (9, (.int .i64 ((((rdNum (openSt b 2) 1000).1) : Nat) : Int))), (10, (.int .i64 ((k : Nat) : Int)))] eb24 ∧ Ctx w nob w23 [rowR 77 38 itemCh h20 acc, boxR b2 132 [[(slV rr.bh rr.b)], [(.bool rr.bad)]]] [deepI S headCh 34 (fun x : ItemS => x.hh) (fun x : ItemS => x.heads) acc, slI S4 encB 1 rr.bh rr.b, slI (Old w) encB 1 hb b]) _ ⟨0, [], nob, r12, ((rdNum (openSt b 2) 1000).2), nilH, rfl, (by omega), (rdNum_le _ (by decide)), (by simp), (fun _ h => h.elim), hr16, rfl, _, envL_self ⟨rfl, rfl, rfl, rfl, rfl, rfl, trivial⟩, H19⟩ ?_
 rintro m21 _ w23 ⟨k, acc, S, rr, rq, h20, rfl, hk, hm, hal, hS, hrr, hgo, eb24, rfl, H25⟩
 refine W_seq (W_reg ?_)
 refine O_v rfl (R_cmp (a := ((k : Nat) : Int)) (b := ((((rdNum (openSt b 2) 1000).1) : Nat) : Int)) (r := (decide (((k : Nat) : Int) < ((((rdNum (openSt b 2) 1000).1) : Nat) : Int)))) rfl rfl rfl ?_)
 refine O_nil (Then_n (W_seq ?_))
 refine W_cond (t := (decide (((k : Nat) : Int) < ((((rdNum (openSt b 2) 1000).1) : Nat) : Int)))) rfl (fun hc26 => ?_) (fun hc26 => ?_)
 ·have hc26 : (((k : Nat) : Int) < ((((rdNum (openSt b 2) 1000).1) : Nat) : Int)) := (of_decide_eq_true hc26)
  refine W_skip (Then_n (W_seq (W_block (W_seq (W_reg ?_)))))
  refine O_v rfl (R_move (v := (slV h20 acc)) rfl ?_)
  refine O_v rfl (R_move (v := (.pointer (some ⟨b2, 0, none⟩))) rfl ?_)
  refine O_v rfl (R_callL (vs := [(.pointer (some ⟨b2, 0, none⟩))]) obj_Dir_c47 rfl rfl ((obj_getItem b2 rr S4 rq w23 ((H25.pick (B' := [boxR b2 132 (rdCh rr)]) (I' := [slI S4 encB 1 rr.bh rr.b]) [1] (by decide) rfl (List.forall_mem_cons.2 ⟨List.mem_of_getElem? (i := 1) rfl, fun _ h => (nomatch h)⟩)).rdStart) hrr).ret ?_))
  rintro _ w28 ⟨r27, x33, rfl, hg29, hQ30, hr31, ho34, hx35⟩
  have H32 := H25.rdRow (r := rr) 1 1 rfl rfl hg29 hQ30 ho34
  refine O_v rfl (C_buildSliceL H32 (enc := itemCh) (val := itemV) ([x33] : List ItemS) Tryz.underlying31 Tryz.sizeOf77 Tryz.zeroValue77 rfl (by decide) (fun _ => rfl) (fun _ => rfl) rfl rfl (by decide) ?_)
  intro b36 w37 hb38 hx39 H40
  refine O_v rfl (C_append H40 2 rfl (bytes := 104) (l := acc) (ys := ([x33] : List ItemS)) Tryz.underlying31 rfl rfl rfl rfl rfl (by decide) rfl rfl (OwnS.sl (H40.getOwn 0 rfl) (fun _ => rfl)) (fun _ => rfl) (fun _ => rfl) (by simp only [List.length_append, List.length_cons, List.length_nil]; omega) (by decide) ?_)
  intro h41 w42 hg43 H44
  refine O_v rfl (R_assign (v := (slV h41 (acc ++ ([x33] : List ItemS)))) rfl ?_)
  refine O_nil (Then_n (W_seq (W_reg ?_)))
  refine O_v rfl (R_move (v := (.pointer (some ⟨b2, 0, none⟩))) rfl ?_)
  refine O_v rfl (R_callL (vs := [(.pointer (some ⟨b2, 0, none⟩))]) obj_Dir_c48 rfl rfl ((Reader_Good b2 r27 S4 ((rdItem rq).2) w42 ((H44.pick (B' := [boxR b2 132 (rdCh r27)]) (I' := [slI S4 encB 1 r27.bh r27.b]) [3] (by decide) rfl (List.forall_mem_cons.2 ⟨List.mem_of_getElem? (i := 1) rfl, fun _ h => (nomatch h)⟩)).rdStart) hr31).ret ?_))
  rintro _ w46 ⟨r45, rfl, hg47, hQ48, hr49⟩
  have H50 := H44.rdUpd (r := r27) 3 1 rfl rfl hg47 hQ48
  refine O_v rfl (R_not rfl ?_)
  refine O_nil (Then_n ?_)
  refine W_cond (t := (!(!(((rdItem rq).2).2)))) rfl (fun hc51 => ?_) (fun hc51 => ?_)
  ·have hc51 : (((rdItem rq).2).2) = true := (notF (notT hc51))
   have H52 := H50.freeze 1 rfl (fun _ => rfl)
   have H53 := H52.deepSnoc 1 rfl 0 rfl (x33) rfl rfl
   refine W_exit ?_
   refine Blk_o rfl ?_
   refine Then_x (Then_x (Blk_x (Then_n (W_seq (W_seq ?_)))))
   refine W_rgM (fun c => c = b2) (fun i => if i == 1 then 1 else 0) [(0, .q 2), (1, .c 1), (2, .q 2), (3, .q 2), (4, .q 2), (5, .q 0), (6, .q 2), (7, .q 2)] (by kernel_rfl) ?_
   refine Lx_q (i := 0) rfl rfl _ (fun v54 hv55 => R_move (v := (.pointer (some ⟨b2, 0, none⟩))) rfl ⟨rfl, Gr.refl _ _⟩) ?_
   refine Lx_c (i := 1) rfl rfl (fun w56 hw57 => ?_)
   have H58 := H53.ext hw57
   refine (R_callL (vs := [(.pointer (some ⟨b2, 0, none⟩))]) obj_Dir_c49 rfl rfl ((Reader_Done b2 r45 S4 ((rdItem rq).2) w56 ((H58.pick (B' := [boxR b2 132 (rdCh r45)]) (I' := [slI S4 encB 1 r45.bh r45.b]) [2] (by decide) rfl (List.forall_mem_cons.2 ⟨List.mem_of_getElem? (i := 3) rfl, fun _ h => (nomatch h)⟩)).rdStart) hr49).ret ?_))
   rintro _ w60 ⟨r59, rfl, hg61, hQ62, hr63⟩
   have H64 := H58.rdUpd (r := r45) 2 3 rfl rfl hg61 hQ62
   refine ⟨hg61, ?_⟩
   refine Lx_q (i := 2) rfl rfl _ (fun v65 hv66 => R_not rfl ⟨rfl, Gr.refl _ _⟩) ?_
   refine Lx_q (i := 3) rfl rfl _ (fun v67 hv68 => R_move (v := (.bool (!(rdDone ((rdItem rq).2))))) rfl ⟨rfl, Gr.refl _ _⟩) ?_
   refine Lx_qg (i := 4) true (!(rdDone ((rdItem rq).2))) rfl rfl rfl rfl rfl (!(!(rdDone ((rdItem rq).2)))) ga_f _ (fun hA v69 hv70 => R_move (v := (slV h41 (acc ++ ([x33] : List ItemS)))) rfl ⟨rfl, Gr.refl _ _⟩) ?_
   refine Lx_qg (i := 5) true (!(rdDone ((rdItem rq).2))) rfl rfl rfl rfl rfl (!(!(rdDone ((rdItem rq).2)))) ga_f (.bool (dirOk (acc ++ ([x33] : List ItemS)))) (fun hA v71 hv72 => R_callL (vs := [(slV h41 (acc ++ ([x33] : List ItemS)))]) obj_Dir_c38 rfl (lst1 (gv_t hA)) (obj_rightDir h41 (acc ++ ([x33] : List ItemS)) v71 ((H64.ext hv72).rowSl 1 rfl (fun _ => rfl)) ((H64.ext hv72).deepOld 0 rfl))) ?_
   refine Lx_qg (i := 6) true (!(rdDone ((rdItem rq).2))) rfl rfl rfl rfl rfl (!(!(rdDone ((rdItem rq).2)))) ga_f _ (fun hA v73 hv74 => R_not (gv_t hA) ⟨rfl, Gr.refl _ _⟩) ?_
   refine Lx_q (i := 7) rfl rfl _ (fun v75 hv76 => R_pick (t := (!(rdDone ((rdItem rq).2)))) (v := (.bool ((!(rdDone ((rdItem rq).2))) || (!(dirOk (acc ++ ([x33] : List ItemS))))))) rfl pk_or ⟨rfl, Gr.refl _ _⟩) ?_
   refine Lx_nil (fun w77 hw78 => ?_)
   have H79 := H64.ext hw78
   refine Then_n ?_
   refine W_cond (t := ((!(rdDone ((rdItem rq).2))) || (!(dirOk (acc ++ ([x33] : List ItemS)))))) rfl (fun hc80 => ?_) (fun hc80 => ?_)
   ·have hc80 : ((rdDone ((rdItem rq).2)) = false ∨ (dirOk (acc ++ ([x33] : List ItemS))) = false) := (Or.imp (fun h => (notT h)) (fun h => (notT h)) (orT hc80))
    refine W_seq (W_reg ?_)
    refine O_v rfl (R_assign (v := (.slice none 0 0)) rfl ?_)
    refine O_v rfl (R_assign (v := (.int .i64 20)) rfl ?_)
    refine O_nil (Then_n (W_ret (Then_r ?_)))
    refine ret_2 (v := (.slice none 0 0)) (v' := (.int .i64 20)) Tryz.results17 rfl rfl ?_
    have H81 := H79.addNil 77 38 itemCh
    have H82 := H81.deepNil headCh 34 (fun x : ItemS => x.hh) (fun x : ItemS => x.heads)
    exact ⟨nilH, ([] : List ItemS), nob, 20, rfl, H82.gr, H82.retRow 0 rfl, H82.retDeep 0 rfl 0 rfl (fun _ h => h.elim), H82.getImm 0 rfl, (dir_no (items_brk hgo (by omega) hx35 hc51) hc80)⟩
   ·have hc80 : ((rdDone ((rdItem rq).2)) = true ∧ (dirOk (acc ++ ([x33] : List ItemS))) = true) := (And.imp (fun h => (notF h)) (fun h => (notF h)) (orF hc80))
    refine W_skip (Then_n (W_seq (W_reg ?_)))
    refine O_v rfl (R_move (v := (slV h41 (acc ++ ([x33] : List ItemS)))) rfl ?_)
    refine O_v rfl (R_assign (v := (slV h41 (acc ++ ([x33] : List ItemS)))) rfl ?_)
    refine O_v rfl (R_assign (v := (.int .i64 0)) rfl ?_)
    refine O_nil (Then_n (W_ret ?_))
    refine ret_2 (v := (slV h41 (acc ++ ([x33] : List ItemS)))) (v' := (.int .i64 0)) Tryz.results17 rfl rfl ?_
    exact ⟨h41, acc ++ ([x33] : List ItemS), (fun b => S b ∨ (fun z_ => (slV x33.hh x33.heads).ownBlock = some z_) b), 0, rfl, H79.gr, H79.retRow 1 rfl, H79.retDeep 1 rfl 0 rfl (fun b hb => hb.elim (hS b) (H50.newRow 1 rfl b)), H79.getImm 0 rfl, (dir_yes (items_brk hgo (by omega) hx35 hc51) hc80)⟩
  ·have hc51 : (((rdItem rq).2).2) = false := (notT (notF hc51))
   refine W_skip (Blk_n (Then_n (W_reg ?_)))
   refine O_v rfl (R_arith (a := ((k : Nat) : Int)) (b := 1) (r0 := ((k : Nat) : Int) + 1) (r := ((k + 1 : Nat) : Int)) rfl rfl rfl (wrapN _ (by omega)) ?_)
   refine O_v rfl (R_move (v := (.int .i64 ((k + 1 : Nat) : Int))) rfl ?_)
   refine O_nil (Then_n ?_)
   have H83 := H50.freeze 1 rfl (fun _ => rfl)
   have H84 := H83.deepSnoc 1 rfl 0 rfl (x33) rfl rfl
   have H85 := H84.sub (B' := [rowR 77 38 itemCh h41 (acc ++ ([x33] : List ItemS)), boxR b2 132 [[(slV r45.bh r45.b)], [(.bool r45.bad)]]]) (I' := [deepI (fun b => S b ∨ (fun z_ => (slV x33.hh x33.heads).ownBlock = some z_) b) headCh 34 (fun x : ItemS => x.hh) (fun x : ItemS => x.heads) (acc ++ ([x33] : List ItemS)), slI S4 encB 1 r45.bh r45.b, slI (Old w) encB 1 hb b]) (List.Sublist.cons _ (List.Sublist.cons_cons _ (List.Sublist.cons_cons _ List.Sublist.slnil))) (List.forall_mem_cons.2 ⟨List.mem_of_getElem? (i := 0) rfl, List.forall_mem_cons.2 ⟨List.mem_of_getElem? (i := 3) rfl, List.forall_mem_cons.2 ⟨List.mem_of_getElem? (i := 4) rfl, fun _ h => (nomatch h)⟩⟩⟩)
   refine ⟨_, ?_, (k + 1), (acc ++ ([x33] : List ItemS)), (fun b => S b ∨ (fun z_ => (slV x33.hh x33.heads).ownBlock = some z_) b), r45, ((rdItem rq).2), h41, rfl, (by omega), hm, (by simp only [List.length_append, List.length_cons, List.length_nil]; omega), (fun b hb => hb.elim (hS b) (H50.newRow 1 rfl b)), hr49, (items_next hgo (by omega) hx35 hc51), _, envL_self ⟨rfl, rfl, rfl, rfl, rfl, rfl, trivial⟩, H85⟩
   omega
 ·have hc26 : ¬ (((k : Nat) : Int) < ((((rdNum (openSt b 2) 1000).1) : Nat) : Int)) := (of_decide_eq_false hc26)
  refine W_exit (Then_x (Then_x (Blk_x (Then_n (W_seq (W_seq ?_))))))
  refine W_rgM (fun c => c = b2) (fun i => if i == 1 then 1 else 0) [(0, .q 2), (1, .c 1), (2, .q 2), (3, .q 2), (4, .q 2), (5, .q 0), (6, .q 2), (7, .q 2)] (by kernel_rfl) ?_
  refine Lx_q (i := 0) rfl rfl _ (fun v86 hv87 => R_move (v := (.pointer (some ⟨b2, 0, none⟩))) rfl ⟨rfl, Gr.refl _ _⟩) ?_
  refine Lx_c (i := 1) rfl rfl (fun w88 hw89 => ?_)
  have H90 := H25.ext hw89
  refine (R_callL (vs := [(.pointer (some ⟨b2, 0, none⟩))]) obj_Dir_c49 rfl rfl ((Reader_Done b2 rr S4 rq w88 ((H90.pick (B' := [boxR b2 132 (rdCh rr)]) (I' := [slI S4 encB 1 rr.bh rr.b]) [1] (by decide) rfl (List.forall_mem_cons.2 ⟨List.mem_of_getElem? (i := 1) rfl, fun _ h => (nomatch h)⟩)).rdStart) hrr).ret ?_))
  rintro _ w92 ⟨r91, rfl, hg93, hQ94, hr95⟩
  have H96 := H90.rdUpd (r := rr) 1 1 rfl rfl hg93 hQ94
  refine ⟨hg93, ?_⟩
  refine Lx_q (i := 2) rfl rfl _ (fun v97 hv98 => R_not rfl ⟨rfl, Gr.refl _ _⟩) ?_
  refine Lx_q (i := 3) rfl rfl _ (fun v99 hv100 => R_move (v := (.bool (!(rdDone rq)))) rfl ⟨rfl, Gr.refl _ _⟩) ?_
  refine Lx_qg (i := 4) true (!(rdDone rq)) rfl rfl rfl rfl rfl (!(!(rdDone rq))) ga_f _ (fun hA v101 hv102 => R_move (v := (slV h20 acc)) rfl ⟨rfl, Gr.refl _ _⟩) ?_
  refine Lx_qg (i := 5) true (!(rdDone rq)) rfl rfl rfl rfl rfl (!(!(rdDone rq))) ga_f (.bool (dirOk acc)) (fun hA v103 hv104 => R_callL (vs := [(slV h20 acc)]) obj_Dir_c38 rfl (lst1 (gv_t hA)) (obj_rightDir h20 acc v103 ((H96.ext hv104).rowSl 0 rfl (fun _ => rfl)) ((H96.ext hv104).deepOld 0 rfl))) ?_
  refine Lx_qg (i := 6) true (!(rdDone rq)) rfl rfl rfl rfl rfl (!(!(rdDone rq))) ga_f _ (fun hA v105 hv106 => R_not (gv_t hA) ⟨rfl, Gr.refl _ _⟩) ?_
  refine Lx_q (i := 7) rfl rfl _ (fun v107 hv108 => R_pick (t := (!(rdDone rq))) (v := (.bool ((!(rdDone rq)) || (!(dirOk acc))))) rfl pk_or ⟨rfl, Gr.refl _ _⟩) ?_
  refine Lx_nil (fun w109 hw110 => ?_)
  have H111 := H96.ext hw110
  refine Then_n ?_
  refine W_cond (t := ((!(rdDone rq)) || (!(dirOk acc)))) rfl (fun hc112 => ?_) (fun hc112 => ?_)
  ·have hc112 : ((rdDone rq) = false ∨ (dirOk acc) = false) := (Or.imp (fun h => (notT h)) (fun h => (notT h)) (orT hc112))
   refine W_seq (W_reg ?_)
   refine O_v rfl (R_assign (v := (.slice none 0 0)) rfl ?_)
   refine O_v rfl (R_assign (v := (.int .i64 20)) rfl ?_)
   refine O_nil (Then_n (W_ret (Then_r ?_)))
   refine ret_2 (v := (.slice none 0 0)) (v' := (.int .i64 20)) Tryz.results17 rfl rfl ?_
   have H113 := H111.addNil 77 38 itemCh
   have H114 := H113.deepNil headCh 34 (fun x : ItemS => x.hh) (fun x : ItemS => x.heads)
   exact ⟨nilH, ([] : List ItemS), nob, 20, rfl, H114.gr, H114.retRow 0 rfl, H114.retDeep 0 rfl 0 rfl (fun _ h => h.elim), H114.getImm 0 rfl, (dir_no (items_end hgo (by omega)) hc112)⟩
  ·have hc112 : ((rdDone rq) = true ∧ (dirOk acc) = true) := (And.imp (fun h => (notF h)) (fun h => (notF h)) (orF hc112))
   refine W_skip (Then_n (W_seq (W_reg ?_)))
   refine O_v rfl (R_move (v := (slV h20 acc)) rfl ?_)
   refine O_v rfl (R_assign (v := (slV h20 acc)) rfl ?_)
   refine O_v rfl (R_assign (v := (.int .i64 0)) rfl ?_)
   refine O_nil (Then_n (W_ret ?_))
   refine ret_2 (v := (slV h20 acc)) (v' := (.int .i64 0)) Tryz.results17 rfl rfl ?_
   exact ⟨h20, acc, S, 0, rfl, H111.gr, H111.retRow 0 rfl, H111.retDeep 0 rfl 0 rfl hS, H111.getImm 0 rfl, (dir_yes (items_end hgo (by omega)) hc112)⟩

end Go.Proofs.YthjdhfoeckfmbaaGreat
namespace Go.Proofs.YthjdhfoeckfmbaaGreat
open Go
set_option maxRecDepth 100000
set_option linter.unusedVariables false
set_option linter.unusedSimpArgs false
set_option linter.unusedSectionVars false
theorem obj_rightLabel_c108 : callable Tryz.prog 108 = true := by kernel_rfl
set_option maxHeartbeats 1000000 in
theorem obj_rightLabel (l : Label) (w : World) :
    Calls Tryz.prog 70 #[(aggOf (labelCh l))] w (Ret fun v w' => v = (.bool (labelOk l)) ∧ Ext w w') := by
 refine calls_W Tryz.func70 rfl Tryz.ntmps70 rfl ?_
 have H0 := Ctx.start w nob
 refine W_seq (W_reg ?_)
 refine O_v rfl (C_box H0 [(idCells l.target), [(.string l.name)], [(.string l.msg)]] rfl ?_)
 intro b1 w2 hb3 hx4 H5
 refine O_v rfl (R_assign (v := (.bool false)) rfl ?_)
 refine O_nil (Then_n (W_seq ?_))
 refine W_rg [(0, .q 0), (1, .q 0), (2, .q 0), (3, .q 0), (4, .q 0), (5, .q 0), (6, .q 0), (7, .q 0), (8, .q 0), (9, .q 0), (10, .q 0), (11, .q 0), (12, .q 0), (13, .q 0), (14, .q 0), (15, .q 0)] (by kernel_rfl) ?_
 refine Lx_q (i := 0) rfl rfl _ (fun v6 hv7 => R_fieldAddr (off := 0) (oo := 0) Tryz.underlying55 rfl rfl Tryz.sizeOf45 rfl rfl ⟨rfl, Gr.refl _ _⟩) ?_
 refine Lx_q (i := 1) rfl rfl _ (fun v8 hv9 => R_loadA (cs := [(idCells l.target)]) Tryz.isAgg45 Tryz.sizeOf45 rfl rfl ((boxR_at ((H5.ext hv9).getOwn 0 rfl)).chunks 0 1 0 0 _ rfl rfl rfl) ⟨rfl, Gr.refl _ _⟩) ?_
 refine Lx_q (i := 2) rfl rfl _ (fun v10 hv11 => R_buildL (vs := []) (v := aggOf [(idCells zeroId)]) rfl (fun _ => by kernel_rfl) ⟨rfl, Gr.refl _ _⟩) ?_
 refine Lx_q (i := 3) rfl rfl _ (fun v12 hv13 => R_nev (a := l.target) (b := zeroId) eqv_ID45 rfl Tryz.eqGuardType45 rfl rfl ⟨rfl, Gr.refl _ _⟩) ?_
 refine Lx_q (i := 4) rfl rfl _ (fun v14 hv15 => R_move (v := (.bool (!(decide (l.target = zeroId))))) rfl ⟨rfl, Gr.refl _ _⟩) ?_
 refine Lx_qg (i := 5) true (!(decide (l.target = zeroId))) rfl rfl rfl rfl rfl (!(decide (l.target = zeroId))) ga_t _ (fun hA v16 hv17 => R_fieldAddr (off := 32) (oo := 32) Tryz.underlying55 rfl rfl Tryz.sizeOf9 rfl rfl ⟨rfl, Gr.refl _ _⟩) ?_
 refine Lx_qg (i := 6) true (!(decide (l.target = zeroId))) rfl rfl rfl rfl rfl (!(decide (l.target = zeroId))) ga_t _ (fun hA v18 hv19 => R_load1 (v := (.string l.name)) Tryz.isAgg9 (gv_t hA) ((boxR_at ((H5.ext hv19).getOwn 0 rfl)).chunks 1 1 32 32 _ rfl rfl rfl) ⟨rfl, Gr.refl _ _⟩) ?_
 refine Lx_qg (i := 7) true (!(decide (l.target = zeroId))) rfl rfl rfl rfl rfl (!(decide (l.target = zeroId))) ga_t (.bool (nameOk l.name)) (fun hA v20 hv21 => R_callL (vs := [(.string l.name)]) obj_rightLabel_c108 rfl (lst1 (gv_t hA)) (stamp_Name l.name v20 )) ?_
 refine Lx_q (i := 8) rfl rfl _ (fun v22 hv23 => R_pick (t := (!(decide (l.target = zeroId)))) (v := (.bool ((!(decide (l.target = zeroId))) && (nameOk l.name)))) rfl pk_and ⟨rfl, Gr.refl _ _⟩) ?_
 refine Lx_q (i := 9) rfl rfl _ (fun v24 hv25 => R_move (v := (.bool ((!(decide (l.target = zeroId))) && (nameOk l.name)))) rfl ⟨rfl, Gr.refl _ _⟩) ?_
 refine Lx_qg (i := 10) true ((!(decide (l.target = zeroId))) && (nameOk l.name)) rfl rfl rfl rfl rfl ((!(decide (l.target = zeroId))) && (nameOk l.name)) ga_t _ (fun hA v26 hv27 => R_fieldAddr (off := 33) (oo := 33) Tryz.underlying55 rfl rfl Tryz.sizeOf9 rfl rfl ⟨rfl, Gr.refl _ _⟩) ?_
 refine Lx_qg (i := 11) true ((!(decide (l.target = zeroId))) && (nameOk l.name)) rfl rfl rfl rfl rfl ((!(decide (l.target = zeroId))) && (nameOk l.name)) ga_t _ (fun hA v28 hv29 => R_load1 (v := (.string l.msg)) Tryz.isAgg9 (gv_t hA) ((boxR_at ((H5.ext hv29).getOwn 0 rfl)).chunks 2 1 33 33 _ rfl rfl rfl) ⟨rfl, Gr.refl _ _⟩) ?_
 refine Lx_qg (i := 12) true ((!(decide (l.target = zeroId))) && (nameOk l.name)) rfl rfl rfl rfl rfl ((!(decide (l.target = zeroId))) && (nameOk l.name)) ga_t _ (fun hA v30 hv31 => R_len_string Tryz.underlying9 (gv_t hA) ⟨rfl, Gr.refl _ _⟩) ?_
 refine Lx_qg (i := 13) true ((!(decide (l.target = zeroId))) && (nameOk l.name)) rfl rfl rfl rfl rfl ((!(decide (l.target = zeroId))) && (nameOk l.name)) ga_t _ (fun hA v32 hv33 => R_cmp (a := ((l.msg.size : Nat) : Int)) (b := 200) (r := (decide (((l.msg.size : Nat) : Int) ≤ 200))) (gv_t hA) rfl rfl ⟨rfl, Gr.refl _ _⟩) ?_
 refine Lx_q (i := 14) rfl rfl _ (fun v34 hv35 => R_pick (t := ((!(decide (l.target = zeroId))) && (nameOk l.name))) (v := (.bool (((!(decide (l.target = zeroId))) && (nameOk l.name)) && (decide (((l.msg.size : Nat) : Int) ≤ 200))))) rfl pk_and ⟨rfl, Gr.refl _ _⟩) ?_
 refine Lx_q (i := 15) rfl rfl _ (fun v36 hv37 => R_assign (v := (.bool (((!(decide (l.target = zeroId))) && (nameOk l.name)) && (decide (((l.msg.size : Nat) : Int) ≤ 200))))) rfl ⟨rfl, Gr.refl _ _⟩) ?_
 refine Lx_nil (fun w38 hw39 => ?_)
 have H40 := H5.ext hw39
 refine Then_n (W_ret ?_)
 refine ret_1 (v := (.bool (((!(decide (l.target = zeroId))) && (nameOk l.name)) && (decide (((l.msg.size : Nat) : Int) ≤ 200))))) Tryz.results70 rfl ?_
 exact ⟨label_eq, H40.gr⟩

end Go.Proofs.YthjdhfoeckfmbaaGreat
namespace Go.Proofs.YthjdhfoeckfmbaaGreat
open Go
set_option maxRecDepth 100000
set_option linter.unusedVariables false
set_option linter.unusedSimpArgs false
set_option linter.unusedSectionVars false
theorem obj_Label_c45 : callable Tryz.prog 45 = true := by kernel_rfl
theorem obj_Label_c49 : callable Tryz.prog 49 = true := by kernel_rfl
theorem obj_Label_c63 : callable Tryz.prog 63 = true := by kernel_rfl
theorem obj_Label_c65 : callable Tryz.prog 65 = true := by kernel_rfl
theorem obj_Label_c70 : callable Tryz.prog 70 = true := by kernel_rfl
set_option maxHeartbeats 1000000 in
theorem obj_Label (hb : SlH) (b : List UInt8) (w : World) (Sb : Sl (Old w) encB 1 hb b w) (hl : b.length ≤ 140737488355328) :
    Calls Tryz.prog 30 #[(slV hb b)] w (Ret fun v w' => v = .tuple #[(aggOf (labelCh ((labelOf b).1))), (.int .i64 ((labelOf b).2))] ∧ Ext w w') := by
 refine calls_W Tryz.func30 rfl Tryz.ntmps30 rfl ?_
 have H0 := Ctx.start w nob
 have H1 := H0.addSl _ Sb (fun b hb => ⟨hb, fun _ ho => (nomatch ho)⟩)
 have LSb := Sb.len
 refine W_seq (W_reg ?_)
 refine O_v rfl (C_alloc H1 [(idCells zeroId), [(.string ByteArray.empty)], [(.string ByteArray.empty)]] Tryz.zeroValue55 ?_)
 intro b2 w3 hb4 hx5 H6
 refine O_v rfl (R_assign (v := (.int .i64 0)) rfl ?_)
 refine O_nil (Then_n (W_seq (W_reg ?_)))
 refine O_v rfl (R_move (v := (slV hb b)) rfl ?_)
 refine O_v rfl (R_callL (vs := [(slV hb b), (.int .u8 4)]) obj_Label_c45 rfl rfl ((obj_open hb b 4 w3 (H6.slOld 0 rfl) (by omega)).ret ?_))
 rintro _ w10 ⟨b7, r8, S9, rfl, hx11, hb12, hS13, hQ14, hr15⟩
 have H16 := H6.addRd hx11 hb12 hS13 hQ14
 refine O_v rfl (R_assign (v := (.pointer (some ⟨b7, 0, none⟩))) rfl ?_)
 refine O_nil (Then_n (W_seq (W_reg ?_)))
 refine O_v rfl (R_move (v := (.pointer (some ⟨b7, 0, none⟩))) rfl ?_)
 refine O_v rfl (R_callL (vs := [(.pointer (some ⟨b7, 0, none⟩))]) obj_Label_c63 rfl rfl ((Reader_Id b7 r8 S9 (openSt b 4) w10 ((H16.pick (B' := [boxR b7 132 (rdCh r8)]) (I' := [slI S9 encB 1 r8.bh r8.b]) [0] (by decide) rfl (List.forall_mem_cons.2 ⟨List.mem_of_getElem? (i := 0) rfl, fun _ h => (nomatch h)⟩)).rdStart) hr15).ret ?_))
 rintro _ w18 ⟨r17, rfl, hg19, hQ20, hr21⟩
 have H22 := H16.rdUpd (r := r8) 0 0 rfl rfl hg19 hQ20
 refine O_v rfl (R_buildL (vs := [(0, (aggOf (idCh ((rdId (openSt b 4)).1))))]) (v := aggOf [(idCells ((rdId (openSt b 4)).1)), [(.string ByteArray.empty)], [(.string ByteArray.empty)]]) rfl (fun _ => by kernel_rfl) ?_)
 refine O_v rfl (C_alloc H22 [(idCells zeroId), [(.string ByteArray.empty)], [(.string ByteArray.empty)]] Tryz.zeroValue55 ?_)
 intro b23 w24 hb25 hx26 H27
 refine O_u (C_storeA H27 0 rfl 0 (sub := [(idCells ((rdId (openSt b 4)).1)), [(.string ByteArray.empty)], [(.string ByteArray.empty)]]) [(idCells ((rdId (openSt b 4)).1)), [(.string ByteArray.empty)], [(.string ByteArray.empty)]] Tryz.sizeOf55 rfl rfl rfl rfl ⟨[(idCells zeroId), [(.string ByteArray.empty)], [(.string ByteArray.empty)]], [], rfl, rfl, rfl⟩ rfl ?_)
 intro w28 hg29 H30
 refine O_nil (Then_n (W_seq (W_reg ?_)))
 refine O_v rfl (R_move (v := (.pointer (some ⟨b7, 0, none⟩))) rfl ?_)
 refine O_v rfl (R_callL (vs := [(.pointer (some ⟨b7, 0, none⟩)), (.int .i64 60)]) obj_Label_c65 rfl rfl ((Reader_Text b7 r17 S9 ((rdId (openSt b 4)).2) 60 w28 ((H30.pick (B' := [boxR b7 132 (rdCh r17)]) (I' := [slI S9 encB 1 r17.bh r17.b]) [1] (by decide) rfl (List.forall_mem_cons.2 ⟨List.mem_of_getElem? (i := 0) rfl, fun _ h => (nomatch h)⟩)).rdStart) hr21).ret ?_))
 rintro _ w32 ⟨r31, rfl, hg33, hQ34, hr35⟩
 have H36 := H30.rdUpd (r := r17) 1 0 rfl rfl hg33 hQ34
 refine O_v rfl (R_fieldAddr (off := 32) (oo := 32) Tryz.underlying55 rfl rfl Tryz.sizeOf9 rfl rfl ?_)
 refine O_u (C_store1 H36 0 rfl 1 (v := (.string ((rdText ((rdId (openSt b 4)).2) 60).1))) [(idCells ((rdId (openSt b 4)).1)), [(.string ((rdText ((rdId (openSt b 4)).2) 60).1))], [(.string ByteArray.empty)]] Tryz.sizeOf9 rfl rfl rfl rfl rfl rfl rfl ?_)
 intro w37 hg38 H39
 refine O_nil (Then_n (W_seq (W_reg ?_)))
 refine O_v rfl (R_move (v := (.pointer (some ⟨b7, 0, none⟩))) rfl ?_)
 refine O_v rfl (R_callL (vs := [(.pointer (some ⟨b7, 0, none⟩)), (.int .i64 200)]) obj_Label_c65 rfl rfl ((Reader_Text b7 r31 S9 ((rdText ((rdId (openSt b 4)).2) 60).2) 200 w37 ((H39.pick (B' := [boxR b7 132 (rdCh r31)]) (I' := [slI S9 encB 1 r31.bh r31.b]) [1] (by decide) rfl (List.forall_mem_cons.2 ⟨List.mem_of_getElem? (i := 0) rfl, fun _ h => (nomatch h)⟩)).rdStart) hr35).ret ?_))
 rintro _ w41 ⟨r40, rfl, hg42, hQ43, hr44⟩
 have H45 := H39.rdUpd (r := r31) 1 0 rfl rfl hg42 hQ43
 refine O_v rfl (R_fieldAddr (off := 33) (oo := 33) Tryz.underlying55 rfl rfl Tryz.sizeOf9 rfl rfl ?_)
 refine O_u (C_store1 H45 0 rfl 2 (v := (.string ((rdText ((rdText ((rdId (openSt b 4)).2) 60).2) 200).1))) [(idCells ((rdId (openSt b 4)).1)), [(.string ((rdText ((rdId (openSt b 4)).2) 60).1))], [(.string ((rdText ((rdText ((rdId (openSt b 4)).2) 60).2) 200).1))]] Tryz.sizeOf9 rfl rfl rfl rfl rfl rfl rfl ?_)
 intro w46 hg47 H48
 refine O_nil (Then_n (W_seq (W_seq ?_)))
 refine W_rgM (fun c => c = b7) (fun i => if i == 1 then 1 else 0) [(0, .q 2), (1, .c 1), (2, .q 2), (3, .q 2), (4, .q 1), (5, .q 0), (6, .q 2), (7, .q 2)] (by kernel_rfl) ?_
 refine Lx_q (i := 0) rfl rfl _ (fun v49 hv50 => R_move (v := (.pointer (some ⟨b7, 0, none⟩))) rfl ⟨rfl, Gr.refl _ _⟩) ?_
 refine Lx_c (i := 1) rfl rfl (fun w51 hw52 => ?_)
 have H53 := H48.ext hw52
 refine (R_callL (vs := [(.pointer (some ⟨b7, 0, none⟩))]) obj_Label_c49 rfl rfl ((Reader_Done b7 r40 S9 ((rdText ((rdText ((rdId (openSt b 4)).2) 60).2) 200).2) w51 ((H53.pick (B' := [boxR b7 132 (rdCh r40)]) (I' := [slI S9 encB 1 r40.bh r40.b]) [1] (by decide) rfl (List.forall_mem_cons.2 ⟨List.mem_of_getElem? (i := 0) rfl, fun _ h => (nomatch h)⟩)).rdStart) hr44).ret ?_))
 rintro _ w55 ⟨r54, rfl, hg56, hQ57, hr58⟩
 have H59 := H53.rdUpd (r := r40) 1 0 rfl rfl hg56 hQ57
 refine ⟨hg56, ?_⟩
 refine Lx_q (i := 2) rfl rfl _ (fun v60 hv61 => R_not rfl ⟨rfl, Gr.refl _ _⟩) ?_
 refine Lx_q (i := 3) rfl rfl _ (fun v62 hv63 => R_move (v := (.bool (!(rdDone ((rdText ((rdText ((rdId (openSt b 4)).2) 60).2) 200).2))))) rfl ⟨rfl, Gr.refl _ _⟩) ?_
 refine Lx_qg (i := 4) true (!(rdDone ((rdText ((rdText ((rdId (openSt b 4)).2) 60).2) 200).2))) rfl rfl rfl rfl rfl (!(!(rdDone ((rdText ((rdText ((rdId (openSt b 4)).2) 60).2) 200).2)))) ga_f _ (fun hA v64 hv65 => R_loadA (cs := [(idCells ((rdId (openSt b 4)).1)), [(.string ((rdText ((rdId (openSt b 4)).2) 60).1))], [(.string ((rdText ((rdText ((rdId (openSt b 4)).2) 60).2) 200).1))]]) Tryz.isAgg55 Tryz.sizeOf55 rfl rfl ((boxR_at (H59.ownGr 0 1 (by decide) rfl rfl hv65 (fun _ h => congrArg some h.symm))).chunks 0 3 0 0 _ rfl rfl rfl) ⟨rfl, Gr.refl _ _⟩) ?_
 refine Lx_qg (i := 5) true (!(rdDone ((rdText ((rdText ((rdId (openSt b 4)).2) 60).2) 200).2))) rfl rfl rfl rfl rfl (!(!(rdDone ((rdText ((rdText ((rdId (openSt b 4)).2) 60).2) 200).2)))) ga_f (.bool (labelOk ({ target := (rdId (openSt b 4)).1, name := (rdText ((rdId (openSt b 4)).2) 60).1, msg := (rdText ((rdText ((rdId (openSt b 4)).2) 60).2) 200).1 } : Label))) (fun hA v66 hv67 => R_callL (vs := [(aggOf [(idCells ((rdId (openSt b 4)).1)), [(.string ((rdText ((rdId (openSt b 4)).2) 60).1))], [(.string ((rdText ((rdText ((rdId (openSt b 4)).2) 60).2) 200).1))]])]) obj_Label_c70 rfl (lst1 (gv_t hA)) (obj_rightLabel ({ target := (rdId (openSt b 4)).1, name := (rdText ((rdId (openSt b 4)).2) 60).1, msg := (rdText ((rdText ((rdId (openSt b 4)).2) 60).2) 200).1 } : Label) v66 )) ?_
 refine Lx_qg (i := 6) true (!(rdDone ((rdText ((rdText ((rdId (openSt b 4)).2) 60).2) 200).2))) rfl rfl rfl rfl rfl (!(!(rdDone ((rdText ((rdText ((rdId (openSt b 4)).2) 60).2) 200).2)))) ga_f _ (fun hA v68 hv69 => R_not (gv_t hA) ⟨rfl, Gr.refl _ _⟩) ?_
 refine Lx_q (i := 7) rfl rfl _ (fun v70 hv71 => R_pick (t := (!(rdDone ((rdText ((rdText ((rdId (openSt b 4)).2) 60).2) 200).2)))) (v := (.bool ((!(rdDone ((rdText ((rdText ((rdId (openSt b 4)).2) 60).2) 200).2))) || (!(labelOk ({ target := (rdId (openSt b 4)).1, name := (rdText ((rdId (openSt b 4)).2) 60).1, msg := (rdText ((rdText ((rdId (openSt b 4)).2) 60).2) 200).1 } : Label)))))) rfl pk_or ⟨rfl, Gr.refl _ _⟩) ?_
 refine Lx_nil (fun w72 hw73 => ?_)
 have H74 := H59.ext hw73
 refine Then_n ?_
 refine W_cond (t := ((!(rdDone ((rdText ((rdText ((rdId (openSt b 4)).2) 60).2) 200).2))) || (!(labelOk ({ target := (rdId (openSt b 4)).1, name := (rdText ((rdId (openSt b 4)).2) 60).1, msg := (rdText ((rdText ((rdId (openSt b 4)).2) 60).2) 200).1 } : Label))))) rfl (fun hc75 => ?_) (fun hc75 => ?_)
 ·have hc75 : ((rdDone ((rdText ((rdText ((rdId (openSt b 4)).2) 60).2) 200).2)) = false ∨ (labelOk ({ target := (rdId (openSt b 4)).1, name := (rdText ((rdId (openSt b 4)).2) 60).1, msg := (rdText ((rdText ((rdId (openSt b 4)).2) 60).2) 200).1 } : Label)) = false) := (Or.imp (fun h => (notT h)) (fun h => (notT h)) (orT hc75))
  refine W_seq (W_reg ?_)
  refine O_v rfl (R_buildL (vs := []) (v := aggOf [(idCells zeroId), [(.string ByteArray.empty)], [(.string ByteArray.empty)]]) rfl (fun _ => by kernel_rfl) ?_)
  refine O_u (C_storeA H74 2 rfl 0 (sub := [(idCells zeroId), [(.string ByteArray.empty)], [(.string ByteArray.empty)]]) [(idCells zeroId), [(.string ByteArray.empty)], [(.string ByteArray.empty)]] Tryz.sizeOf55 rfl rfl rfl rfl ⟨[(idCells zeroId), [(.string ByteArray.empty)], [(.string ByteArray.empty)]], [], rfl, rfl, rfl⟩ rfl ?_)
  intro w76 hg77 H78
  refine O_v rfl (R_assign (v := (.int .i64 20)) rfl ?_)
  refine O_nil (Then_n (W_ret (Then_r ?_)))
  refine ret_ct (v := (.int .i64 20)) Tryz.results30 (inMem (cs := [(idCells zeroId), [(.string ByteArray.empty)], [(.string ByteArray.empty)]]) rfl Tryz.isAgg55 Tryz.sizeOf55 rfl (boxR_at (H78.getOwn 2 rfl))) rfl ?_
  exact ⟨(labelOf_f (by assumption)), H78.gr⟩
 ·have hc75 : ((rdDone ((rdText ((rdText ((rdId (openSt b 4)).2) 60).2) 200).2)) = true ∧ (labelOk ({ target := (rdId (openSt b 4)).1, name := (rdText ((rdId (openSt b 4)).2) 60).1, msg := (rdText ((rdText ((rdId (openSt b 4)).2) 60).2) 200).1 } : Label)) = true) := (And.imp (fun h => (notF h)) (fun h => (notF h)) (orF hc75))
  refine W_skip (Then_n (W_seq (W_reg ?_)))
  refine O_v rfl (R_loadA (cs := [(idCells ((rdId (openSt b 4)).1)), [(.string ((rdText ((rdId (openSt b 4)).2) 60).1))], [(.string ((rdText ((rdText ((rdId (openSt b 4)).2) 60).2) 200).1))]]) Tryz.isAgg55 Tryz.sizeOf55 rfl rfl ((boxR_at (H74.getOwn 0 rfl)).chunks 0 3 0 0 _ rfl rfl rfl) ?_)
  refine O_u (C_storeA H74 2 rfl 0 (sub := [(idCells ((rdId (openSt b 4)).1)), [(.string ((rdText ((rdId (openSt b 4)).2) 60).1))], [(.string ((rdText ((rdText ((rdId (openSt b 4)).2) 60).2) 200).1))]]) [(idCells ((rdId (openSt b 4)).1)), [(.string ((rdText ((rdId (openSt b 4)).2) 60).1))], [(.string ((rdText ((rdText ((rdId (openSt b 4)).2) 60).2) 200).1))]] Tryz.sizeOf55 rfl rfl rfl rfl ⟨[(idCells zeroId), [(.string ByteArray.empty)], [(.string ByteArray.empty)]], [], rfl, rfl, rfl⟩ rfl ?_)
  intro w79 hg80 H81
  refine O_v rfl (R_assign (v := (.int .i64 0)) rfl ?_)
  refine O_nil (Then_n (W_ret ?_))
  refine ret_ct (v := (.int .i64 0)) Tryz.results30 (inMem (cs := [(idCells ((rdId (openSt b 4)).1)), [(.string ((rdText ((rdId (openSt b 4)).2) 60).1))], [(.string ((rdText ((rdText ((rdId (openSt b 4)).2) 60).2) 200).1))]]) rfl Tryz.isAgg55 Tryz.sizeOf55 rfl (boxR_at (H81.getOwn 2 rfl))) rfl ?_
  exact ⟨(labelOf_t (by assumption)), H81.gr⟩

end Go.Proofs.YthjdhfoeckfmbaaGreat
namespace Go.Proofs.YthjdhfoeckfmbaaGreat
open Go
set_option maxRecDepth 100000
set_option linter.unusedVariables false
set_option linter.unusedSimpArgs false
set_option linter.unusedSectionVars false
theorem obj_Kind_c11 : callable Tryz.prog 11 = true := by kernel_rfl
theorem obj_Kind_c17 : callable Tryz.prog 17 = true := by kernel_rfl
theorem obj_Kind_c25 : callable Tryz.prog 25 = true := by kernel_rfl
theorem obj_Kind_c30 : callable Tryz.prog 30 = true := by kernel_rfl
set_option maxHeartbeats 2000000 in
theorem obj_Kind (hb : SlH) (b : List UInt8) (w : World) (Sb : Sl (Old w) encB 1 hb b w) (hl : b.length ≤ 140737488355328) :
    Calls Tryz.prog 14 #[(slV hb b)] w (Ret fun v w' => v = (.int .i64 (kindOf b)) ∧ Ext w w') := by
 refine calls_W Tryz.func14 rfl Tryz.ntmps14 rfl ?_
 have H0 := Ctx.start w nob
 have H1 := H0.addSl _ Sb (fun b hb => ⟨hb, fun _ ho => (nomatch ho)⟩)
 have LSb := Sb.len
 refine W_seq (W_reg ?_)
 refine O_v rfl (R_assign (v := (.int .i64 0)) rfl ?_)
 refine O_nil (Then_n (W_seq (W_seq (W_reg ?_))))
 refine O_v rfl (R_move (v := (slV hb b)) rfl ?_)
 refine O_v rfl (R_len_slice (a := hb.a) (n := b.length) (c := hb.c) Tryz.underlying22 rfl ?_)
 refine O_v rfl (R_cmp (a := ((b.length : Nat) : Int)) (b := 0) (r := (decide (((b.length : Nat) : Int) = 0))) rfl rfl rfl ?_)
 refine O_nil (Then_n ?_)
 refine W_cond (t := (decide (((b.length : Nat) : Int) = 0))) rfl (fun hc2 => ?_) (fun hc2 => ?_)
 ·have hc2 : (((b.length : Nat) : Int) = 0) := (of_decide_eq_true hc2)
  refine W_seq (W_reg ?_)
  refine O_v rfl (R_assign (v := (.int .i64 0)) rfl ?_)
  refine O_nil (Then_n (W_ret (Then_r ?_)))
  refine ret_1 (v := (.int .i64 0)) Tryz.results14 rfl ?_
  exact ⟨(by rw [kind_0 (by assumption)]), H1.gr⟩
 ·have hc2 : ¬ (((b.length : Nat) : Int) = 0) := (of_decide_eq_false hc2)
  refine W_skip (Then_n (W_seq (W_reg ?_)))
  refine O_v rfl (R_assign (v := (.int .i64 20)) rfl ?_)
  refine O_nil (Then_n (W_seq (W_seq (W_reg ?_))))
  refine O_v rfl (R_move (v := (slV hb b)) rfl ?_)
  refine O_v rfl (R_index_pure (H1.sl 0 rfl) (n := b.length) rfl (j := 0) (oo := (hb.o + 0 * 1)) Tryz.underlying22 Tryz.sizeOf5 rfl rfl (by omega) (by omega) rfl ?_)
  refine O_v rfl (R_load1 (v := (.int .u8 ((nth b 0).toNat : Int))) Tryz.isAgg5 rfl ((Sl.elem (H1.sl 0 rfl) (i := 0) (by omega) rfl).chunks 0 1 0 (hb.o + 0 * 1) _ rfl rfl rfl) ?_)
  refine O_nil (Then_n (W_block (W_seq (W_reg ?_))))
  refine O_v rfl (R_cmp (a := ((nth b 0).toNat : Int)) (b := 1) (r := (decide (((nth b 0).toNat : Int) = 1))) rfl rfl rfl ?_)
  refine O_v rfl (R_assign (v := (.bool (decide (((nth b 0).toNat : Int) = 1)))) rfl ?_)
  refine O_nil (Then_n ?_)
  refine W_cond (t := (decide (((nth b 0).toNat : Int) = 1))) rfl (fun hc3 => ?_) (fun hc3 => ?_)
  ·have hc3 : (((nth b 0).toNat : Int) = 1) := (of_decide_eq_true hc3)
   refine W_reg ?_
   refine O_v rfl (R_move (v := (slV hb b)) rfl ?_)
   refine O_v rfl (R_callL (vs := [(slV hb b)]) obj_Kind_c11 rfl rfl ((obj_Blob hb b w (H1.slOld 0 rfl)).ret ?_))
   rintro _ w5 ⟨h4, rfl, hx6, ho7⟩
   have H8 := H1.addRow hx6 ho7
   refine O_v rfl (R_move (v := (.tuple #[(slV h4 (blobB b)), (.int .i64 (blobE b))])) rfl ?_)
   refine O_v rfl (R_extract (v := (slV h4 (blobB b))) rfl rfl ?_)
   refine O_v rfl (R_extract (v := (.int .i64 (blobE b))) rfl rfl ?_)
   refine O_v rfl (R_assign (v := (.int .i64 (blobE b))) rfl ?_)
   refine O_nil (Blk_n (Then_n (W_seq (W_seq (W_reg ?_)))))
   refine O_v rfl (R_move (v := (.int .i64 (blobE b))) rfl ?_)
   refine O_v rfl (R_cmp (a := blobE b) (b := 0) (r := (!(decide (blobE b = 0)))) rfl rfl rfl ?_)
   refine O_nil (Then_n ?_)
   refine W_cond (t := (!(decide (blobE b = 0)))) rfl (fun hc9 => ?_) (fun hc9 => ?_)
   ·have hc9 : ¬ (blobE b = 0) := (of_decide_eq_false (notT hc9))
    refine W_seq (W_reg ?_)
    refine O_v rfl (R_assign (v := (.int .i64 0)) rfl ?_)
    refine O_nil (Then_n (W_ret (Then_r ?_)))
    refine ret_1 (v := (.int .i64 0)) Tryz.results14 rfl ?_
    exact ⟨(by rw [(kind_1 (by assumption) (by assumption)), if_neg (fun e0 => hc9 (e0))]), H8.gr⟩
   ·have hc9 : (blobE b = 0) := (of_decide_eq_true (notF hc9))
    refine W_skip (Then_n (W_seq (W_reg ?_)))
    refine O_v rfl (R_move (v := (slV hb b)) rfl ?_)
    refine O_v rfl (R_index_pure (H8.sl 0 rfl) (n := b.length) rfl (j := 0) (oo := (hb.o + 0 * 1)) Tryz.underlying22 Tryz.sizeOf5 rfl rfl (by omega) (by omega) rfl ?_)
    refine O_v rfl (R_load1 (v := (.int .u8 ((nth b 0).toNat : Int))) Tryz.isAgg5 rfl ((Sl.elem (H8.sl 0 rfl) (i := 0) (by omega) rfl).chunks 0 1 0 (hb.o + 0 * 1) _ rfl rfl rfl) ?_)
    refine O_v rfl (R_conv_int (a := ((nth b 0).toNat : Int)) (r := ((nth b 0).toNat : Int)) Tryz.underlying5 Tryz.underlying3 rfl (w64 _ (by have := u8_lt (nth b 0); omega)) ?_)
    refine O_v rfl (R_assign (v := (.int .i64 ((nth b 0).toNat : Int))) rfl ?_)
    refine O_nil (Then_n (W_ret ?_))
    refine ret_1 (v := (.int .i64 ((nth b 0).toNat : Int))) Tryz.results14 rfl ?_
    exact ⟨(by rw [(kind_1 (by assumption) (by assumption)), if_pos (hc9)]; exact congrArg (Value.int .i64) (by omega)), H8.gr⟩
  ·have hc3 : ¬ (((nth b 0).toNat : Int) = 1) := (of_decide_eq_false hc3)
   refine W_seq (W_reg ?_)
   refine O_v rfl (R_cmp (a := ((nth b 0).toNat : Int)) (b := 2) (r := (decide (((nth b 0).toNat : Int) = 2))) rfl rfl rfl ?_)
   refine O_v rfl (R_assign (v := (.bool (decide (((nth b 0).toNat : Int) = 2)))) rfl ?_)
   refine O_nil (Then_n ?_)
   refine W_cond (t := (decide (((nth b 0).toNat : Int) = 2))) rfl (fun hc10 => ?_) (fun hc10 => ?_)
   ·have hc10 : (((nth b 0).toNat : Int) = 2) := (of_decide_eq_true hc10)
    refine W_reg ?_
    refine O_v rfl (R_move (v := (slV hb b)) rfl ?_)
    refine O_v rfl (R_callL (vs := [(slV hb b)]) obj_Kind_c17 rfl rfl ((obj_Dir hb b w (H1.slOld 0 rfl) (by omega)).ret ?_))
    rintro _ w14 ⟨h11, l12, S13, e21, rfl, hx15, ho16, hS17, hd18, hr19⟩
    have H20 := H1.addRowDeep (h := fun x : ItemS => x.hh) (f := fun x : ItemS => x.heads) hx15 ho16 hS17 hd18
    refine O_v rfl (R_move (v := (.tuple #[(slV h11 l12), (.int .i64 e21)])) rfl ?_)
    refine O_v rfl (R_extract (v := (slV h11 l12)) rfl rfl ?_)
    refine O_v rfl (R_extract (v := (.int .i64 e21)) rfl rfl ?_)
    refine O_v rfl (R_assign (v := (.int .i64 e21)) rfl ?_)
    refine O_nil (Blk_n (Then_n (W_seq (W_seq (W_reg ?_)))))
    refine O_v rfl (R_move (v := (.int .i64 e21)) rfl ?_)
    refine O_v rfl (R_cmp (a := e21) (b := 0) (r := (!(decide (e21 = 0)))) rfl rfl rfl ?_)
    refine O_nil (Then_n ?_)
    refine W_cond (t := (!(decide (e21 = 0)))) rfl (fun hc22 => ?_) (fun hc22 => ?_)
    ·have hc22 : ¬ (e21 = 0) := (of_decide_eq_false (notT hc22))
     refine W_seq (W_reg ?_)
     refine O_v rfl (R_assign (v := (.int .i64 0)) rfl ?_)
     refine O_nil (Then_n (W_ret (Then_r ?_)))
     refine ret_1 (v := (.int .i64 0)) Tryz.results14 rfl ?_
     exact ⟨(by rw [(kind_2 (by assumption) (by assumption) (by assumption)), if_neg (fun e0 => hc22 ((congrArg Prod.snd hr19).trans e0))]), H20.gr⟩
    ·have hc22 : (e21 = 0) := (of_decide_eq_true (notF hc22))
     refine W_skip (Then_n (W_seq (W_reg ?_)))
     refine O_v rfl (R_move (v := (slV hb b)) rfl ?_)
     refine O_v rfl (R_index_pure (H20.sl 1 rfl) (n := b.length) rfl (j := 0) (oo := (hb.o + 0 * 1)) Tryz.underlying22 Tryz.sizeOf5 rfl rfl (by omega) (by omega) rfl ?_)
     refine O_v rfl (R_load1 (v := (.int .u8 ((nth b 0).toNat : Int))) Tryz.isAgg5 rfl ((Sl.elem (H20.sl 1 rfl) (i := 0) (by omega) rfl).chunks 0 1 0 (hb.o + 0 * 1) _ rfl rfl rfl) ?_)
     refine O_v rfl (R_conv_int (a := ((nth b 0).toNat : Int)) (r := ((nth b 0).toNat : Int)) Tryz.underlying5 Tryz.underlying3 rfl (w64 _ (by have := u8_lt (nth b 0); omega)) ?_)
     refine O_v rfl (R_assign (v := (.int .i64 ((nth b 0).toNat : Int))) rfl ?_)
     refine O_nil (Then_n (W_ret ?_))
     refine ret_1 (v := (.int .i64 ((nth b 0).toNat : Int))) Tryz.results14 rfl ?_
     exact ⟨(by rw [(kind_2 (by assumption) (by assumption) (by assumption)), if_pos ((congrArg Prod.snd hr19).symm.trans hc22)]; exact congrArg (Value.int .i64) (by omega)), H20.gr⟩
   ·have hc10 : ¬ (((nth b 0).toNat : Int) = 2) := (of_decide_eq_false hc10)
    refine W_seq (W_reg ?_)
    refine O_v rfl (R_cmp (a := ((nth b 0).toNat : Int)) (b := 3) (r := (decide (((nth b 0).toNat : Int) = 3))) rfl rfl rfl ?_)
    refine O_v rfl (R_assign (v := (.bool (decide (((nth b 0).toNat : Int) = 3)))) rfl ?_)
    refine O_nil (Then_n ?_)
    refine W_cond (t := (decide (((nth b 0).toNat : Int) = 3))) rfl (fun hc23 => ?_) (fun hc23 => ?_)
    ·have hc23 : (((nth b 0).toNat : Int) = 3) := (of_decide_eq_true hc23)
     refine W_reg ?_
     refine O_v rfl (R_move (v := (slV hb b)) rfl ?_)
     refine O_v rfl (R_callL (vs := [(slV hb b)]) obj_Kind_c25 rfl rfl ((obj_Change hb b w (H1.slOld 0 rfl) (by omega)).ret ?_))
     rintro _ w27 ⟨x24, S25, e26, rfl, hx28, hS29, hs30, hs31, hs32, hr33⟩
     have H35 := H1.addImm hx28 (slI S25 idCh 32 x24.ph x24.parents) hs30 hS29
     have H36 := H35.immOf 0 rfl (slI S25 opCh 41 x24.oh x24.ops) (fun _ h => h) (fun _ => hs31)
     have H37 := H36.immOf 0 rfl (deepI S25 stampCh 2 (fun x : OpS => x.oh) (fun x : OpS => x.over) x24.ops) (fun _ h => h) (fun _ => hs32)
     refine O_v rfl (R_move (v := (.tuple #[(aggOf (changeCh x24)), (.int .i64 e26)])) rfl ?_)
     refine O_v rfl (R_extract (v := (aggOf (changeCh x24))) rfl rfl ?_)
     refine O_v rfl (R_extract (v := (.int .i64 e26)) rfl rfl ?_)
     refine O_v rfl (R_assign (v := (.int .i64 e26)) rfl ?_)
     refine O_nil (Blk_n (Then_n (W_seq (W_seq (W_reg ?_)))))
     refine O_v rfl (R_move (v := (.int .i64 e26)) rfl ?_)
     refine O_v rfl (R_cmp (a := e26) (b := 0) (r := (!(decide (e26 = 0)))) rfl rfl rfl ?_)
     refine O_nil (Then_n ?_)
     refine W_cond (t := (!(decide (e26 = 0)))) rfl (fun hc38 => ?_) (fun hc38 => ?_)
     ·have hc38 : ¬ (e26 = 0) := (of_decide_eq_false (notT hc38))
      refine W_seq (W_reg ?_)
      refine O_v rfl (R_assign (v := (.int .i64 0)) rfl ?_)
      refine O_nil (Then_n (W_ret (Then_r ?_)))
      refine ret_1 (v := (.int .i64 0)) Tryz.results14 rfl ?_
      exact ⟨(by rw [(kind_3 (by assumption) (by assumption) (by assumption) (by assumption)), if_neg (fun e0 => hc38 ((congrArg Prod.snd hr33).trans e0))]), H37.gr⟩
     ·have hc38 : (e26 = 0) := (of_decide_eq_true (notF hc38))
      refine W_skip (Then_n (W_seq (W_reg ?_)))
      refine O_v rfl (R_move (v := (slV hb b)) rfl ?_)
      refine O_v rfl (R_index_pure (H37.sl 3 rfl) (n := b.length) rfl (j := 0) (oo := (hb.o + 0 * 1)) Tryz.underlying22 Tryz.sizeOf5 rfl rfl (by omega) (by omega) rfl ?_)
      refine O_v rfl (R_load1 (v := (.int .u8 ((nth b 0).toNat : Int))) Tryz.isAgg5 rfl ((Sl.elem (H37.sl 3 rfl) (i := 0) (by omega) rfl).chunks 0 1 0 (hb.o + 0 * 1) _ rfl rfl rfl) ?_)
      refine O_v rfl (R_conv_int (a := ((nth b 0).toNat : Int)) (r := ((nth b 0).toNat : Int)) Tryz.underlying5 Tryz.underlying3 rfl (w64 _ (by have := u8_lt (nth b 0); omega)) ?_)
      refine O_v rfl (R_assign (v := (.int .i64 ((nth b 0).toNat : Int))) rfl ?_)
      refine O_nil (Then_n (W_ret ?_))
      refine ret_1 (v := (.int .i64 ((nth b 0).toNat : Int))) Tryz.results14 rfl ?_
      exact ⟨(by rw [(kind_3 (by assumption) (by assumption) (by assumption) (by assumption)), if_pos ((congrArg Prod.snd hr33).symm.trans hc38)]; exact congrArg (Value.int .i64) (by omega)), H37.gr⟩
    ·have hc23 : ¬ (((nth b 0).toNat : Int) = 3) := (of_decide_eq_false hc23)
     refine W_seq (W_reg ?_)
     refine O_v rfl (R_cmp (a := ((nth b 0).toNat : Int)) (b := 4) (r := (decide (((nth b 0).toNat : Int) = 4))) rfl rfl rfl ?_)
     refine O_v rfl (R_assign (v := (.bool (decide (((nth b 0).toNat : Int) = 4)))) rfl ?_)
     refine O_nil (Then_n ?_)
     refine W_cond (t := (decide (((nth b 0).toNat : Int) = 4))) rfl (fun hc39 => ?_) (fun hc39 => ?_)
     ·have hc39 : (((nth b 0).toNat : Int) = 4) := (of_decide_eq_true hc39)
      refine W_reg ?_
      refine O_v rfl (R_move (v := (slV hb b)) rfl ?_)
      refine O_v rfl (R_callL (vs := [(slV hb b)]) obj_Kind_c30 rfl rfl ((obj_Label hb b w (H1.slOld 0 rfl) (by omega)).ret ?_))
      rintro _ w40 ⟨rfl, hx41⟩
      have H42 := H1.ext hx41
      refine O_v rfl (R_move (v := (.tuple #[(aggOf (labelCh ((labelOf b).1))), (.int .i64 ((labelOf b).2))])) rfl ?_)
      refine O_v rfl (R_extract (v := (aggOf (labelCh ((labelOf b).1)))) rfl rfl ?_)
      refine O_v rfl (R_extract (v := (.int .i64 ((labelOf b).2))) rfl rfl ?_)
      refine O_v rfl (R_assign (v := (.int .i64 ((labelOf b).2))) rfl ?_)
      refine O_nil (Blk_n (Then_n (W_seq (W_seq (W_reg ?_)))))
      refine O_v rfl (R_move (v := (.int .i64 ((labelOf b).2))) rfl ?_)
      refine O_v rfl (R_cmp (a := (labelOf b).2) (b := 0) (r := (!(decide ((labelOf b).2 = 0)))) rfl rfl rfl ?_)
      refine O_nil (Then_n ?_)
      refine W_cond (t := (!(decide ((labelOf b).2 = 0)))) rfl (fun hc43 => ?_) (fun hc43 => ?_)
      ·have hc43 : ¬ ((labelOf b).2 = 0) := (of_decide_eq_false (notT hc43))
       refine W_seq (W_reg ?_)
       refine O_v rfl (R_assign (v := (.int .i64 0)) rfl ?_)
       refine O_nil (Then_n (W_ret (Then_r ?_)))
       refine ret_1 (v := (.int .i64 0)) Tryz.results14 rfl ?_
       exact ⟨(by rw [(kind_4 (by assumption) (by assumption) (by assumption) (by assumption) (by assumption)), if_neg (fun e0 => hc43 (e0))]), H42.gr⟩
      ·have hc43 : ((labelOf b).2 = 0) := (of_decide_eq_true (notF hc43))
       refine W_skip (Then_n (W_seq (W_reg ?_)))
       refine O_v rfl (R_move (v := (slV hb b)) rfl ?_)
       refine O_v rfl (R_index_pure (H42.sl 0 rfl) (n := b.length) rfl (j := 0) (oo := (hb.o + 0 * 1)) Tryz.underlying22 Tryz.sizeOf5 rfl rfl (by omega) (by omega) rfl ?_)
       refine O_v rfl (R_load1 (v := (.int .u8 ((nth b 0).toNat : Int))) Tryz.isAgg5 rfl ((Sl.elem (H42.sl 0 rfl) (i := 0) (by omega) rfl).chunks 0 1 0 (hb.o + 0 * 1) _ rfl rfl rfl) ?_)
       refine O_v rfl (R_conv_int (a := ((nth b 0).toNat : Int)) (r := ((nth b 0).toNat : Int)) Tryz.underlying5 Tryz.underlying3 rfl (w64 _ (by have := u8_lt (nth b 0); omega)) ?_)
       refine O_v rfl (R_assign (v := (.int .i64 ((nth b 0).toNat : Int))) rfl ?_)
       refine O_nil (Then_n (W_ret ?_))
       refine ret_1 (v := (.int .i64 ((nth b 0).toNat : Int))) Tryz.results14 rfl ?_
       exact ⟨(by rw [(kind_4 (by assumption) (by assumption) (by assumption) (by assumption) (by assumption)), if_pos (hc43)]; exact congrArg (Value.int .i64) (by omega)), H42.gr⟩
     ·have hc39 : ¬ (((nth b 0).toNat : Int) = 4) := (of_decide_eq_false hc39)
      refine W_skip (Blk_n (Then_n (W_seq (W_seq (W_reg ?_)))))
      refine O_v rfl (R_move (v := (.int .i64 20)) rfl ?_)
      refine O_v rfl (R_cmp (a := 20) (b := 0) (r := (!(decide ((20 : Int) = 0)))) rfl rfl rfl ?_)
      refine O_nil (Then_n ?_)
      refine W_cond (t := (!(decide ((20 : Int) = 0)))) rfl (fun hc44 => ?_) (fun hc44 => ?_)
      ·have hc44 : ¬ ((20 : Int) = 0) := (of_decide_eq_false (notT hc44))
       refine W_seq (W_reg ?_)
       refine O_v rfl (R_assign (v := (.int .i64 0)) rfl ?_)
       refine O_nil (Then_n (W_ret (Then_r ?_)))
       refine ret_1 (v := (.int .i64 0)) Tryz.results14 rfl ?_
       exact ⟨(by rw [kind_5 (by assumption) (by assumption) (by assumption) (by assumption) (by assumption)]), H1.gr⟩
      ·have hc44 : ((20 : Int) = 0) := (of_decide_eq_true (notF hc44))
       refine W_skip (Then_n (W_seq (W_reg ?_)))
       refine O_v rfl (R_move (v := (slV hb b)) rfl ?_)
       refine O_v rfl (R_index_pure (H1.sl 0 rfl) (n := b.length) rfl (j := 0) (oo := (hb.o + 0 * 1)) Tryz.underlying22 Tryz.sizeOf5 rfl rfl (by omega) (by omega) rfl ?_)
       refine O_v rfl (R_load1 (v := (.int .u8 ((nth b 0).toNat : Int))) Tryz.isAgg5 rfl ((Sl.elem (H1.sl 0 rfl) (i := 0) (by omega) rfl).chunks 0 1 0 (hb.o + 0 * 1) _ rfl rfl rfl) ?_)
       refine O_v rfl (R_conv_int (a := ((nth b 0).toNat : Int)) (r := ((nth b 0).toNat : Int)) Tryz.underlying5 Tryz.underlying3 rfl (w64 _ (by have := u8_lt (nth b 0); omega)) ?_)
       refine O_v rfl (R_assign (v := (.int .i64 ((nth b 0).toNat : Int))) rfl ?_)
       refine O_nil (Then_n (W_ret ?_))
       refine ret_1 (v := (.int .i64 ((nth b 0).toNat : Int))) Tryz.results14 rfl ?_
       exact ⟨(absurd (by assumption : (20 : Int) = 0) (by decide)), H1.gr⟩

end Go.Proofs.YthjdhfoeckfmbaaGreat
namespace Go.Proofs.YthjdhfoeckfmbaaGreat
open Go
set_option maxRecDepth 100000
set_option linter.unusedVariables false
set_option linter.unusedSimpArgs false
set_option linter.unusedSectionVars false
variable [DD]
set_option maxHeartbeats 1000000 in
theorem Clone_ID (hs : SlH) (s : List ID) (w : World) (Ss : Sl (Old w) idCh 32 hs s w) (hl : s.length * 32 ≤ 140737488355328) :
    Calls Tryz.prog 53 #[(slV hs s)] w (Ret fun v w' => ∃ h, v = slV h (s) ∧ Ext w w' ∧ OwnS w.heap.size 45 32 idCh h (s) w') := by
 refine calls_W Tryz.func53 rfl Tryz.ntmps53 rfl ?_
 have H0 := Ctx.start w nob
 have H1 := H0.addSl _ Ss (fun b hb => ⟨hb, fun _ ho => (nomatch ho)⟩)
 have LSs := Ss.len
 refine W_seq (W_reg ?_)
 refine O_v rfl (R_assign (v := (.slice none 0 0)) rfl ?_)
 refine O_nil (Then_n (W_seq (W_seq (W_reg ?_))))
 refine O_v rfl (R_move (v := (slV hs s)) rfl ?_)
 refine O_v rfl (R_slice_nil (a := hs.a) Tryz.underlying39 rfl rfl ?_)
 refine O_nil (Then_n ?_)
 refine W_cond (t := hs.a.isNone) rfl (fun hc2 => ?_) (fun hc2 => ?_)
 ·have hc2 : hs.a.isNone = true := hc2
  refine W_seq (W_reg ?_)
  refine O_v rfl (R_assign (v := (.slice none 0 0)) rfl ?_)
  refine O_nil (Then_n (W_ret (Then_r ?_)))
  refine ret_1 (v := (.slice none 0 0)) Tryz.results53 rfl ?_
  have H3 := H1.addNil 45 32 idCh
  have hE : [] = s := (Sl.isNil Ss (by assumption)).symm
  refine ⟨nilH, ?_, H3.gr, ?_⟩
  · exact congrArg (fun l => slV nilH l) hE
  · have hO := H3.retRow 0 rfl
    exact hE ▸ hO
 ·have hc2 : hs.a.isNone = false := hc2
  refine W_skip (Then_n (W_seq (W_reg ?_)))
  refine O_v rfl (C_buildSliceL H1 (enc := idCh) (val := idV) ([] : List ID) Tryz.underlying39 Tryz.sizeOf45 Tryz.zeroValue45 rfl (by decide) (fun _ => rfl) (fun _ => rfl) rfl rfl (by decide) ?_)
  intro b4 w5 hb6 hx7 H8
  refine O_v rfl (R_move (v := (slV hs s)) rfl ?_)
  refine O_v rfl (C_append H8 0 rfl (bytes := 32) (l := ([] : List ID)) (ys := s) Tryz.underlying39 rfl rfl rfl rfl rfl (by decide) rfl rfl (H8.sl 0 rfl) (fun _ => rfl) (fun _ => rfl) (by simpa using hl) (by decide) ?_)
  intro h9 w10 hg11 H12
  refine O_v rfl (R_assign (v := (slV h9 (([] : List ID) ++ s))) rfl ?_)
  refine O_nil (Then_n (W_ret ?_))
  refine ret_1 (v := (slV h9 (([] : List ID) ++ s))) Tryz.results53 rfl ?_
  have hE : ([] : List ID) ++ s = s := List.nil_append _
  refine ⟨h9, ?_, H12.gr, ?_⟩
  · exact congrArg (fun l => slV h9 l) hE
  · have hO := H12.retRow 0 rfl
    exact hE ▸ hO

end Go.Proofs.YthjdhfoeckfmbaaGreat
namespace Go.Proofs.YthjdhfoeckfmbaaGreat
open Go
set_option maxRecDepth 100000
set_option linter.unusedVariables false
set_option linter.unusedSimpArgs false
set_option linter.unusedSectionVars false
variable [DD]
set_option maxHeartbeats 1000000 in
theorem Compact_ID (hs : SlH) (s : List ID) (w : World) (Os : OwnS 0 45 32 idCh hs s w) (hl : s.length ≤ 1) :
    Calls Tryz.prog 56 #[(slV hs s)] w (Ret fun v w' => v = (slV hs s) ∧ Gr (fun b => (slV hs s).ownBlock = some b) w w' ∧ OwnS 0 45 32 idCh hs (s) w') := by
 refine calls_W Tryz.func56 rfl Tryz.ntmps56 rfl ?_
 have H0 := Ctx.startRow Os
 have LSs := (OwnS.sl Os (fun _ => rfl)).len
 refine W_seq (W_reg ?_)
 refine O_v rfl (R_assign (v := (.slice none 0 0)) rfl ?_)
 refine O_nil (Then_n (W_seq (W_seq (W_reg ?_))))
 refine O_v rfl (R_move (v := (slV hs s)) rfl ?_)
 refine O_v rfl (R_len_slice (a := hs.a) (n := s.length) (c := hs.c) Tryz.underlying39 rfl ?_)
 refine O_v rfl (R_cmp (a := ((s.length : Nat) : Int)) (b := 2) (r := (decide (((s.length : Nat) : Int) < 2))) rfl rfl rfl ?_)
 refine O_nil (Then_n ?_)
 refine W_cond (t := (decide (((s.length : Nat) : Int) < 2))) rfl (fun hc1 => ?_) (fun hc1 => ?_)
 ·have hc1 : (((s.length : Nat) : Int) < 2) := (of_decide_eq_true hc1)
  refine W_seq (W_reg ?_)
  refine O_v rfl (R_move (v := (slV hs s)) rfl ?_)
  refine O_v rfl (R_assign (v := (slV hs s)) rfl ?_)
  refine O_nil (Then_n (W_ret (Then_r ?_)))
  refine ret_1 (v := (slV hs s)) Tryz.results56 rfl ⟨rfl, H0.gr, ?_⟩
  exact H0.getOwn 0 rfl
 ·have hc1 : ¬ (((s.length : Nat) : Int) < 2) := (of_decide_eq_false hc1)
  refine W_skip (Then_n ?_)
  exfalso; omega

end Go.Proofs.YthjdhfoeckfmbaaGreat
namespace Go.Proofs.YthjdhfoeckfmbaaGreat
open Go
set_option maxRecDepth 100000
set_option linter.unusedVariables false
set_option linter.unusedSimpArgs false
set_option linter.unusedSectionVars false
variable [DD]
set_option maxHeartbeats 1000000 in
theorem bits_Len64 (x : Nat) (w : World) (hx : x ≤ 1) :
    Calls Tryz.prog 126 #[(.int .u64 ((x : Nat) : Int))] w (Ret fun v w' => v = (.int .i64 ((x : Nat) : Int)) ∧ Ext w w') := by
 refine calls_W Tryz.func126 rfl Tryz.ntmps126 rfl ?_
 have H0 := Ctx.start w nob
 refine W_seq (W_reg ?_)
 refine O_v rfl (R_assign (v := (.int .i64 0)) rfl ?_)
 refine O_nil (Then_n (W_seq (W_seq (W_reg ?_))))
 refine O_v rfl (R_move (v := (.int .u64 ((x : Nat) : Int))) rfl ?_)
 refine O_v rfl (R_cmp (a := ((x : Nat) : Int)) (b := 4294967296) (r := (decide (4294967296 ≤ ((x : Nat) : Int)))) rfl rfl rfl ?_)
 refine O_nil (Then_n ?_)
 refine W_cond (t := (decide (4294967296 ≤ ((x : Nat) : Int)))) rfl (fun hc1 => ?_) (fun hc1 => ?_)
 ·have hc1 : (4294967296 ≤ ((x : Nat) : Int)) := (of_decide_eq_true hc1)
  exfalso; omega
 ·have hc1 : ¬ (4294967296 ≤ ((x : Nat) : Int)) := (of_decide_eq_false hc1)
  refine W_skip (Then_n (W_seq (W_seq (W_reg ?_))))
  refine O_v rfl (R_move (v := (.int .u64 ((x : Nat) : Int))) rfl ?_)
  refine O_v rfl (R_cmp (a := ((x : Nat) : Int)) (b := 65536) (r := (decide (65536 ≤ ((x : Nat) : Int)))) rfl rfl rfl ?_)
  refine O_nil (Then_n ?_)
  refine W_cond (t := (decide (65536 ≤ ((x : Nat) : Int)))) rfl (fun hc2 => ?_) (fun hc2 => ?_)
  ·have hc2 : (65536 ≤ ((x : Nat) : Int)) := (of_decide_eq_true hc2)
   exfalso; omega
  ·have hc2 : ¬ (65536 ≤ ((x : Nat) : Int)) := (of_decide_eq_false hc2)
   refine W_skip (Then_n (W_seq (W_seq (W_reg ?_))))
   refine O_v rfl (R_move (v := (.int .u64 ((x : Nat) : Int))) rfl ?_)
   refine O_v rfl (R_cmp (a := ((x : Nat) : Int)) (b := 256) (r := (decide (256 ≤ ((x : Nat) : Int)))) rfl rfl rfl ?_)
   refine O_nil (Then_n ?_)
   refine W_cond (t := (decide (256 ≤ ((x : Nat) : Int)))) rfl (fun hc3 => ?_) (fun hc3 => ?_)
   ·have hc3 : (256 ≤ ((x : Nat) : Int)) := (of_decide_eq_true hc3)
    exfalso; omega
   ·have hc3 : ¬ (256 ≤ ((x : Nat) : Int)) := (of_decide_eq_false hc3)
    refine W_skip (Then_n (W_seq (W_reg ?_)))
    refine O_v rfl (R_move (v := (.int .i64 0)) rfl ?_)
    refine O_v rfl (R_move (v := (.int .u64 ((x : Nat) : Int))) rfl ?_)
    refine O_v rfl (R_conv_int (a := ((x : Nat) : Int)) (r := ((UInt8.ofNat x).toNat : Int)) Tryz.underlying126 Tryz.underlying5 rfl (conv_u8 _) ?_)
    refine O_v rfl (R_index_s (s := lenTab) (k := (UInt8.ofNat x).toNat) Tryz.underlying9 rfl rfl rfl (by have := u8_lt (UInt8.ofNat x); show _ < 256; omega) ?_)
    refine O_v rfl (R_conv_int (a := ((sbyte lenTab ((UInt8.ofNat x).toNat)).toNat : Int)) (r := ((sbyte lenTab ((UInt8.ofNat x).toNat)).toNat : Int)) Tryz.underlying5 Tryz.underlying3 rfl (w64 _ (by have h1 := u8_lt (sbyte lenTab (UInt8.ofNat x).toNat); omega)) ?_)
    refine O_v rfl (R_arith (a := 0) (b := ((sbyte lenTab ((UInt8.ofNat x).toNat)).toNat : Int)) (r0 := 0 + ((sbyte lenTab ((UInt8.ofNat x).toNat)).toNat : Int)) (r := 0 + ((sbyte lenTab ((UInt8.ofNat x).toNat)).toNat : Int)) rfl rfl rfl (w64 _ (by have h1 := u8_lt (sbyte lenTab (UInt8.ofNat x).toNat); omega)) ?_)
    refine O_v rfl (R_assign (v := (.int .i64 (0 + ((sbyte lenTab ((UInt8.ofNat x).toNat)).toNat : Int)))) rfl ?_)
    refine O_nil (Then_n (W_ret ?_))
    refine ret_1 (v := (.int .i64 (0 + ((sbyte lenTab ((UInt8.ofNat x).toNat)).toNat : Int)))) Tryz.results126 rfl ?_
    exact ⟨(len01 hx), H0.gr⟩

end Go.Proofs.YthjdhfoeckfmbaaGreat
namespace Go.Proofs.YthjdhfoeckfmbaaGreat
open Go
set_option maxRecDepth 100000
set_option linter.unusedVariables false
set_option linter.unusedSimpArgs false
set_option linter.unusedSectionVars false
variable [DD]
theorem bits_Len_c126 : callable Tryz.prog 126 = true := by kernel_rfl
set_option maxHeartbeats 1000000 in
theorem bits_Len (x : Nat) (w : World) (hx : x ≤ 1) :
    Calls Tryz.prog 93 #[(.int .u64 ((x : Nat) : Int))] w (Ret fun v w' => v = (.int .i64 ((x : Nat) : Int)) ∧ Ext w w') := by
 refine calls_W Tryz.func93 rfl Tryz.ntmps93 rfl ?_
 have H0 := Ctx.start w nob
 refine W_seq (W_reg ?_)
 refine O_v rfl (R_assign (v := (.int .i64 0)) rfl ?_)
 refine O_nil (Then_n (W_seq ?_))
 refine W_cond_f rfl ?_
 refine W_skip (Then_n (W_seq (W_reg ?_)))
 refine O_v rfl (R_move (v := (.int .u64 ((x : Nat) : Int))) rfl ?_)
 refine O_v rfl (R_callL (vs := [(.int .u64 ((x : Nat) : Int))]) bits_Len_c126 rfl rfl ((bits_Len64 x w (by omega)).ret ?_))
 rintro _ w1 ⟨rfl, hx2⟩
 have H3 := H0.ext hx2
 refine O_v rfl (R_assign (v := (.int .i64 ((x : Nat) : Int))) rfl ?_)
 refine O_nil (Then_n (W_ret ?_))
 refine ret_1 (v := (.int .i64 ((x : Nat) : Int))) Tryz.results93 rfl ?_
 exact ⟨rfl, H3.gr⟩

end Go.Proofs.YthjdhfoeckfmbaaGreat
namespace Go.Proofs.YthjdhfoeckfmbaaGreat
open Go
set_option maxRecDepth 100000
set_option linter.unusedVariables false
set_option linter.unusedSimpArgs false
set_option linter.unusedSectionVars false
variable [DD]
set_option maxHeartbeats 1000000 in
theorem insSort_ID (hs : SlH) (s : List ID) (a : Int) (b : Int) (kcmp : FuncId) (ccmp : Array Value) (w : World) (Os : OwnS 0 45 32 idCh hs s w) (Kcmp : callable Tryz.prog kcmp = true) (Ccmp : True) (ha : a = 0 ∧ b ≤ 1) :
    Calls Tryz.prog 117 #[(slV hs s), (.int .i64 a), (.int .i64 b), (.func (.func kcmp) #[] ccmp)] w (Ret fun v w' => v = .tuple #[] ∧ Gr (fun b => (slV hs s).ownBlock = some b) w w' ∧ OwnS 0 45 32 idCh hs (s) w') := by
 refine calls_W Tryz.func117 rfl Tryz.ntmps117 rfl ?_
 have H0 := Ctx.startRow Os
 have LSs := (OwnS.sl Os (fun _ => rfl)).len
 refine W_seq (W_reg ?_)
 refine O_v rfl (R_move (v := (.int .i64 a)) rfl ?_)
 refine O_v rfl (R_arith (a := a) (b := 1) (r0 := a + 1) (r := a + 1) rfl rfl rfl (w64 _ (by omega)) ?_)
 refine O_v rfl (R_assign (v := (.int .i64 (a + 1))) rfl ?_)
 refine O_nil (Then_n (W_block ?_))
 refine W_loop (fun m1 e2 w3 => ∃ (i : Int), m1 = 0 ∧ (1 ≤ i) ∧ ∃ eb4, e2 = envL [(0, (slV hs s)), (1, (.int .i64 a)), (2, (.int .i64 b)), (3, (.func (.func kcmp) #[] ccmp)), (8, (.int .i64 i))] eb4 ∧ Ctx w (fun b => (slV hs s).ownBlock = some b) w3 [rowR 45 32 idCh hs s] []) _ ⟨(a + 1), rfl, (by omega), _, envL_self ⟨rfl, rfl, rfl, rfl, rfl, trivial⟩, H0⟩ ?_
 rintro m1 _ w3 ⟨i, rfl, hi, eb4, rfl, H5⟩
 refine W_seq (W_seq (W_reg ?_))
 refine O_v rfl (R_move (v := (.int .i64 i)) rfl ?_)
 refine O_v rfl (R_move (v := (.int .i64 b)) rfl ?_)
 refine O_v rfl (R_cmp (a := i) (b := b) (r := (decide (i < b))) rfl rfl rfl ?_)
 refine O_nil (Then_n ?_)
 refine W_cond (t := (decide (i < b))) rfl (fun hc6 => ?_) (fun hc6 => ?_)
 ·have hc6 : (i < b) := (of_decide_eq_true hc6)
  refine W_skip (Then_n ?_)
  exfalso; omega
 ·have hc6 : ¬ (i < b) := (of_decide_eq_false hc6)
  refine W_exit (Then_x (Then_x (Blk_x (ret_n ?_))))
  refine ret_0 Tryz.results117 ⟨rfl, H5.gr, ?_⟩
  exact H5.getOwn 0 rfl

end Go.Proofs.YthjdhfoeckfmbaaGreat
namespace Go.Proofs.YthjdhfoeckfmbaaGreat
open Go
set_option maxRecDepth 100000
set_option linter.unusedVariables false
set_option linter.unusedSimpArgs false
set_option linter.unusedSectionVars false
variable [DD]
theorem pdq_ID_c117 : callable Tryz.prog 117 = true := by kernel_rfl
set_option maxHeartbeats 1000000 in
theorem pdq_ID (hs : SlH) (s : List ID) (a : Int) (b : Int) (limit : Int) (kcmp : FuncId) (ccmp : Array Value) (w : World) (Os : OwnS 0 45 32 idCh hs s w) (Kcmp : callable Tryz.prog kcmp = true) (Ccmp : True) (ha : a = 0 ∧ 0 ≤ b ∧ b ≤ 1) :
    Calls Tryz.prog 92 #[(slV hs s), (.int .i64 a), (.int .i64 b), (.int .i64 limit), (.func (.func kcmp) #[] ccmp)] w (Ret fun v w' => v = .tuple #[] ∧ Gr (fun b => (slV hs s).ownBlock = some b) w w' ∧ OwnS 0 45 32 idCh hs (s) w') := by
 refine calls_W Tryz.func92 rfl Tryz.ntmps92 rfl ?_
 have H0 := Ctx.startRow Os
 have LSs := (OwnS.sl Os (fun _ => rfl)).len
 refine W_seq (W_reg ?_)
 refine O_v rfl (R_assign (v := (.bool true)) rfl ?_)
 refine O_nil (Then_n (W_seq (W_reg ?_)))
 refine O_v rfl (R_assign (v := (.bool true)) rfl ?_)
 refine O_nil (Then_n (W_block ?_))
 refine W_loop (fun m1 e2 w3 => m1 = 0 ∧ ∃ eb4, e2 = envL [(0, (slV hs s)), (1, (.int .i64 a)), (2, (.int .i64 b)), (3, (.int .i64 limit)), (4, (.func (.func kcmp) #[] ccmp)), (10, (.bool true)), (11, (.bool true))] eb4 ∧ Ctx w (fun b => (slV hs s).ownBlock = some b) w3 [rowR 45 32 idCh hs s] []) _ ⟨rfl, _, envL_self ⟨rfl, rfl, rfl, rfl, rfl, rfl, rfl, trivial⟩, H0⟩ ?_
 rintro m1 _ w3 ⟨rfl, eb4, rfl, H5⟩
 refine W_block (W_seq (W_reg ?_))
 refine O_v rfl (R_move (v := (.int .i64 b)) rfl ?_)
 refine O_v rfl (R_move (v := (.int .i64 a)) rfl ?_)
 refine O_v rfl (R_arith (a := b) (b := a) (r0 := b - a) (r := b - a) rfl rfl rfl (w64 _ (by omega)) ?_)
 refine O_v rfl (R_assign (v := (.int .i64 (b - a))) rfl ?_)
 refine O_nil (Then_n (W_seq (W_seq (W_reg ?_))))
 refine O_v rfl (R_move (v := (.int .i64 (b - a))) rfl ?_)
 refine O_v rfl (R_cmp (a := (b - a)) (b := 12) (r := (decide ((b - a) ≤ 12))) rfl rfl rfl ?_)
 refine O_nil (Then_n ?_)
 refine W_cond (t := (decide ((b - a) ≤ 12))) rfl (fun hc6 => ?_) (fun hc6 => ?_)
 ·have hc6 : ((b - a) ≤ 12) := (of_decide_eq_true hc6)
  refine W_seq (W_reg ?_)
  refine O_v rfl (R_move (v := (slV hs s)) rfl ?_)
  refine O_v rfl (R_move (v := (.int .i64 a)) rfl ?_)
  refine O_v rfl (R_move (v := (.int .i64 b)) rfl ?_)
  refine O_v rfl (R_move (v := (.func (.func kcmp) #[] ccmp)) rfl ?_)
  refine O_v rfl (R_callL (vs := [(slV hs s), (.int .i64 a), (.int .i64 b), (.func (.func kcmp) #[] ccmp)]) pdq_ID_c117 rfl rfl ((insSort_ID hs s a b kcmp ccmp w3 (H5.getOwn 0 rfl) Kcmp trivial (by omega)).ret ?_))
  rintro _ w7 ⟨rfl, hg8, ho9⟩
  have H10 := H5.updRow 0 rfl hg8 ho9
  refine O_nil (Then_n (W_ret (Then_r (Blk_r (Then_r (Blk_r ?_))))))
  refine ret_0 Tryz.results92 ⟨rfl, H10.gr, ?_⟩
  exact H10.getOwn 0 rfl
 ·have hc6 : ¬ ((b - a) ≤ 12) := (of_decide_eq_false hc6)
  refine W_skip (Then_n ?_)
  exfalso; omega

end Go.Proofs.YthjdhfoeckfmbaaGreat
namespace Go.Proofs.YthjdhfoeckfmbaaGreat
open Go
set_option maxRecDepth 100000
set_option linter.unusedVariables false
set_option linter.unusedSimpArgs false
set_option linter.unusedSectionVars false
variable [DD]
theorem SortFunc_ID_c92 : callable Tryz.prog 92 = true := by kernel_rfl
theorem SortFunc_ID_c93 : callable Tryz.prog 93 = true := by kernel_rfl
set_option maxHeartbeats 1000000 in
theorem SortFunc_ID (hs : SlH) (s : List ID) (kcmp : FuncId) (ccmp : Array Value) (w : World) (Os : OwnS 0 45 32 idCh hs s w) (Kcmp : callable Tryz.prog kcmp = true) (Ccmp : True) (hl : s.length ≤ 1) :
    Calls Tryz.prog 54 #[(slV hs s), (.func (.func kcmp) #[] ccmp)] w (Ret fun v w' => v = .tuple #[] ∧ Gr (fun b => (slV hs s).ownBlock = some b) w w' ∧ OwnS 0 45 32 idCh hs (s) w') := by
 refine calls_W Tryz.func54 rfl Tryz.ntmps54 rfl ?_
 have H0 := Ctx.startRow Os
 have LSs := (OwnS.sl Os (fun _ => rfl)).len
 refine W_seq (W_reg ?_)
 refine O_v rfl (R_move (v := (slV hs s)) rfl ?_)
 refine O_v rfl (R_len_slice (a := hs.a) (n := s.length) (c := hs.c) Tryz.underlying39 rfl ?_)
 refine O_v rfl (R_assign (v := (.int .i64 ((s.length : Nat) : Int))) rfl ?_)
 refine O_nil (Then_n (W_reg ?_))
 refine O_v rfl (R_move (v := (slV hs s)) rfl ?_)
 refine O_v rfl (R_move (v := (.int .i64 ((s.length : Nat) : Int))) rfl ?_)
 refine O_v rfl (R_move (v := (.int .i64 ((s.length : Nat) : Int))) rfl ?_)
 refine O_v rfl (R_conv_int (a := ((s.length : Nat) : Int)) (r := ((s.length : Nat) : Int)) Tryz.underlying3 Tryz.underlying127 rfl (u64_in _ (by omega)) ?_)
 refine O_v rfl (R_callL (vs := [(.int .u64 ((s.length : Nat) : Int))]) SortFunc_ID_c93 rfl rfl ((bits_Len s.length w (by omega)).ret ?_))
 rintro _ w1 ⟨rfl, hx2⟩
 have H3 := H0.ext hx2
 refine O_v rfl (R_move (v := (.func (.func kcmp) #[] ccmp)) rfl ?_)
 refine O_v rfl (R_callL (vs := [(slV hs s), (.int .i64 0), (.int .i64 ((s.length : Nat) : Int)), (.int .i64 ((s.length : Nat) : Int)), (.func (.func kcmp) #[] ccmp)]) SortFunc_ID_c92 rfl rfl ((pdq_ID hs s 0 ((s.length : Nat) : Int) ((s.length : Nat) : Int) kcmp ccmp w1 (H3.getOwn 0 rfl) Kcmp trivial (by omega)).ret ?_))
 rintro _ w4 ⟨rfl, hg5, ho6⟩
 have H7 := H3.updRow 0 rfl hg5 ho6
 refine O_nil (ret_n ?_)
 refine ret_0 Tryz.results54 ⟨rfl, H7.gr, ?_⟩
 exact H7.getOwn 0 rfl

end Go.Proofs.YthjdhfoeckfmbaaGreat
namespace Go.Proofs.YthjdhfoeckfmbaaGreat
open Go
set_option maxRecDepth 100000
set_option linter.unusedVariables false
set_option linter.unusedSimpArgs false
set_option linter.unusedSectionVars false
theorem obj_Links_c14 : callable Tryz.prog 14 = true := by kernel_rfl
theorem obj_Links_c17 : callable Tryz.prog 17 = true := by kernel_rfl
theorem obj_Links_c25 : callable Tryz.prog 25 = true := by kernel_rfl
theorem obj_Links_c30 : callable Tryz.prog 30 = true := by kernel_rfl
theorem obj_Links_c53 : callable Tryz.prog 53 = true := by kernel_rfl
theorem obj_Links_c54 : callable Tryz.prog 54 = true := by kernel_rfl
theorem obj_Links_c55 : callable Tryz.prog 55 = true := by kernel_rfl
theorem obj_Links_c56 : callable Tryz.prog 56 = true := by kernel_rfl
set_option maxHeartbeats 4000000 in
theorem obj_Links (hb : SlH) (b : List UInt8) (w : World) (Sb : Sl (Old w) encB 1 hb b w) (hl : b.length ≤ 140737488355328) (hl1 : (linksRaw b).length ≤ 1) :
    Calls Tryz.prog 21 #[(slV hb b)] w (Ret fun v w' => ∃ (hN : SlH) (SN : Nat → Prop), v = slV hN (links1 b) ∧ Ext w w' ∧ (∀ b, SN b → w.heap.size ≤ b ∧ b < w'.heap.size) ∧ Sl SN idCh 32 hN (links1 b) w') := by
 refine calls_W Tryz.func21 rfl Tryz.ntmps21 rfl ?_
 have H0 := Ctx.start w nob
 have H1 := H0.addSl _ Sb (fun b hb => ⟨hb, fun _ ho => (nomatch ho)⟩)
 have LSb := Sb.len
 refine W_seq (W_reg ?_)
 refine O_v rfl (R_assign (v := (.slice none 0 0)) rfl ?_)
 refine O_nil (Then_n (W_seq (W_reg ?_)))
 refine O_v rfl (R_assign (v := (.slice none 0 0)) rfl ?_)
 refine O_nil (Then_n (W_seq (W_seq (W_reg ?_))))
 refine O_v rfl (R_move (v := (slV hb b)) rfl ?_)
 refine O_v rfl (R_callL (vs := [(slV hb b)]) obj_Links_c14 rfl rfl ((obj_Kind hb b w (H1.slOld 0 rfl) (by omega)).ret ?_))
 rintro _ w2 ⟨rfl, hx3⟩
 have H4 := H1.ext hx3
 refine O_nil (Then_n (W_block (W_seq (W_reg ?_))))
 refine O_v rfl (R_cmp (a := kindOf b) (b := 2) (r := (decide (kindOf b = 2))) rfl rfl rfl ?_)
 refine O_v rfl (R_assign (v := (.bool (decide (kindOf b = 2)))) rfl ?_)
 refine O_nil (Then_n ?_)
 refine W_cond (t := (decide (kindOf b = 2))) rfl (fun hc5 => ?_) (fun hc5 => ?_)
 ·have hc5 : (kindOf b = 2) := (of_decide_eq_true hc5)
  have hK := hc5
  refine W_seq (W_reg ?_)
  refine O_v rfl (R_move (v := (slV hb b)) rfl ?_)
  refine O_v rfl (R_callL (vs := [(slV hb b)]) obj_Links_c17 rfl rfl ((obj_Dir hb b w2 (H4.slOld 0 rfl) (by omega)).ret ?_))
  rintro _ w9 ⟨h6, l7, S8, e16, rfl, hx10, ho11, hS12, hd13, hr14⟩
  have H15 := H4.addRowDeep (h := fun x : ItemS => x.hh) (f := fun x : ItemS => x.heads) hx10 ho11 hS12 hd13
  refine O_v rfl (R_move (v := (.tuple #[(slV h6 l7), (.int .i64 e16)])) rfl ?_)
  refine O_v rfl (R_extract (v := (slV h6 l7)) rfl rfl ?_)
  refine O_v rfl (R_extract (v := (.int .i64 e16)) rfl rfl ?_)
  refine O_v rfl (R_assign (v := (slV h6 l7)) rfl ?_)
  refine O_v rfl (R_assign (v := (.int .i64 e16)) rfl ?_)
  refine O_nil (Then_n (W_seq (W_reg ?_)))
  refine O_v rfl (R_move (v := (slV h6 l7)) rfl ?_)
  refine O_v rfl (R_len_slice (a := h6.a) (n := l7.length) (c := h6.c) Tryz.underlying31 rfl ?_)
  refine O_v rfl (R_move (v := (.int .i64 0)) rfl ?_)
  refine O_nil (Then_n (W_block ?_))
  have H17 := H15.addNil 45 32 idCh
  refine W_loop (fun m19 e20 w21 => ∃ (k : Nat), ∃ (acc : List ID), ∃ (h18 : SlH), m19 = l7.length - k ∧ (k ≤ l7.length) ∧ (acc = rawTo (l7.map ItemS.core) k) ∧ ∃ eb22, e20 = envL [(2, (.slice none 0 0)), (3, (slV h18 acc)), (25, (slV h6 l7)), (26, (.int .i64 ((l7.length : Nat) : Int))), (27, (.int .i64 ((k : Nat) : Int)))] eb22 ∧ Ctx w nob w21 [rowR 45 32 idCh h18 acc, rowR 77 38 itemCh h6 l7] [deepI S8 headCh 34 (fun x : ItemS => x.hh) (fun x : ItemS => x.heads) l7, slI (Old w) encB 1 hb b]) _ ⟨0, [], nilH, rfl, (by omega), rfl, _, envL_self ⟨rfl, rfl, rfl, rfl, rfl, trivial⟩, H17⟩ ?_
  rintro m19 _ w21 ⟨k, acc, h18, rfl, hk, ha, eb22, rfl, H23⟩
  refine W_seq (W_reg ?_)
  refine O_v rfl (R_cmp (a := ((k : Nat) : Int)) (b := ((l7.length : Nat) : Int)) (r := (decide (((k : Nat) : Int) < ((l7.length : Nat) : Int)))) rfl rfl rfl ?_)
  refine O_nil (Then_n (W_seq ?_))
  refine W_cond (t := (decide (((k : Nat) : Int) < ((l7.length : Nat) : Int)))) rfl (fun hc24 => ?_) (fun hc24 => ?_)
  ·have hc24 : (((k : Nat) : Int) < ((l7.length : Nat) : Int)) := (of_decide_eq_true hc24)
   refine W_skip (Then_n (W_seq (W_block (W_seq (W_reg ?_)))))
   refine O_v rfl (R_index_pure (OwnS.sl (H23.getOwn 1 rfl) (fun _ => rfl)) (n := l7.length) rfl (j := ((k : Nat) : Int)) (oo := (h6.o + k * 38)) Tryz.underlying31 Tryz.sizeOf77 rfl rfl (by omega) (by omega) rfl ?_)
   refine O_v rfl (R_loadA (cs := [[(.int .i64 (((nth l7 k).node).T))], [(.int .i64 (((nth l7 k).node).R))], [(.int .i64 (((nth l7 k).tm).T))], [(.int .i64 (((nth l7 k).tm).R))], [(.string ((nth l7 k).name))], (idCells ((nth l7 k).sub)), [(slV ((nth l7 k).hh) ((nth l7 k).heads))]]) Tryz.isAgg77 Tryz.sizeOf77 rfl rfl ((Sl.elem (OwnS.sl (H23.getOwn 1 rfl) (fun _ => rfl)) (i := k) (by omega) rfl).chunks 0 7 0 (h6.o + k * 38) _ rfl rfl rfl) ?_)
   refine O_v rfl (C_alloc H23 [[(.int .i64 0)], [(.int .i64 0)], [(.int .i64 0)], [(.int .i64 0)], [(.string ByteArray.empty)], (idCells zeroId), [(.slice none 0 0)]] Tryz.zeroValue77 ?_)
   intro b25 w26 hb27 hx28 H29
   refine O_u (C_storeA H29 0 rfl 0 (sub := [[(.int .i64 (((nth l7 k).node).T))], [(.int .i64 (((nth l7 k).node).R))], [(.int .i64 (((nth l7 k).tm).T))], [(.int .i64 (((nth l7 k).tm).R))], [(.string ((nth l7 k).name))], (idCells ((nth l7 k).sub)), [(slV ((nth l7 k).hh) ((nth l7 k).heads))]]) [[(.int .i64 (((nth l7 k).node).T))], [(.int .i64 (((nth l7 k).node).R))], [(.int .i64 (((nth l7 k).tm).T))], [(.int .i64 (((nth l7 k).tm).R))], [(.string ((nth l7 k).name))], (idCells ((nth l7 k).sub)), [(slV ((nth l7 k).hh) ((nth l7 k).heads))]] Tryz.sizeOf77 rfl rfl rfl rfl ⟨[[(.int .i64 0)], [(.int .i64 0)], [(.int .i64 0)], [(.int .i64 0)], [(.string ByteArray.empty)], (idCells zeroId), [(.slice none 0 0)]], [], rfl, rfl, rfl⟩ rfl ?_)
   intro w30 hg31 H32
   refine O_nil (Then_n (W_seq (W_reg ?_)))
   refine O_v rfl (R_move (v := (slV h18 acc)) rfl ?_)
   refine O_v rfl (R_fieldAddr (off := 5) (oo := 5) Tryz.underlying77 rfl rfl Tryz.sizeOf45 rfl rfl ?_)
   refine O_v rfl (R_loadA (cs := [(idCells ((nth l7 k).sub))]) Tryz.isAgg45 Tryz.sizeOf45 rfl rfl ((boxR_at (H32.getOwn 0 rfl)).chunks 5 1 5 5 _ rfl rfl rfl) ?_)
   refine O_v rfl (C_buildSliceL H32 (enc := idCh) (val := idV) ([(nth l7 k).sub] : List ID) Tryz.underlying39 Tryz.sizeOf45 Tryz.zeroValue45 rfl (by decide) (fun _ => rfl) (fun _ => rfl) rfl rfl (by decide) ?_)
   intro b33 w34 hb35 hx36 H37
   refine O_v rfl (C_append H37 2 rfl (bytes := 32) (l := acc) (ys := ([(nth l7 k).sub] : List ID)) Tryz.underlying39 rfl rfl rfl rfl rfl (by decide) rfl rfl (OwnS.sl (H37.getOwn 0 rfl) (fun _ => rfl)) (fun _ => rfl) (fun _ => rfl) (by rw [(links_in hK hr14 ha (by omega) hl1).1]; simp) (by decide) ?_)
   intro h38 w39 hg40 H41
   refine O_v rfl (R_assign (v := (slV h38 (acc ++ ([(nth l7 k).sub] : List ID)))) rfl ?_)
   refine O_nil (Then_n (W_seq (W_reg ?_)))
   refine O_v rfl (R_fieldAddr (off := 37) (oo := 37) Tryz.underlying77 rfl rfl Tryz.sizeOf75 rfl rfl ?_)
   refine O_v rfl (R_load1 (v := (slV ((nth l7 k).hh) ((nth l7 k).heads))) Tryz.isAgg75 rfl ((boxR_at (H41.getOwn 1 rfl)).chunks 6 1 37 37 _ rfl rfl rfl) ?_)
   refine O_v rfl (R_len_slice (a := ((nth l7 k).hh).a) (n := ((nth l7 k).heads).length) (c := ((nth l7 k).hh).c) Tryz.underlying75 rfl ?_)
   refine O_v rfl (R_move (v := (.int .i64 0)) rfl ?_)
   refine O_nil (Then_n (W_block ?_))
   refine W_loop (fun m43 e44 w45 => ∃ (j : Nat), ∃ (acc2 : List ID), ∃ (h42 : SlH), m43 = 0 ∧ ((nth l7 k).heads = []) ∧ (acc2 = acc ++ [(nth l7 k).sub]) ∧ ∃ eb46, e44 = envL [(2, (.slice none 0 0)), (3, (slV h42 acc2)), (7, (.pointer (some ⟨b25, 0, none⟩))), (25, (slV h6 l7)), (26, (.int .i64 ((l7.length : Nat) : Int))), (27, (.int .i64 ((k : Nat) : Int))), (28, (.bool (decide (((k : Nat) : Int) < ((l7.length : Nat) : Int))))), (29, (.pointer (some ⟨h6.b, (h6.o + k * 38), none⟩))), (30, (aggOf (itemCh (nth l7 k)))), (31, (slV h18 acc)), (32, (.pointer (some ⟨b25, 5, none⟩))), (33, (aggOf (idCh ((nth l7 k).sub)))), (34, (slV ⟨some ⟨b33, 0, none⟩, b33, 0, 1⟩ ([(nth l7 k).sub] : List ID))), (35, (slV h38 (acc ++ ([(nth l7 k).sub] : List ID)))), (36, (.pointer (some ⟨b25, 37, none⟩))), (37, (slV ((nth l7 k).hh) ((nth l7 k).heads))), (38, (.int .i64 ((((nth l7 k).heads).length : Nat) : Int))), (39, (.int .i64 ((j : Nat) : Int)))] eb46 ∧ Ctx w nob w45 [rowR 45 32 idCh ⟨some ⟨b33, 0, none⟩, b33, 0, 1⟩ ([(nth l7 k).sub] : List ID), boxR b25 77 [[(.int .i64 (((nth l7 k).node).T))], [(.int .i64 (((nth l7 k).node).R))], [(.int .i64 (((nth l7 k).tm).T))], [(.int .i64 (((nth l7 k).tm).R))], [(.string ((nth l7 k).name))], (idCells ((nth l7 k).sub)), [(slV ((nth l7 k).hh) ((nth l7 k).heads))]], rowR 45 32 idCh h42 acc2, rowR 77 38 itemCh h6 l7] [deepI S8 headCh 34 (fun x : ItemS => x.hh) (fun x : ItemS => x.heads) l7, slI (Old w) encB 1 hb b]) _ ⟨0, (acc ++ ([(nth l7 k).sub] : List ID)), h38, rfl, (links_in hK hr14 ha (by omega) hl1).2, rfl, _, envL_self ⟨rfl, rfl, rfl, rfl, rfl, rfl, rfl, rfl, rfl, rfl, rfl, rfl, rfl, rfl, rfl, rfl, rfl, rfl, trivial⟩, H41⟩ ?_
   rintro m43 _ w45 ⟨j, acc2, h42, rfl, hh, ha2, eb46, rfl, H47⟩
   refine W_seq (W_reg ?_)
   refine O_v rfl (R_cmp (a := ((j : Nat) : Int)) (b := ((((nth l7 k).heads).length : Nat) : Int)) (r := (decide (((j : Nat) : Int) < ((((nth l7 k).heads).length : Nat) : Int)))) rfl rfl rfl ?_)
   refine O_nil (Then_n (W_seq ?_))
   refine W_cond (t := (decide (((j : Nat) : Int) < ((((nth l7 k).heads).length : Nat) : Int)))) rfl (fun hc48 => ?_) (fun hc48 => ?_)
   ·have hc48 : (((j : Nat) : Int) < ((((nth l7 k).heads).length : Nat) : Int)) := (of_decide_eq_true hc48)
    refine W_skip (Then_n ?_)
    exfalso; have hz := congrArg List.length hh; simp only [List.length_nil] at hz; omega
   ·have hc48 : ¬ (((j : Nat) : Int) < ((((nth l7 k).heads).length : Nat) : Int)) := (of_decide_eq_false hc48)
    refine W_exit (Then_x (Then_x (Blk_x (Blk_n (Then_n (W_reg ?_))))))
    refine O_v rfl (R_arith (a := ((k : Nat) : Int)) (b := 1) (r0 := ((k : Nat) : Int) + 1) (r := ((k + 1 : Nat) : Int)) rfl rfl rfl (wrapN _ (by have := links_len hK hr14 hl1; omega)) ?_)
    refine O_v rfl (R_move (v := (.int .i64 ((k + 1 : Nat) : Int))) rfl ?_)
    refine O_nil (Then_n ?_)
    have H49 := H47.sub (B' := [rowR 45 32 idCh h42 acc2, rowR 77 38 itemCh h6 l7]) (I' := [deepI S8 headCh 34 (fun x : ItemS => x.hh) (fun x : ItemS => x.heads) l7, slI (Old w) encB 1 hb b]) (List.Sublist.cons _ (List.Sublist.cons _ (List.Sublist.cons_cons _ (List.Sublist.cons_cons _ List.Sublist.slnil)))) (List.forall_mem_cons.2 ⟨List.mem_of_getElem? (i := 0) rfl, List.forall_mem_cons.2 ⟨List.mem_of_getElem? (i := 1) rfl, fun _ h => (nomatch h)⟩⟩)
    refine ⟨_, ?_, (k + 1), acc2, h42, rfl, (by omega), (by rw [ha2]; exact links_step ha (by omega) hh), _, envL_self ⟨rfl, rfl, rfl, rfl, rfl, trivial⟩, H49⟩
    omega
  ·have hc24 : ¬ (((k : Nat) : Int) < ((l7.length : Nat) : Int)) := (of_decide_eq_false hc24)
   refine W_exit (Then_x (Then_x (Blk_x (Blk_n (Then_n (W_seq (W_reg ?_)))))))
   refine O_v rfl (R_move (v := (slV h18 acc)) rfl ?_)
   refine O_v rfl (R_callL (vs := [(slV h18 acc), (.func (.func 55) #[] #[])]) obj_Links_c54 rfl rfl ((SortFunc_ID h18 acc 55 #[] w21 (H23.getOwn 0 rfl) obj_Links_c55 trivial (lenraw (links_dirE hK hr14 ha (by omega)) hl1)).ret ?_))
   rintro _ w50 ⟨rfl, hg51, ho52⟩
   have H53 := H23.updRow 0 rfl hg51 ho52
   refine O_nil (Then_n (W_seq (W_reg ?_)))
   refine O_v rfl (R_move (v := (slV h18 acc)) rfl ?_)
   refine O_v rfl (R_callL (vs := [(slV h18 acc)]) obj_Links_c56 rfl rfl ((Compact_ID h18 acc w50 (H53.getOwn 0 rfl) (lenraw (links_dirE hK hr14 ha (by omega)) hl1)).ret ?_))
   rintro _ w54 ⟨rfl, hg55, ho56⟩
   have H57 := H53.updRow 0 rfl hg55 ho56
   refine O_v rfl (R_assign (v := (slV h18 acc)) rfl ?_)
   refine O_nil (Then_n (W_seq (W_seq ?_)))
   refine W_rg [(0, .q 0), (1, .q 0), (2, .q 0), (3, .q 0), (4, .q 0), (5, .q 0), (6, .q 0), (7, .q 0), (8, .q 0), (9, .q 0)] (by kernel_rfl) ?_
   refine Lx_q (i := 0) rfl rfl _ (fun v58 hv59 => R_move (v := (slV h18 acc)) rfl ⟨rfl, Gr.refl _ _⟩) ?_
   refine Lx_q (i := 1) rfl rfl _ (fun v60 hv61 => R_len_slice (a := h18.a) (n := acc.length) (c := h18.c) Tryz.underlying39 rfl ⟨rfl, Gr.refl _ _⟩) ?_
   refine Lx_q (i := 2) rfl rfl _ (fun v62 hv63 => R_cmp (a := ((acc.length : Nat) : Int)) (b := 0) (r := (decide (0 < ((acc.length : Nat) : Int)))) rfl rfl rfl ⟨rfl, Gr.refl _ _⟩) ?_
   refine Lx_q (i := 3) rfl rfl _ (fun v64 hv65 => R_move (v := (.bool (decide (0 < ((acc.length : Nat) : Int))))) rfl ⟨rfl, Gr.refl _ _⟩) ?_
   refine Lx_qg (i := 4) true (decide (0 < ((acc.length : Nat) : Int))) rfl rfl rfl rfl rfl (decide (0 < ((acc.length : Nat) : Int))) ga_t _ (fun hA v66 hv67 => R_move (v := (slV h18 acc)) rfl ⟨rfl, Gr.refl _ _⟩) ?_
   refine Lx_qg (i := 5) true (decide (0 < ((acc.length : Nat) : Int))) rfl rfl rfl rfl rfl (decide (0 < ((acc.length : Nat) : Int))) ga_t _ (fun hA v68 hv69 => by
          have hP : (0 < ((acc.length : Nat) : Int)) := (of_decide_eq_true hA)
          exact R_index_pure (OwnS.sl (H57.getOwn 0 rfl) (fun _ => rfl)) (n := acc.length) rfl (j := 0) (oo := (h18.o + 0 * 32)) Tryz.underlying39 Tryz.sizeOf45 (gv_t hA) rfl (by omega) (by omega) rfl ⟨rfl, Gr.refl _ _⟩) ?_
   refine Lx_qg (i := 6) true (decide (0 < ((acc.length : Nat) : Int))) rfl rfl rfl rfl rfl (decide (0 < ((acc.length : Nat) : Int))) ga_t _ (fun hA v70 hv71 => by
          have hP : (0 < ((acc.length : Nat) : Int)) := (of_decide_eq_true hA)
          exact R_loadA (cs := [(idCells (nth acc 0))]) Tryz.isAgg45 Tryz.sizeOf45 rfl (gv_t hA) ((Sl.elem (OwnS.sl ((H57.ext hv71).getOwn 0 rfl) (fun _ => rfl)) (i := 0) (by omega) rfl).chunks 0 1 0 (h18.o + 0 * 32) _ rfl rfl rfl) ⟨rfl, Gr.refl _ _⟩) ?_
   refine Lx_qg (i := 7) true (decide (0 < ((acc.length : Nat) : Int))) rfl rfl rfl rfl rfl (decide (0 < ((acc.length : Nat) : Int))) ga_t _ (fun hA v72 hv73 => R_buildL (vs := []) (v := aggOf [(idCells zeroId)]) rfl (fun _ => by kernel_rfl) ⟨rfl, Gr.refl _ _⟩) ?_
   refine Lx_qg (i := 8) true (decide (0 < ((acc.length : Nat) : Int))) rfl rfl rfl rfl rfl (decide (0 < ((acc.length : Nat) : Int))) ga_t _ (fun hA v74 hv75 => R_eqv (a := (nth acc 0)) (b := zeroId) eqv_ID45 rfl Tryz.eqGuardType45 (gv_t hA) (gv_t hA) ⟨rfl, Gr.refl _ _⟩) ?_
   refine Lx_q (i := 9) rfl rfl _ (fun v76 hv77 => R_pick (t := (decide (0 < ((acc.length : Nat) : Int)))) (v := (.bool ((decide (0 < ((acc.length : Nat) : Int))) && (decide ((nth acc 0) = zeroId))))) rfl pk_and ⟨rfl, Gr.refl _ _⟩) ?_
   refine Lx_nil (fun w78 hw79 => ?_)
   have H80 := H57.ext hw79
   refine Then_n ?_
   refine W_cond (t := ((decide (0 < ((acc.length : Nat) : Int))) && (decide ((nth acc 0) = zeroId)))) rfl (fun hc81 => ?_) (fun hc81 => ?_)
   ·have hc81 : ((0 < ((acc.length : Nat) : Int)) ∧ ((nth acc 0) = zeroId)) := (And.imp (fun h => (of_decide_eq_true h)) (fun h => (of_decide_eq_true h)) (andT hc81))
    refine W_reg ?_
    refine O_v rfl (R_move (v := (slV h18 acc)) rfl ?_)
    refine O_v rfl (R_sliceS (h := h18) (l := acc) (a := 1) (b := acc.length) (m := h18.c) (acc.drop 1) Tryz.underlying39 Tryz.sizeOf45 rfl rfl rfl rfl (by decide) (by omega) (by first | omega | exact Nat.le_refl _) (by have := Sl.cap (OwnS.sl (H80.getOwn 0 rfl) (fun _ => rfl)); omega) (by first | omega | exact Nat.le_refl _ | (have := Sl.cap (OwnS.sl (H80.getOwn 0 rfl) (fun _ => rfl)); omega)) (by rw [List.take_length])  ?_)
    refine O_v rfl (R_assign (v := (slV (hSub h18 32 1 h18.c) (acc.drop 1))) rfl ?_)
    refine O_nil (Then_n (W_seq (W_reg ?_)))
    refine O_v rfl (R_move (v := (slV (hSub h18 32 1 h18.c) (acc.drop 1))) rfl ?_)
    refine O_v rfl (R_assign (v := (slV (hSub h18 32 1 h18.c) (acc.drop 1))) rfl ?_)
    refine O_nil (Then_n (W_ret ?_))
    refine ret_1 (v := (slV (hSub h18 32 1 h18.c) (acc.drop 1))) Tryz.results21 rfl ?_
    have hn82 := H80.newRow 0 rfl
    have H83 := H80.freeze 0 rfl (fun _ => rfl)
    have hE : acc.drop 1 = links1 b := (links_z (links_dirE hK hr14 ha (by omega)) hl1 hc81)
    exact hE ▸ ⟨hSub h18 32 1 h18.c, (fun z_ => (slV h18 acc).ownBlock = some z_), rfl, H83.gr, fun b hb => ⟨(hn82 b) hb, ((H83.imm _ (List.mem_of_getElem? (i := 0) rfl)).2 b) hb⟩, (Sl.sub (H83.sl 0 rfl) 1 acc.length h18.c (by omega) (by first | omega | exact Nat.le_refl _) (by have := Sl.cap (OwnS.sl (H80.getOwn 0 rfl) (fun _ => rfl)); omega) (by first | omega | exact Nat.le_refl _ | (have := Sl.cap (OwnS.sl (H80.getOwn 0 rfl) (fun _ => rfl)); omega)) (by rw [List.take_length]))⟩
   ·have hc81 : (¬ (0 < ((acc.length : Nat) : Int)) ∨ ¬ ((nth acc 0) = zeroId)) := (Or.imp (fun h => (of_decide_eq_false h)) (fun h => (of_decide_eq_false h)) (andF hc81))
    refine W_skip (Then_n (W_seq (W_reg ?_)))
    refine O_v rfl (R_move (v := (slV h18 acc)) rfl ?_)
    refine O_v rfl (R_assign (v := (slV h18 acc)) rfl ?_)
    refine O_nil (Then_n (W_ret ?_))
    refine ret_1 (v := (slV h18 acc)) Tryz.results21 rfl ?_
    have hn84 := H80.newRow 0 rfl
    have H85 := H80.freeze 0 rfl (fun _ => rfl)
    have hE : acc = links1 b := (links_n (links_dirE hK hr14 ha (by omega)) hl1 hc81)
    exact hE ▸ ⟨h18, (fun z_ => (slV h18 acc).ownBlock = some z_), rfl, H85.gr, fun b hb => ⟨(hn84 b) hb, ((H85.imm _ (List.mem_of_getElem? (i := 0) rfl)).2 b) hb⟩, (H85.sl 0 rfl)⟩
 ·have hc5 : ¬ (kindOf b = 2) := (of_decide_eq_false hc5)
  have h2 := hc5
  refine W_seq (W_reg ?_)
  refine O_v rfl (R_cmp (a := kindOf b) (b := 3) (r := (decide (kindOf b = 3))) rfl rfl rfl ?_)
  refine O_v rfl (R_assign (v := (.bool (decide (kindOf b = 3)))) rfl ?_)
  refine O_nil (Then_n ?_)
  refine W_cond (t := (decide (kindOf b = 3))) rfl (fun hc86 => ?_) (fun hc86 => ?_)
  ·have hc86 : (kindOf b = 3) := (of_decide_eq_true hc86)
   have hK := hc86
   refine W_seq (W_reg ?_)
   refine O_v rfl (R_move (v := (slV hb b)) rfl ?_)
   refine O_v rfl (R_callL (vs := [(slV hb b)]) obj_Links_c25 rfl rfl ((obj_Change hb b w2 (H4.slOld 0 rfl) (by omega)).ret ?_))
   rintro _ w90 ⟨x87, S88, e89, rfl, hx91, hS92, hs93, hs94, hs95, hr96⟩
   have H98 := H4.addImm hx91 (slI S88 idCh 32 x87.ph x87.parents) hs93 hS92
   have H99 := H98.immOf 0 rfl (slI S88 opCh 41 x87.oh x87.ops) (fun _ h => h) (fun _ => hs94)
   have H100 := H99.immOf 0 rfl (deepI S88 stampCh 2 (fun x : OpS => x.oh) (fun x : OpS => x.over) x87.ops) (fun _ h => h) (fun _ => hs95)
   refine O_v rfl (R_move (v := (.tuple #[(aggOf (changeCh x87)), (.int .i64 e89)])) rfl ?_)
   refine O_v rfl (R_extract (v := (aggOf (changeCh x87))) rfl rfl ?_)
   refine O_v rfl (R_extract (v := (.int .i64 e89)) rfl rfl ?_)
   refine O_v rfl (C_alloc H100 [[(.slice none 0 0)], [(.int .i64 0)], [(.int .i64 0)], [(.slice none 0 0)], (idCells zeroId), [(.string ByteArray.empty)]] Tryz.zeroValue47 ?_)
   intro b101 w102 hb103 hx104 H105
   refine O_u (C_storeA H105 0 rfl 0 (sub := [[(slV x87.ph x87.parents)], [(.int .i64 x87.time)], [(.int .i64 x87.r)], [(slV x87.oh x87.ops)], (idCells x87.tree), [(.string x87.msg)]]) [[(slV x87.ph x87.parents)], [(.int .i64 x87.time)], [(.int .i64 x87.r)], [(slV x87.oh x87.ops)], (idCells x87.tree), [(.string x87.msg)]] Tryz.sizeOf47 rfl rfl rfl rfl ⟨[[(.slice none 0 0)], [(.int .i64 0)], [(.int .i64 0)], [(.slice none 0 0)], (idCells zeroId), [(.string ByteArray.empty)]], [], rfl, rfl, rfl⟩ rfl ?_)
   intro w106 hg107 H108
   refine O_v rfl (R_assign (v := (.int .i64 e89)) rfl ?_)
   refine O_nil (Then_n (W_seq ?_))
   refine W_forkd TryzMixed nob (fun i => if i == 6 then 2 else 0) [(0, .q 2), (1, .q 0), (3, .q 2), (4, .q 0)] [(2, .c 0), (5, .c 0), (6, .c 2), (7, .q 2)] [(5, .c 0), (2, .c 0), (6, .c 2), (7, .q 2)] (by kernel_rfl) ?_
   refine Lx_q (i := 0) rfl rfl _ (fun v109 hv110 => R_fieldAddr (off := 0) (oo := 0) Tryz.underlying47 rfl rfl Tryz.sizeOf39 rfl rfl ⟨rfl, Gr.refl _ _⟩) ?_
   refine Lx_q (i := 1) rfl rfl _ (fun v111 hv112 => R_load1 (v := (slV x87.ph x87.parents)) Tryz.isAgg39 rfl ((boxR_at ((H108.ext hv112).getOwn 0 rfl)).chunks 0 1 0 0 _ rfl rfl rfl) ⟨rfl, Gr.refl _ _⟩) ?_
   refine Lx_q (i := 3) rfl rfl _ (fun v113 hv114 => R_fieldAddr (off := 4) (oo := 4) Tryz.underlying47 rfl rfl Tryz.sizeOf45 rfl rfl ⟨rfl, Gr.refl _ _⟩) ?_
   refine Lx_q (i := 4) rfl rfl _ (fun v115 hv116 => R_loadA (cs := [(idCells x87.tree)]) Tryz.isAgg45 Tryz.sizeOf45 rfl rfl ((boxR_at ((H108.ext hv116).getOwn 0 rfl)).chunks 4 1 4 4 _ rfl rfl rfl) ⟨rfl, Gr.refl _ _⟩) ?_
   refine Lx_nil (fun w117 hw118 => ⟨?_, ?_⟩)
   ·have H119 := H108.ext hw118
    refine Lx_c (i := 2) rfl rfl (fun w120 hw121 => ?_)
    have H122 := H119.ext hw121
    refine (R_callL (vs := [(slV x87.ph x87.parents)]) obj_Links_c53 rfl rfl ((Clone_ID x87.ph x87.parents w120 (H122.slOld 2 rfl) (by rw [(links_one hK hr96 hl1).1]; simp)).ret ?_))
    rintro _ w124 ⟨h123, rfl, hx125, ho126⟩
    have H127 := H122.addRow hx125 ho126
    refine ⟨GrF.ofExt hx125, ?_⟩
    refine Lx_c (i := 5) rfl rfl (fun w128 hw129 => ?_)
    have H130 := H127.ext hw129
    refine (C_buildSliceL H130 (enc := idCh) (val := idV) ([x87.tree] : List ID) Tryz.underlying39 Tryz.sizeOf45 Tryz.zeroValue45 rfl (by decide) (fun _ => rfl) (fun _ => rfl) rfl rfl (by decide) ?_)
    intro b131 w132 hb133 hx134 H135
    refine ⟨GrF.ofExt hx134, ?_⟩
    refine Lx_c (i := 6) rfl rfl (fun w136 hw137 => ?_)
    have H138 := H135.ext hw137
    refine (C_append H138 1 rfl (bytes := 32) (l := x87.parents) (ys := ([x87.tree] : List ID)) Tryz.underlying39 rfl rfl rfl rfl rfl (by decide) rfl rfl (OwnS.sl (H138.getOwn 0 rfl) (fun _ => rfl)) (fun _ => rfl) (fun _ => rfl) (by rw [(links_one hK hr96 hl1).1]; simp) (by decide) ?_)
    intro h139 w140 hg141 H142
    refine ⟨Gr.mono (M' := fun _ => True) hg141 (fun _ _ => trivial), ?_⟩
    refine Lx_q (i := 7) rfl rfl _ (fun v143 hv144 => R_assign (v := (slV h139 (x87.parents ++ ([x87.tree] : List ID)))) rfl ⟨rfl, Gr.refl _ _⟩) ?_
    refine Lx_nil (fun w145 hw146 => ?_)
    have H147 := H142.ext hw146
    refine Then_n (W_seq (W_reg ?_))
    refine O_v rfl (R_fieldAddr (off := 3) (oo := 3) Tryz.underlying47 rfl rfl Tryz.sizeOf43 rfl rfl ?_)
    refine O_v rfl (R_load1 (v := (slV x87.oh x87.ops)) Tryz.isAgg43 rfl ((boxR_at (H147.getOwn 2 rfl)).chunks 3 1 3 3 _ rfl rfl rfl) ?_)
    refine O_v rfl (R_len_slice (a := x87.oh.a) (n := x87.ops.length) (c := x87.oh.c) Tryz.underlying43 rfl ?_)
    refine O_v rfl (R_move (v := (.int .i64 0)) rfl ?_)
    refine O_nil (Then_n (W_block ?_))
    refine W_loop (fun m149 e150 w151 => ∃ (j : Nat), ∃ (acc3 : List ID), ∃ (h148 : SlH), m149 = 0 ∧ (x87.ops = []) ∧ (acc3 = x87.parents ++ [x87.tree]) ∧ ∃ eb152, e150 = envL [(2, (.slice none 0 0)), (3, (slV h148 acc3)), (65, (slV x87.oh x87.ops)), (66, (.int .i64 ((x87.ops.length : Nat) : Int))), (67, (.int .i64 ((j : Nat) : Int)))] eb152 ∧ Ctx w nob w151 [rowR 45 32 idCh ⟨some ⟨b131, 0, none⟩, b131, 0, 1⟩ ([x87.tree] : List ID), rowR 45 32 idCh h148 acc3, boxR b101 47 [[(slV x87.ph x87.parents)], [(.int .i64 x87.time)], [(.int .i64 x87.r)], [(slV x87.oh x87.ops)], (idCells x87.tree), [(.string x87.msg)]]] [deepI S88 stampCh 2 (fun x : OpS => x.oh) (fun x : OpS => x.over) x87.ops, slI S88 opCh 41 x87.oh x87.ops, slI S88 idCh 32 x87.ph x87.parents, slI (Old w) encB 1 hb b]) _ ⟨0, (x87.parents ++ ([x87.tree] : List ID)), h139, rfl, (links_one hK hr96 hl1).2, rfl, _, envL_self ⟨rfl, rfl, rfl, rfl, rfl, trivial⟩, H147⟩ ?_
    rintro m149 _ w151 ⟨j, acc3, h148, rfl, hh, ha3, eb152, rfl, H153⟩
    refine W_seq (W_reg ?_)
    refine O_v rfl (R_cmp (a := ((j : Nat) : Int)) (b := ((x87.ops.length : Nat) : Int)) (r := (decide (((j : Nat) : Int) < ((x87.ops.length : Nat) : Int)))) rfl rfl rfl ?_)
    refine O_nil (Then_n (W_seq ?_))
    refine W_cond (t := (decide (((j : Nat) : Int) < ((x87.ops.length : Nat) : Int)))) rfl (fun hc154 => ?_) (fun hc154 => ?_)
    ·have hc154 : (((j : Nat) : Int) < ((x87.ops.length : Nat) : Int)) := (of_decide_eq_true hc154)
     refine W_skip (Then_n ?_)
     exfalso; have hz := congrArg List.length hh; simp only [List.length_nil] at hz; omega
    ·have hc154 : ¬ (((j : Nat) : Int) < ((x87.ops.length : Nat) : Int)) := (of_decide_eq_false hc154)
     refine W_exit (Then_x (Then_x (Blk_x (Blk_n (Then_n (W_seq (W_reg ?_)))))))
     refine O_v rfl (R_move (v := (slV h148 acc3)) rfl ?_)
     refine O_v rfl (R_callL (vs := [(slV h148 acc3), (.func (.func 55) #[] #[])]) obj_Links_c54 rfl rfl ((SortFunc_ID h148 acc3 55 #[] w151 (H153.getOwn 1 rfl) obj_Links_c55 trivial (lenraw (links_chgE hK hr96 ha3 hh) hl1)).ret ?_))
     rintro _ w155 ⟨rfl, hg156, ho157⟩
     have H158 := H153.updRow 1 rfl hg156 ho157
     refine O_nil (Then_n (W_seq (W_reg ?_)))
     refine O_v rfl (R_move (v := (slV h148 acc3)) rfl ?_)
     refine O_v rfl (R_callL (vs := [(slV h148 acc3)]) obj_Links_c56 rfl rfl ((Compact_ID h148 acc3 w155 (H158.getOwn 1 rfl) (lenraw (links_chgE hK hr96 ha3 hh) hl1)).ret ?_))
     rintro _ w159 ⟨rfl, hg160, ho161⟩
     have H162 := H158.updRow 1 rfl hg160 ho161
     refine O_v rfl (R_assign (v := (slV h148 acc3)) rfl ?_)
     refine O_nil (Then_n (W_seq (W_seq ?_)))
     refine W_rg [(0, .q 0), (1, .q 0), (2, .q 0), (3, .q 0), (4, .q 0), (5, .q 0), (6, .q 0), (7, .q 0), (8, .q 0), (9, .q 0)] (by kernel_rfl) ?_
     refine Lx_q (i := 0) rfl rfl _ (fun v163 hv164 => R_move (v := (slV h148 acc3)) rfl ⟨rfl, Gr.refl _ _⟩) ?_
     refine Lx_q (i := 1) rfl rfl _ (fun v165 hv166 => R_len_slice (a := h148.a) (n := acc3.length) (c := h148.c) Tryz.underlying39 rfl ⟨rfl, Gr.refl _ _⟩) ?_
     refine Lx_q (i := 2) rfl rfl _ (fun v167 hv168 => R_cmp (a := ((acc3.length : Nat) : Int)) (b := 0) (r := (decide (0 < ((acc3.length : Nat) : Int)))) rfl rfl rfl ⟨rfl, Gr.refl _ _⟩) ?_
     refine Lx_q (i := 3) rfl rfl _ (fun v169 hv170 => R_move (v := (.bool (decide (0 < ((acc3.length : Nat) : Int))))) rfl ⟨rfl, Gr.refl _ _⟩) ?_
     refine Lx_qg (i := 4) true (decide (0 < ((acc3.length : Nat) : Int))) rfl rfl rfl rfl rfl (decide (0 < ((acc3.length : Nat) : Int))) ga_t _ (fun hA v171 hv172 => R_move (v := (slV h148 acc3)) rfl ⟨rfl, Gr.refl _ _⟩) ?_
     refine Lx_qg (i := 5) true (decide (0 < ((acc3.length : Nat) : Int))) rfl rfl rfl rfl rfl (decide (0 < ((acc3.length : Nat) : Int))) ga_t _ (fun hA v173 hv174 => by
              have hP : (0 < ((acc3.length : Nat) : Int)) := (of_decide_eq_true hA)
              exact R_index_pure (OwnS.sl (H162.getOwn 1 rfl) (fun _ => rfl)) (n := acc3.length) rfl (j := 0) (oo := (h148.o + 0 * 32)) Tryz.underlying39 Tryz.sizeOf45 (gv_t hA) rfl (by omega) (by omega) rfl ⟨rfl, Gr.refl _ _⟩) ?_
     refine Lx_qg (i := 6) true (decide (0 < ((acc3.length : Nat) : Int))) rfl rfl rfl rfl rfl (decide (0 < ((acc3.length : Nat) : Int))) ga_t _ (fun hA v175 hv176 => by
              have hP : (0 < ((acc3.length : Nat) : Int)) := (of_decide_eq_true hA)
              exact R_loadA (cs := [(idCells (nth acc3 0))]) Tryz.isAgg45 Tryz.sizeOf45 rfl (gv_t hA) ((Sl.elem (OwnS.sl ((H162.ext hv176).getOwn 1 rfl) (fun _ => rfl)) (i := 0) (by omega) rfl).chunks 0 1 0 (h148.o + 0 * 32) _ rfl rfl rfl) ⟨rfl, Gr.refl _ _⟩) ?_
     refine Lx_qg (i := 7) true (decide (0 < ((acc3.length : Nat) : Int))) rfl rfl rfl rfl rfl (decide (0 < ((acc3.length : Nat) : Int))) ga_t _ (fun hA v177 hv178 => R_buildL (vs := []) (v := aggOf [(idCells zeroId)]) rfl (fun _ => by kernel_rfl) ⟨rfl, Gr.refl _ _⟩) ?_
     refine Lx_qg (i := 8) true (decide (0 < ((acc3.length : Nat) : Int))) rfl rfl rfl rfl rfl (decide (0 < ((acc3.length : Nat) : Int))) ga_t _ (fun hA v179 hv180 => R_eqv (a := (nth acc3 0)) (b := zeroId) eqv_ID45 rfl Tryz.eqGuardType45 (gv_t hA) (gv_t hA) ⟨rfl, Gr.refl _ _⟩) ?_
     refine Lx_q (i := 9) rfl rfl _ (fun v181 hv182 => R_pick (t := (decide (0 < ((acc3.length : Nat) : Int)))) (v := (.bool ((decide (0 < ((acc3.length : Nat) : Int))) && (decide ((nth acc3 0) = zeroId))))) rfl pk_and ⟨rfl, Gr.refl _ _⟩) ?_
     refine Lx_nil (fun w183 hw184 => ?_)
     have H185 := H162.ext hw184
     refine Then_n ?_
     refine W_cond (t := ((decide (0 < ((acc3.length : Nat) : Int))) && (decide ((nth acc3 0) = zeroId)))) rfl (fun hc186 => ?_) (fun hc186 => ?_)
     ·have hc186 : ((0 < ((acc3.length : Nat) : Int)) ∧ ((nth acc3 0) = zeroId)) := (And.imp (fun h => (of_decide_eq_true h)) (fun h => (of_decide_eq_true h)) (andT hc186))
      refine W_reg ?_
      refine O_v rfl (R_move (v := (slV h148 acc3)) rfl ?_)
      refine O_v rfl (R_sliceS (h := h148) (l := acc3) (a := 1) (b := acc3.length) (m := h148.c) (acc3.drop 1) Tryz.underlying39 Tryz.sizeOf45 rfl rfl rfl rfl (by decide) (by omega) (by first | omega | exact Nat.le_refl _) (by have := Sl.cap (OwnS.sl (H185.getOwn 1 rfl) (fun _ => rfl)); omega) (by first | omega | exact Nat.le_refl _ | (have := Sl.cap (OwnS.sl (H185.getOwn 1 rfl) (fun _ => rfl)); omega)) (by rw [List.take_length])  ?_)
      refine O_v rfl (R_assign (v := (slV (hSub h148 32 1 h148.c) (acc3.drop 1))) rfl ?_)
      refine O_nil (Then_n (W_seq (W_reg ?_)))
      refine O_v rfl (R_move (v := (slV (hSub h148 32 1 h148.c) (acc3.drop 1))) rfl ?_)
      refine O_v rfl (R_assign (v := (slV (hSub h148 32 1 h148.c) (acc3.drop 1))) rfl ?_)
      refine O_nil (Then_n (W_ret ?_))
      refine ret_1 (v := (slV (hSub h148 32 1 h148.c) (acc3.drop 1))) Tryz.results21 rfl ?_
      have hn187 := H185.newRow 1 rfl
      have H188 := H185.freeze 1 rfl (fun _ => rfl)
      have hE : acc3.drop 1 = links1 b := (links_z (links_chgE hK hr96 ha3 hh) hl1 hc186)
      exact hE ▸ ⟨hSub h148 32 1 h148.c, (fun z_ => (slV h148 acc3).ownBlock = some z_), rfl, H188.gr, fun b hb => ⟨(hn187 b) hb, ((H188.imm _ (List.mem_of_getElem? (i := 0) rfl)).2 b) hb⟩, (Sl.sub (H188.sl 0 rfl) 1 acc3.length h148.c (by omega) (by first | omega | exact Nat.le_refl _) (by have := Sl.cap (OwnS.sl (H185.getOwn 1 rfl) (fun _ => rfl)); omega) (by first | omega | exact Nat.le_refl _ | (have := Sl.cap (OwnS.sl (H185.getOwn 1 rfl) (fun _ => rfl)); omega)) (by rw [List.take_length]))⟩
     ·have hc186 : (¬ (0 < ((acc3.length : Nat) : Int)) ∨ ¬ ((nth acc3 0) = zeroId)) := (Or.imp (fun h => (of_decide_eq_false h)) (fun h => (of_decide_eq_false h)) (andF hc186))
      refine W_skip (Then_n (W_seq (W_reg ?_)))
      refine O_v rfl (R_move (v := (slV h148 acc3)) rfl ?_)
      refine O_v rfl (R_assign (v := (slV h148 acc3)) rfl ?_)
      refine O_nil (Then_n (W_ret ?_))
      refine ret_1 (v := (slV h148 acc3)) Tryz.results21 rfl ?_
      have hn189 := H185.newRow 1 rfl
      have H190 := H185.freeze 1 rfl (fun _ => rfl)
      have hE : acc3 = links1 b := (links_n (links_chgE hK hr96 ha3 hh) hl1 hc186)
      exact hE ▸ ⟨h148, (fun z_ => (slV h148 acc3).ownBlock = some z_), rfl, H190.gr, fun b hb => ⟨(hn189 b) hb, ((H190.imm _ (List.mem_of_getElem? (i := 0) rfl)).2 b) hb⟩, (H190.sl 0 rfl)⟩
   ·have H119 := H108.ext hw118
    refine Lx_c (i := 5) rfl rfl (fun w191 hw192 => ?_)
    have H193 := H119.ext hw192
    refine (C_buildSliceL H193 (enc := idCh) (val := idV) ([x87.tree] : List ID) Tryz.underlying39 Tryz.sizeOf45 Tryz.zeroValue45 rfl (by decide) (fun _ => rfl) (fun _ => rfl) rfl rfl (by decide) ?_)
    intro b194 w195 hb196 hx197 H198
    refine ⟨GrF.ofExt hx197, ?_⟩
    refine Lx_c (i := 2) rfl rfl (fun w199 hw200 => ?_)
    have H201 := H198.ext hw200
    refine (R_callL (vs := [(slV x87.ph x87.parents)]) obj_Links_c53 rfl rfl ((Clone_ID x87.ph x87.parents w199 (H201.slOld 2 rfl) (by rw [(links_one hK hr96 hl1).1]; simp)).ret ?_))
    rintro _ w203 ⟨h202, rfl, hx204, ho205⟩
    have H206 := H201.addRow hx204 ho205
    refine ⟨GrF.ofExt hx204, ?_⟩
    refine Lx_c (i := 6) rfl rfl (fun w207 hw208 => ?_)
    have H209 := H206.ext hw208
    refine (C_append H209 0 rfl (bytes := 32) (l := x87.parents) (ys := ([x87.tree] : List ID)) Tryz.underlying39 rfl rfl rfl rfl rfl (by decide) rfl rfl (OwnS.sl (H209.getOwn 1 rfl) (fun _ => rfl)) (fun _ => rfl) (fun _ => rfl) (by rw [(links_one hK hr96 hl1).1]; simp) (by decide) ?_)
    intro h210 w211 hg212 H213
    refine ⟨Gr.mono (M' := fun _ => True) hg212 (fun _ _ => trivial), ?_⟩
    refine Lx_q (i := 7) rfl rfl _ (fun v214 hv215 => R_assign (v := (slV h210 (x87.parents ++ ([x87.tree] : List ID)))) rfl ⟨rfl, Gr.refl _ _⟩) ?_
    refine Lx_nil (fun w216 hw217 => ?_)
    have H218 := H213.ext hw217
    refine Then_n (W_seq (W_reg ?_))
    refine O_v rfl (R_fieldAddr (off := 3) (oo := 3) Tryz.underlying47 rfl rfl Tryz.sizeOf43 rfl rfl ?_)
    refine O_v rfl (R_load1 (v := (slV x87.oh x87.ops)) Tryz.isAgg43 rfl ((boxR_at (H218.getOwn 2 rfl)).chunks 3 1 3 3 _ rfl rfl rfl) ?_)
    refine O_v rfl (R_len_slice (a := x87.oh.a) (n := x87.ops.length) (c := x87.oh.c) Tryz.underlying43 rfl ?_)
    refine O_v rfl (R_move (v := (.int .i64 0)) rfl ?_)
    refine O_nil (Then_n (W_block ?_))
    refine W_loop (fun m220 e221 w222 => ∃ (j : Nat), ∃ (acc3 : List ID), ∃ (h219 : SlH), m220 = 0 ∧ (x87.ops = []) ∧ (acc3 = x87.parents ++ [x87.tree]) ∧ ∃ eb223, e221 = envL [(2, (.slice none 0 0)), (3, (slV h219 acc3)), (65, (slV x87.oh x87.ops)), (66, (.int .i64 ((x87.ops.length : Nat) : Int))), (67, (.int .i64 ((j : Nat) : Int)))] eb223 ∧ Ctx w nob w222 [rowR 45 32 idCh h219 acc3, rowR 45 32 idCh ⟨some ⟨b194, 0, none⟩, b194, 0, 1⟩ ([x87.tree] : List ID), boxR b101 47 [[(slV x87.ph x87.parents)], [(.int .i64 x87.time)], [(.int .i64 x87.r)], [(slV x87.oh x87.ops)], (idCells x87.tree), [(.string x87.msg)]]] [deepI S88 stampCh 2 (fun x : OpS => x.oh) (fun x : OpS => x.over) x87.ops, slI S88 opCh 41 x87.oh x87.ops, slI S88 idCh 32 x87.ph x87.parents, slI (Old w) encB 1 hb b]) _ ⟨0, (x87.parents ++ ([x87.tree] : List ID)), h210, rfl, (links_one hK hr96 hl1).2, rfl, _, envL_self ⟨rfl, rfl, rfl, rfl, rfl, trivial⟩, H218⟩ ?_
    rintro m220 _ w222 ⟨j, acc3, h219, rfl, hh, ha3, eb223, rfl, H224⟩
    refine W_seq (W_reg ?_)
    refine O_v rfl (R_cmp (a := ((j : Nat) : Int)) (b := ((x87.ops.length : Nat) : Int)) (r := (decide (((j : Nat) : Int) < ((x87.ops.length : Nat) : Int)))) rfl rfl rfl ?_)
    refine O_nil (Then_n (W_seq ?_))
    refine W_cond (t := (decide (((j : Nat) : Int) < ((x87.ops.length : Nat) : Int)))) rfl (fun hc225 => ?_) (fun hc225 => ?_)
    ·have hc225 : (((j : Nat) : Int) < ((x87.ops.length : Nat) : Int)) := (of_decide_eq_true hc225)
     refine W_skip (Then_n ?_)
     exfalso; have hz := congrArg List.length hh; simp only [List.length_nil] at hz; omega
    ·have hc225 : ¬ (((j : Nat) : Int) < ((x87.ops.length : Nat) : Int)) := (of_decide_eq_false hc225)
     refine W_exit (Then_x (Then_x (Blk_x (Blk_n (Then_n (W_seq (W_reg ?_)))))))
     refine O_v rfl (R_move (v := (slV h219 acc3)) rfl ?_)
     refine O_v rfl (R_callL (vs := [(slV h219 acc3), (.func (.func 55) #[] #[])]) obj_Links_c54 rfl rfl ((SortFunc_ID h219 acc3 55 #[] w222 (H224.getOwn 0 rfl) obj_Links_c55 trivial (lenraw (links_chgE hK hr96 ha3 hh) hl1)).ret ?_))
     rintro _ w226 ⟨rfl, hg227, ho228⟩
     have H229 := H224.updRow 0 rfl hg227 ho228
     refine O_nil (Then_n (W_seq (W_reg ?_)))
     refine O_v rfl (R_move (v := (slV h219 acc3)) rfl ?_)
     refine O_v rfl (R_callL (vs := [(slV h219 acc3)]) obj_Links_c56 rfl rfl ((Compact_ID h219 acc3 w226 (H229.getOwn 0 rfl) (lenraw (links_chgE hK hr96 ha3 hh) hl1)).ret ?_))
     rintro _ w230 ⟨rfl, hg231, ho232⟩
     have H233 := H229.updRow 0 rfl hg231 ho232
     refine O_v rfl (R_assign (v := (slV h219 acc3)) rfl ?_)
     refine O_nil (Then_n (W_seq (W_seq ?_)))
     refine W_rg [(0, .q 0), (1, .q 0), (2, .q 0), (3, .q 0), (4, .q 0), (5, .q 0), (6, .q 0), (7, .q 0), (8, .q 0), (9, .q 0)] (by kernel_rfl) ?_
     refine Lx_q (i := 0) rfl rfl _ (fun v234 hv235 => R_move (v := (slV h219 acc3)) rfl ⟨rfl, Gr.refl _ _⟩) ?_
     refine Lx_q (i := 1) rfl rfl _ (fun v236 hv237 => R_len_slice (a := h219.a) (n := acc3.length) (c := h219.c) Tryz.underlying39 rfl ⟨rfl, Gr.refl _ _⟩) ?_
     refine Lx_q (i := 2) rfl rfl _ (fun v238 hv239 => R_cmp (a := ((acc3.length : Nat) : Int)) (b := 0) (r := (decide (0 < ((acc3.length : Nat) : Int)))) rfl rfl rfl ⟨rfl, Gr.refl _ _⟩) ?_
     refine Lx_q (i := 3) rfl rfl _ (fun v240 hv241 => R_move (v := (.bool (decide (0 < ((acc3.length : Nat) : Int))))) rfl ⟨rfl, Gr.refl _ _⟩) ?_
     refine Lx_qg (i := 4) true (decide (0 < ((acc3.length : Nat) : Int))) rfl rfl rfl rfl rfl (decide (0 < ((acc3.length : Nat) : Int))) ga_t _ (fun hA v242 hv243 => R_move (v := (slV h219 acc3)) rfl ⟨rfl, Gr.refl _ _⟩) ?_
     refine Lx_qg (i := 5) true (decide (0 < ((acc3.length : Nat) : Int))) rfl rfl rfl rfl rfl (decide (0 < ((acc3.length : Nat) : Int))) ga_t _ (fun hA v244 hv245 => by
              have hP : (0 < ((acc3.length : Nat) : Int)) := (of_decide_eq_true hA)
              exact R_index_pure (OwnS.sl (H233.getOwn 0 rfl) (fun _ => rfl)) (n := acc3.length) rfl (j := 0) (oo := (h219.o + 0 * 32)) Tryz.underlying39 Tryz.sizeOf45 (gv_t hA) rfl (by omega) (by omega) rfl ⟨rfl, Gr.refl _ _⟩) ?_
     refine Lx_qg (i := 6) true (decide (0 < ((acc3.length : Nat) : Int))) rfl rfl rfl rfl rfl (decide (0 < ((acc3.length : Nat) : Int))) ga_t _ (fun hA v246 hv247 => by
              have hP : (0 < ((acc3.length : Nat) : Int)) := (of_decide_eq_true hA)
              exact R_loadA (cs := [(idCells (nth acc3 0))]) Tryz.isAgg45 Tryz.sizeOf45 rfl (gv_t hA) ((Sl.elem (OwnS.sl ((H233.ext hv247).getOwn 0 rfl) (fun _ => rfl)) (i := 0) (by omega) rfl).chunks 0 1 0 (h219.o + 0 * 32) _ rfl rfl rfl) ⟨rfl, Gr.refl _ _⟩) ?_
     refine Lx_qg (i := 7) true (decide (0 < ((acc3.length : Nat) : Int))) rfl rfl rfl rfl rfl (decide (0 < ((acc3.length : Nat) : Int))) ga_t _ (fun hA v248 hv249 => R_buildL (vs := []) (v := aggOf [(idCells zeroId)]) rfl (fun _ => by kernel_rfl) ⟨rfl, Gr.refl _ _⟩) ?_
     refine Lx_qg (i := 8) true (decide (0 < ((acc3.length : Nat) : Int))) rfl rfl rfl rfl rfl (decide (0 < ((acc3.length : Nat) : Int))) ga_t _ (fun hA v250 hv251 => R_eqv (a := (nth acc3 0)) (b := zeroId) eqv_ID45 rfl Tryz.eqGuardType45 (gv_t hA) (gv_t hA) ⟨rfl, Gr.refl _ _⟩) ?_
     refine Lx_q (i := 9) rfl rfl _ (fun v252 hv253 => R_pick (t := (decide (0 < ((acc3.length : Nat) : Int)))) (v := (.bool ((decide (0 < ((acc3.length : Nat) : Int))) && (decide ((nth acc3 0) = zeroId))))) rfl pk_and ⟨rfl, Gr.refl _ _⟩) ?_
     refine Lx_nil (fun w254 hw255 => ?_)
     have H256 := H233.ext hw255
     refine Then_n ?_
     refine W_cond (t := ((decide (0 < ((acc3.length : Nat) : Int))) && (decide ((nth acc3 0) = zeroId)))) rfl (fun hc257 => ?_) (fun hc257 => ?_)
     ·have hc257 : ((0 < ((acc3.length : Nat) : Int)) ∧ ((nth acc3 0) = zeroId)) := (And.imp (fun h => (of_decide_eq_true h)) (fun h => (of_decide_eq_true h)) (andT hc257))
      refine W_reg ?_
      refine O_v rfl (R_move (v := (slV h219 acc3)) rfl ?_)
      refine O_v rfl (R_sliceS (h := h219) (l := acc3) (a := 1) (b := acc3.length) (m := h219.c) (acc3.drop 1) Tryz.underlying39 Tryz.sizeOf45 rfl rfl rfl rfl (by decide) (by omega) (by first | omega | exact Nat.le_refl _) (by have := Sl.cap (OwnS.sl (H256.getOwn 0 rfl) (fun _ => rfl)); omega) (by first | omega | exact Nat.le_refl _ | (have := Sl.cap (OwnS.sl (H256.getOwn 0 rfl) (fun _ => rfl)); omega)) (by rw [List.take_length])  ?_)
      refine O_v rfl (R_assign (v := (slV (hSub h219 32 1 h219.c) (acc3.drop 1))) rfl ?_)
      refine O_nil (Then_n (W_seq (W_reg ?_)))
      refine O_v rfl (R_move (v := (slV (hSub h219 32 1 h219.c) (acc3.drop 1))) rfl ?_)
      refine O_v rfl (R_assign (v := (slV (hSub h219 32 1 h219.c) (acc3.drop 1))) rfl ?_)
      refine O_nil (Then_n (W_ret ?_))
      refine ret_1 (v := (slV (hSub h219 32 1 h219.c) (acc3.drop 1))) Tryz.results21 rfl ?_
      have hn258 := H256.newRow 0 rfl
      have H259 := H256.freeze 0 rfl (fun _ => rfl)
      have hE : acc3.drop 1 = links1 b := (links_z (links_chgE hK hr96 ha3 hh) hl1 hc257)
      exact hE ▸ ⟨hSub h219 32 1 h219.c, (fun z_ => (slV h219 acc3).ownBlock = some z_), rfl, H259.gr, fun b hb => ⟨(hn258 b) hb, ((H259.imm _ (List.mem_of_getElem? (i := 0) rfl)).2 b) hb⟩, (Sl.sub (H259.sl 0 rfl) 1 acc3.length h219.c (by omega) (by first | omega | exact Nat.le_refl _) (by have := Sl.cap (OwnS.sl (H256.getOwn 0 rfl) (fun _ => rfl)); omega) (by first | omega | exact Nat.le_refl _ | (have := Sl.cap (OwnS.sl (H256.getOwn 0 rfl) (fun _ => rfl)); omega)) (by rw [List.take_length]))⟩
     ·have hc257 : (¬ (0 < ((acc3.length : Nat) : Int)) ∨ ¬ ((nth acc3 0) = zeroId)) := (Or.imp (fun h => (of_decide_eq_false h)) (fun h => (of_decide_eq_false h)) (andF hc257))
      refine W_skip (Then_n (W_seq (W_reg ?_)))
      refine O_v rfl (R_move (v := (slV h219 acc3)) rfl ?_)
      refine O_v rfl (R_assign (v := (slV h219 acc3)) rfl ?_)
      refine O_nil (Then_n (W_ret ?_))
      refine ret_1 (v := (slV h219 acc3)) Tryz.results21 rfl ?_
      have hn260 := H256.newRow 0 rfl
      have H261 := H256.freeze 0 rfl (fun _ => rfl)
      have hE : acc3 = links1 b := (links_n (links_chgE hK hr96 ha3 hh) hl1 hc257)
      exact hE ▸ ⟨h219, (fun z_ => (slV h219 acc3).ownBlock = some z_), rfl, H261.gr, fun b hb => ⟨(hn260 b) hb, ((H261.imm _ (List.mem_of_getElem? (i := 0) rfl)).2 b) hb⟩, (H261.sl 0 rfl)⟩
  ·have hc86 : ¬ (kindOf b = 3) := (of_decide_eq_false hc86)
   have h3 := hc86
   refine W_seq (W_reg ?_)
   refine O_v rfl (R_cmp (a := kindOf b) (b := 4) (r := (decide (kindOf b = 4))) rfl rfl rfl ?_)
   refine O_v rfl (R_assign (v := (.bool (decide (kindOf b = 4)))) rfl ?_)
   refine O_nil (Then_n ?_)
   refine W_cond (t := (decide (kindOf b = 4))) rfl (fun hc262 => ?_) (fun hc262 => ?_)
   ·have hc262 : (kindOf b = 4) := (of_decide_eq_true hc262)
    have hK := hc262
    refine W_seq (W_reg ?_)
    refine O_v rfl (R_move (v := (slV hb b)) rfl ?_)
    refine O_v rfl (R_callL (vs := [(slV hb b)]) obj_Links_c30 rfl rfl ((obj_Label hb b w2 (H4.slOld 0 rfl) (by omega)).ret ?_))
    rintro _ w263 ⟨rfl, hx264⟩
    have H265 := H4.ext hx264
    refine O_v rfl (R_move (v := (.tuple #[(aggOf (labelCh ((labelOf b).1))), (.int .i64 ((labelOf b).2))])) rfl ?_)
    refine O_v rfl (R_extract (v := (aggOf (labelCh ((labelOf b).1)))) rfl rfl ?_)
    refine O_v rfl (R_extract (v := (.int .i64 ((labelOf b).2))) rfl rfl ?_)
    refine O_v rfl (C_alloc H265 [(idCells zeroId), [(.string ByteArray.empty)], [(.string ByteArray.empty)]] Tryz.zeroValue55 ?_)
    intro b266 w267 hb268 hx269 H270
    refine O_u (C_storeA H270 0 rfl 0 (sub := [(idCells (((labelOf b).1).target)), [(.string (((labelOf b).1).name))], [(.string (((labelOf b).1).msg))]]) [(idCells (((labelOf b).1).target)), [(.string (((labelOf b).1).name))], [(.string (((labelOf b).1).msg))]] Tryz.sizeOf55 rfl rfl rfl rfl ⟨[(idCells zeroId), [(.string ByteArray.empty)], [(.string ByteArray.empty)]], [], rfl, rfl, rfl⟩ rfl ?_)
    intro w271 hg272 H273
    refine O_v rfl (R_assign (v := (.int .i64 ((labelOf b).2))) rfl ?_)
    refine O_nil (Then_n (W_reg ?_))
    refine O_v rfl (R_move (v := (.slice none 0 0)) rfl ?_)
    refine O_v rfl (R_fieldAddr (off := 0) (oo := 0) Tryz.underlying55 rfl rfl Tryz.sizeOf45 rfl rfl ?_)
    refine O_v rfl (R_loadA (cs := [(idCells (((labelOf b).1).target))]) Tryz.isAgg45 Tryz.sizeOf45 rfl rfl ((boxR_at (H273.getOwn 0 rfl)).chunks 0 1 0 0 _ rfl rfl rfl) ?_)
    refine O_v rfl (C_buildSliceL H273 (enc := idCh) (val := idV) ([((labelOf b).1).target] : List ID) Tryz.underlying39 Tryz.sizeOf45 Tryz.zeroValue45 rfl (by decide) (fun _ => rfl) (fun _ => rfl) rfl rfl (by decide) ?_)
    intro b274 w275 hb276 hx277 H278
    have H279 := H278.addNil 45 32 idCh
    refine O_v rfl (C_append H279 0 rfl (bytes := 32) (l := ([] : List ID)) (ys := ([((labelOf b).1).target] : List ID)) Tryz.underlying39 rfl rfl rfl rfl rfl (by decide) rfl rfl (OwnS.sl (H279.getOwn 1 rfl) (fun _ => rfl)) (fun _ => rfl) (fun _ => rfl) (by simp) (by decide) ?_)
    intro h280 w281 hg282 H283
    refine O_v rfl (R_assign (v := (slV h280 (([] : List ID) ++ ([((labelOf b).1).target] : List ID)))) rfl ?_)
    refine O_nil (Blk_n (Then_n (W_seq (W_reg ?_))))
    refine O_v rfl (R_move (v := (slV h280 (([] : List ID) ++ ([((labelOf b).1).target] : List ID)))) rfl ?_)
    refine O_v rfl (R_callL (vs := [(slV h280 (([] : List ID) ++ ([((labelOf b).1).target] : List ID))), (.func (.func 55) #[] #[])]) obj_Links_c54 rfl rfl ((SortFunc_ID h280 (([] : List ID) ++ ([((labelOf b).1).target] : List ID)) 55 #[] w281 (H283.getOwn 0 rfl) obj_Links_c55 trivial (lenraw (links_lab hK).symm hl1)).ret ?_))
    rintro _ w284 ⟨rfl, hg285, ho286⟩
    have H287 := H283.updRow 0 rfl hg285 ho286
    refine O_nil (Then_n (W_seq (W_reg ?_)))
    refine O_v rfl (R_move (v := (slV h280 (([] : List ID) ++ ([((labelOf b).1).target] : List ID)))) rfl ?_)
    refine O_v rfl (R_callL (vs := [(slV h280 (([] : List ID) ++ ([((labelOf b).1).target] : List ID)))]) obj_Links_c56 rfl (lst1 (slV_len (l := (([] : List ID) ++ ([((labelOf b).1).target] : List ID))) (l' := (([] : List ID) ++ ([((labelOf b).1).target] : List ID))) (by omega))) ((Compact_ID h280 (([] : List ID) ++ ([((labelOf b).1).target] : List ID)) w284 (H287.getOwn 0 rfl) (lenraw (links_lab hK).symm hl1)).ret ?_))
    rintro _ w288 ⟨rfl, hg289, ho290⟩
    have H291 := H287.updRow 0 rfl hg289 ho290
    refine O_v rfl (R_assign (v := (slV h280 (([] : List ID) ++ ([((labelOf b).1).target] : List ID)))) rfl ?_)
    refine O_nil (Then_n (W_seq (W_seq ?_)))
    refine W_rg [(0, .q 0), (1, .q 0), (2, .q 0), (3, .q 0), (4, .q 0), (5, .q 0), (6, .q 0), (7, .q 0), (8, .q 0), (9, .q 0)] (by kernel_rfl) ?_
    refine Lx_q (i := 0) rfl rfl _ (fun v292 hv293 => R_move (v := (slV h280 (([] : List ID) ++ ([((labelOf b).1).target] : List ID)))) rfl ⟨rfl, Gr.refl _ _⟩) ?_
    refine Lx_q (i := 1) rfl rfl _ (fun v294 hv295 => R_len_slice (a := h280.a) (n := (([] : List ID) ++ ([((labelOf b).1).target] : List ID)).length) (c := h280.c) Tryz.underlying39 rfl ⟨rfl, Gr.refl _ _⟩) ?_
    refine Lx_q (i := 2) rfl rfl _ (fun v296 hv297 => R_cmp (a := (((([] : List ID) ++ ([((labelOf b).1).target] : List ID)).length : Nat) : Int)) (b := 0) (r := (decide (0 < (((([] : List ID) ++ ([((labelOf b).1).target] : List ID)).length : Nat) : Int)))) rfl rfl rfl ⟨rfl, Gr.refl _ _⟩) ?_
    refine Lx_q (i := 3) rfl rfl _ (fun v298 hv299 => R_move (v := (.bool (decide (0 < (((([] : List ID) ++ ([((labelOf b).1).target] : List ID)).length : Nat) : Int))))) rfl ⟨rfl, Gr.refl _ _⟩) ?_
    refine Lx_qg (i := 4) true (decide (0 < (((([] : List ID) ++ ([((labelOf b).1).target] : List ID)).length : Nat) : Int))) rfl rfl rfl rfl rfl (decide (0 < (((([] : List ID) ++ ([((labelOf b).1).target] : List ID)).length : Nat) : Int))) ga_t _ (fun hA v300 hv301 => R_move (v := (slV h280 (([] : List ID) ++ ([((labelOf b).1).target] : List ID)))) rfl ⟨rfl, Gr.refl _ _⟩) ?_
    refine Lx_qg (i := 5) true (decide (0 < (((([] : List ID) ++ ([((labelOf b).1).target] : List ID)).length : Nat) : Int))) rfl rfl rfl rfl rfl (decide (0 < (((([] : List ID) ++ ([((labelOf b).1).target] : List ID)).length : Nat) : Int))) ga_t _ (fun hA v302 hv303 => by
            have hP : (0 < (((([] : List ID) ++ ([((labelOf b).1).target] : List ID)).length : Nat) : Int)) := (of_decide_eq_true hA)
            exact R_index_pure (OwnS.sl (H291.getOwn 0 rfl) (fun _ => rfl)) (n := (([] : List ID) ++ ([((labelOf b).1).target] : List ID)).length) rfl (j := 0) (oo := (h280.o + 0 * 32)) Tryz.underlying39 Tryz.sizeOf45 (gv_t hA) rfl (by omega) (by omega) rfl ⟨rfl, Gr.refl _ _⟩) ?_
    refine Lx_qg (i := 6) true (decide (0 < (((([] : List ID) ++ ([((labelOf b).1).target] : List ID)).length : Nat) : Int))) rfl rfl rfl rfl rfl (decide (0 < (((([] : List ID) ++ ([((labelOf b).1).target] : List ID)).length : Nat) : Int))) ga_t _ (fun hA v304 hv305 => by
            have hP : (0 < (((([] : List ID) ++ ([((labelOf b).1).target] : List ID)).length : Nat) : Int)) := (of_decide_eq_true hA)
            exact R_loadA (cs := [(idCells (nth (([] : List ID) ++ ([((labelOf b).1).target] : List ID)) 0))]) Tryz.isAgg45 Tryz.sizeOf45 rfl (gv_t hA) ((Sl.elem (OwnS.sl ((H291.ext hv305).getOwn 0 rfl) (fun _ => rfl)) (i := 0) (by omega) rfl).chunks 0 1 0 (h280.o + 0 * 32) _ rfl rfl rfl) ⟨rfl, Gr.refl _ _⟩) ?_
    refine Lx_qg (i := 7) true (decide (0 < (((([] : List ID) ++ ([((labelOf b).1).target] : List ID)).length : Nat) : Int))) rfl rfl rfl rfl rfl (decide (0 < (((([] : List ID) ++ ([((labelOf b).1).target] : List ID)).length : Nat) : Int))) ga_t _ (fun hA v306 hv307 => R_buildL (vs := []) (v := aggOf [(idCells zeroId)]) rfl (fun _ => by kernel_rfl) ⟨rfl, Gr.refl _ _⟩) ?_
    refine Lx_qg (i := 8) true (decide (0 < (((([] : List ID) ++ ([((labelOf b).1).target] : List ID)).length : Nat) : Int))) rfl rfl rfl rfl rfl (decide (0 < (((([] : List ID) ++ ([((labelOf b).1).target] : List ID)).length : Nat) : Int))) ga_t _ (fun hA v308 hv309 => R_eqv (a := (nth (([] : List ID) ++ ([((labelOf b).1).target] : List ID)) 0)) (b := zeroId) eqv_ID45 rfl Tryz.eqGuardType45 (gv_t hA) (gv_t hA) ⟨rfl, Gr.refl _ _⟩) ?_
    refine Lx_q (i := 9) rfl rfl _ (fun v310 hv311 => R_pick (t := (decide (0 < (((([] : List ID) ++ ([((labelOf b).1).target] : List ID)).length : Nat) : Int)))) (v := (.bool ((decide (0 < (((([] : List ID) ++ ([((labelOf b).1).target] : List ID)).length : Nat) : Int))) && (decide ((nth (([] : List ID) ++ ([((labelOf b).1).target] : List ID)) 0) = zeroId))))) rfl pk_and ⟨rfl, Gr.refl _ _⟩) ?_
    refine Lx_nil (fun w312 hw313 => ?_)
    have H314 := H291.ext hw313
    refine Then_n ?_
    refine W_cond (t := ((decide (0 < (((([] : List ID) ++ ([((labelOf b).1).target] : List ID)).length : Nat) : Int))) && (decide ((nth (([] : List ID) ++ ([((labelOf b).1).target] : List ID)) 0) = zeroId)))) rfl (fun hc315 => ?_) (fun hc315 => ?_)
    ·have hc315 : ((0 < (((([] : List ID) ++ ([((labelOf b).1).target] : List ID)).length : Nat) : Int)) ∧ ((nth (([] : List ID) ++ ([((labelOf b).1).target] : List ID)) 0) = zeroId)) := (And.imp (fun h => (of_decide_eq_true h)) (fun h => (of_decide_eq_true h)) (andT hc315))
     refine W_reg ?_
     refine O_v rfl (R_move (v := (slV h280 (([] : List ID) ++ ([((labelOf b).1).target] : List ID)))) rfl ?_)
     refine O_v rfl (R_sliceS (h := h280) (l := (([] : List ID) ++ ([((labelOf b).1).target] : List ID))) (a := 1) (b := (([] : List ID) ++ ([((labelOf b).1).target] : List ID)).length) (m := h280.c) ((([] : List ID) ++ ([((labelOf b).1).target] : List ID)).drop 1) Tryz.underlying39 Tryz.sizeOf45 rfl rfl rfl rfl (by decide) (by omega) (by first | omega | exact Nat.le_refl _) (by have := Sl.cap (OwnS.sl (H314.getOwn 0 rfl) (fun _ => rfl)); omega) (by first | omega | exact Nat.le_refl _ | (have := Sl.cap (OwnS.sl (H314.getOwn 0 rfl) (fun _ => rfl)); omega)) (by rw [List.take_length])  ?_)
     refine O_v rfl (R_assign (v := (slV (hSub h280 32 1 h280.c) ((([] : List ID) ++ ([((labelOf b).1).target] : List ID)).drop 1))) rfl ?_)
     refine O_nil (Then_n (W_seq (W_reg ?_)))
     refine O_v rfl (R_move (v := (slV (hSub h280 32 1 h280.c) ((([] : List ID) ++ ([((labelOf b).1).target] : List ID)).drop 1))) rfl ?_)
     refine O_v rfl (R_assign (v := (slV (hSub h280 32 1 h280.c) ((([] : List ID) ++ ([((labelOf b).1).target] : List ID)).drop 1))) rfl ?_)
     refine O_nil (Then_n (W_ret ?_))
     refine ret_1 (v := (slV (hSub h280 32 1 h280.c) ((([] : List ID) ++ ([((labelOf b).1).target] : List ID)).drop 1))) Tryz.results21 rfl ?_
     have hn316 := H314.newRow 0 rfl
     have H317 := H314.freeze 0 rfl (fun _ => rfl)
     have hE : (([] : List ID) ++ ([((labelOf b).1).target] : List ID)).drop 1 = links1 b := (links_z (links_lab hK).symm hl1 hc315)
     exact hE ▸ ⟨hSub h280 32 1 h280.c, (fun z_ => (slV h280 (([] : List ID) ++ ([((labelOf b).1).target] : List ID))).ownBlock = some z_), rfl, H317.gr, fun b hb => ⟨(hn316 b) hb, ((H317.imm _ (List.mem_of_getElem? (i := 0) rfl)).2 b) hb⟩, (Sl.sub (H317.sl 0 rfl) 1 ((([] : List ID) ++ ([((labelOf b).1).target] : List ID)).length) h280.c (by omega) (by first | omega | exact Nat.le_refl _) (by have := Sl.cap (OwnS.sl (H314.getOwn 0 rfl) (fun _ => rfl)); omega) (by first | omega | exact Nat.le_refl _ | (have := Sl.cap (OwnS.sl (H314.getOwn 0 rfl) (fun _ => rfl)); omega)) (by rw [List.take_length]))⟩
    ·have hc315 : (¬ (0 < (((([] : List ID) ++ ([((labelOf b).1).target] : List ID)).length : Nat) : Int)) ∨ ¬ ((nth (([] : List ID) ++ ([((labelOf b).1).target] : List ID)) 0) = zeroId)) := (Or.imp (fun h => (of_decide_eq_false h)) (fun h => (of_decide_eq_false h)) (andF hc315))
     refine W_skip (Then_n (W_seq (W_reg ?_)))
     refine O_v rfl (R_move (v := (slV h280 (([] : List ID) ++ ([((labelOf b).1).target] : List ID)))) rfl ?_)
     refine O_v rfl (R_assign (v := (slV h280 (([] : List ID) ++ ([((labelOf b).1).target] : List ID)))) rfl ?_)
     refine O_nil (Then_n (W_ret ?_))
     refine ret_1 (v := (slV h280 (([] : List ID) ++ ([((labelOf b).1).target] : List ID)))) Tryz.results21 rfl ?_
     have hn318 := H314.newRow 0 rfl
     have H319 := H314.freeze 0 rfl (fun _ => rfl)
     have hE : (([] : List ID) ++ ([((labelOf b).1).target] : List ID)) = links1 b := (links_n (links_lab hK).symm hl1 hc315)
     exact hE ▸ ⟨h280, (fun z_ => (slV h280 (([] : List ID) ++ ([((labelOf b).1).target] : List ID))).ownBlock = some z_), rfl, H319.gr, fun b hb => ⟨(hn318 b) hb, ((H319.imm _ (List.mem_of_getElem? (i := 0) rfl)).2 b) hb⟩, (H319.sl 0 rfl)⟩
   ·have hc262 : ¬ (kindOf b = 4) := (of_decide_eq_false hc262)
    have h4 := hc262
    refine W_skip (Blk_n (Then_n (W_seq (W_reg ?_))))
    refine O_v rfl (R_move (v := (.slice none 0 0)) rfl ?_)
    have H320 := H4.addNil 45 32 idCh
    refine O_v rfl (R_callL (vs := [(slV nilH ([] : List ID)), (.func (.func 55) #[] #[])]) obj_Links_c54 rfl rfl ((SortFunc_ID nilH ([] : List ID) 55 #[] w2 (H320.getOwn 0 rfl) obj_Links_c55 trivial (lenraw (links_none h2 h3 h4).symm hl1)).ret ?_))
    rintro _ w321 ⟨rfl, hg322, ho323⟩
    have H324 := H320.updRow 0 rfl hg322 ho323
    refine O_nil (Then_n (W_seq (W_reg ?_)))
    refine O_v rfl (R_move (v := (.slice none 0 0)) rfl ?_)
    have H325 := H324.addNil 45 32 idCh
    refine O_v rfl (R_callL (vs := [(slV nilH ([] : List ID))]) obj_Links_c56 rfl rfl ((Compact_ID nilH ([] : List ID) w321 (H325.getOwn 0 rfl) (lenraw (links_none h2 h3 h4).symm hl1)).ret ?_))
    rintro _ w326 ⟨rfl, hg327, ho328⟩
    have H329 := H325.updRow 0 rfl hg327 ho328
    refine O_v rfl (R_assign (v := (slV nilH ([] : List ID))) rfl ?_)
    refine O_nil (Then_n (W_seq (W_seq ?_)))
    refine W_rg [(0, .q 0), (1, .q 0), (2, .q 0), (3, .q 0), (4, .q 0), (5, .q 0), (6, .q 0), (7, .q 0), (8, .q 0), (9, .q 0)] (by kernel_rfl) ?_
    refine Lx_q (i := 0) rfl rfl _ (fun v330 hv331 => R_move (v := (slV nilH ([] : List ID))) rfl ⟨rfl, Gr.refl _ _⟩) ?_
    refine Lx_q (i := 1) rfl rfl _ (fun v332 hv333 => R_len_slice (a := nilH.a) (n := ([] : List ID).length) (c := nilH.c) Tryz.underlying39 rfl ⟨rfl, Gr.refl _ _⟩) ?_
    refine Lx_q (i := 2) rfl rfl _ (fun v334 hv335 => R_cmp (a := ((([] : List ID).length : Nat) : Int)) (b := 0) (r := (decide (0 < ((([] : List ID).length : Nat) : Int)))) rfl rfl rfl ⟨rfl, Gr.refl _ _⟩) ?_
    refine Lx_q (i := 3) rfl rfl _ (fun v336 hv337 => R_move (v := (.bool (decide (0 < ((([] : List ID).length : Nat) : Int))))) rfl ⟨rfl, Gr.refl _ _⟩) ?_
    refine Lx_qg (i := 4) true (decide (0 < ((([] : List ID).length : Nat) : Int))) rfl rfl rfl rfl rfl (decide (0 < ((([] : List ID).length : Nat) : Int))) ga_t _ (fun hA v338 hv339 => R_move (v := (slV nilH ([] : List ID))) rfl ⟨rfl, Gr.refl _ _⟩) ?_
    refine Lx_qg (i := 5) true (decide (0 < ((([] : List ID).length : Nat) : Int))) rfl rfl rfl rfl rfl (decide (0 < ((([] : List ID).length : Nat) : Int))) ga_t _ (fun hA v340 hv341 => by
            have hP : (0 < ((([] : List ID).length : Nat) : Int)) := (of_decide_eq_true hA)
            exact R_index_pure (OwnS.sl (H329.getOwn 0 rfl) (fun _ => rfl)) (n := ([] : List ID).length) rfl (j := 0) (oo := (nilH.o + 0 * 32)) Tryz.underlying39 Tryz.sizeOf45 (gv_t hA) rfl (by omega) (by omega) rfl ⟨rfl, Gr.refl _ _⟩) ?_
    refine Lx_qg (i := 6) true (decide (0 < ((([] : List ID).length : Nat) : Int))) rfl rfl rfl rfl rfl (decide (0 < ((([] : List ID).length : Nat) : Int))) ga_t _ (fun hA v342 hv343 => by
            have hP : (0 < ((([] : List ID).length : Nat) : Int)) := (of_decide_eq_true hA)
            exact R_loadA (cs := [(idCells (nth ([] : List ID) 0))]) Tryz.isAgg45 Tryz.sizeOf45 rfl (gv_t hA) ((Sl.elem (OwnS.sl ((H329.ext hv343).getOwn 0 rfl) (fun _ => rfl)) (i := 0) (by omega) rfl).chunks 0 1 0 (nilH.o + 0 * 32) _ rfl rfl rfl) ⟨rfl, Gr.refl _ _⟩) ?_
    refine Lx_qg (i := 7) true (decide (0 < ((([] : List ID).length : Nat) : Int))) rfl rfl rfl rfl rfl (decide (0 < ((([] : List ID).length : Nat) : Int))) ga_t _ (fun hA v344 hv345 => R_buildL (vs := []) (v := aggOf [(idCells zeroId)]) rfl (fun _ => by kernel_rfl) ⟨rfl, Gr.refl _ _⟩) ?_
    refine Lx_qg (i := 8) true (decide (0 < ((([] : List ID).length : Nat) : Int))) rfl rfl rfl rfl rfl (decide (0 < ((([] : List ID).length : Nat) : Int))) ga_t _ (fun hA v346 hv347 => R_eqv (a := (nth ([] : List ID) 0)) (b := zeroId) eqv_ID45 rfl Tryz.eqGuardType45 (gv_t hA) (gv_t hA) ⟨rfl, Gr.refl _ _⟩) ?_
    refine Lx_q (i := 9) rfl rfl _ (fun v348 hv349 => R_pick (t := (decide (0 < ((([] : List ID).length : Nat) : Int)))) (v := (.bool ((decide (0 < ((([] : List ID).length : Nat) : Int))) && (decide ((nth ([] : List ID) 0) = zeroId))))) rfl pk_and ⟨rfl, Gr.refl _ _⟩) ?_
    refine Lx_nil (fun w350 hw351 => ?_)
    have H352 := H329.ext hw351
    refine Then_n ?_
    refine W_cond (t := ((decide (0 < ((([] : List ID).length : Nat) : Int))) && (decide ((nth ([] : List ID) 0) = zeroId)))) rfl (fun hc353 => ?_) (fun hc353 => ?_)
    ·have hc353 : ((0 < ((([] : List ID).length : Nat) : Int)) ∧ ((nth ([] : List ID) 0) = zeroId)) := (And.imp (fun h => (of_decide_eq_true h)) (fun h => (of_decide_eq_true h)) (andT hc353))
     refine W_reg ?_
     refine O_v rfl (R_move (v := (slV nilH ([] : List ID))) rfl ?_)
     refine O_v rfl (R_sliceS (h := nilH) (l := ([] : List ID)) (a := 1) (b := ([] : List ID).length) (m := nilH.c) (([] : List ID).drop 1) Tryz.underlying39 Tryz.sizeOf45 rfl rfl rfl rfl (by decide) (by omega) (by first | omega | exact Nat.le_refl _) (by have := Sl.cap (OwnS.sl (H352.getOwn 0 rfl) (fun _ => rfl)); omega) (by first | omega | exact Nat.le_refl _ | (have := Sl.cap (OwnS.sl (H352.getOwn 0 rfl) (fun _ => rfl)); omega)) (by rw [List.take_length])  ?_)
     refine O_v rfl (R_assign (v := (slV (hSub nilH 32 1 nilH.c) (([] : List ID).drop 1))) rfl ?_)
     refine O_nil (Then_n (W_seq (W_reg ?_)))
     refine O_v rfl (R_move (v := (slV (hSub nilH 32 1 nilH.c) (([] : List ID).drop 1))) rfl ?_)
     refine O_v rfl (R_assign (v := (slV (hSub nilH 32 1 nilH.c) (([] : List ID).drop 1))) rfl ?_)
     refine O_nil (Then_n (W_ret ?_))
     refine ret_1 (v := (slV (hSub nilH 32 1 nilH.c) (([] : List ID).drop 1))) Tryz.results21 rfl ?_
     have hn354 := H352.newRow 0 rfl
     have H355 := H352.freeze 0 rfl (fun _ => rfl)
     have hE : ([] : List ID).drop 1 = links1 b := (links_z (links_none h2 h3 h4).symm hl1 hc353)
     exact hE ▸ ⟨hSub nilH 32 1 nilH.c, (fun z_ => (slV nilH ([] : List ID)).ownBlock = some z_), rfl, H355.gr, fun b hb => ⟨(hn354 b) hb, ((H355.imm _ (List.mem_of_getElem? (i := 0) rfl)).2 b) hb⟩, (Sl.sub (H355.sl 0 rfl) 1 (([] : List ID).length) nilH.c (by omega) (by first | omega | exact Nat.le_refl _) (by have := Sl.cap (OwnS.sl (H352.getOwn 0 rfl) (fun _ => rfl)); omega) (by first | omega | exact Nat.le_refl _ | (have := Sl.cap (OwnS.sl (H352.getOwn 0 rfl) (fun _ => rfl)); omega)) (by rw [List.take_length]))⟩
    ·have hc353 : (¬ (0 < ((([] : List ID).length : Nat) : Int)) ∨ ¬ ((nth ([] : List ID) 0) = zeroId)) := (Or.imp (fun h => (of_decide_eq_false h)) (fun h => (of_decide_eq_false h)) (andF hc353))
     refine W_skip (Then_n (W_seq (W_reg ?_)))
     refine O_v rfl (R_move (v := (slV nilH ([] : List ID))) rfl ?_)
     refine O_v rfl (R_assign (v := (slV nilH ([] : List ID))) rfl ?_)
     refine O_nil (Then_n (W_ret ?_))
     refine ret_1 (v := (slV nilH ([] : List ID))) Tryz.results21 rfl ?_
     have hn356 := H352.newRow 0 rfl
     have H357 := H352.freeze 0 rfl (fun _ => rfl)
     have hE : ([] : List ID) = links1 b := (links_n (links_none h2 h3 h4).symm hl1 hc353)
     exact hE ▸ ⟨nilH, (fun z_ => (slV nilH ([] : List ID)).ownBlock = some z_), rfl, H357.gr, fun b hb => ⟨(hn356 b) hb, ((H357.imm _ (List.mem_of_getElem? (i := 0) rfl)).2 b) hb⟩, (H357.sl 0 rfl)⟩

end Go.Proofs.YthjdhfoeckfmbaaGreat
namespace Go.Proofs.YthjdhfoeckfmbaaGreat
open Go
set_option maxRecDepth 100000
set_option linter.unusedVariables false
set_option linter.unusedSimpArgs false
set_option linter.unusedSectionVars false
variable [DD]
set_option maxHeartbeats 1000000 in
theorem obj_PutBlob (hb : SlH) (b : List UInt8) (w : World) (Sb : Sl (Old w) encB 1 hb b w) :
    Calls Tryz.prog 10 #[(slV hb b)] w (Ret fun v w' => ∃ h0, v = .tuple #[slV h0 (putBlobB b), (.int .i64 (putBlobE b))] ∧ Ext w w' ∧ OwnS w.heap.size 5 1 encB h0 (putBlobB b) w') := by
 refine calls_W Tryz.func10 rfl Tryz.ntmps10 rfl ?_
 have H0 := Ctx.start w nob
 have H1 := H0.addSl _ Sb (fun b hb => ⟨hb, fun _ ho => (nomatch ho)⟩)
 have LSb := Sb.len
 refine W_seq (W_reg ?_)
 refine O_v rfl (R_assign (v := (.slice none 0 0)) rfl ?_)
 refine O_v rfl (R_assign (v := (.int .i64 0)) rfl ?_)
 refine O_nil (Then_n (W_seq (W_seq (W_reg ?_))))
 refine O_v rfl (R_move (v := (slV hb b)) rfl ?_)
 refine O_v rfl (R_len_slice (a := hb.a) (n := b.length) (c := hb.c) Tryz.underlying22 rfl ?_)
 refine O_v rfl (R_cmp (a := ((b.length : Nat) : Int)) (b := 4096) (r := (decide (4096 < ((b.length : Nat) : Int)))) rfl rfl rfl ?_)
 refine O_nil (Then_n ?_)
 refine W_cond (t := (decide (4096 < ((b.length : Nat) : Int)))) rfl (fun hc2 => ?_) (fun hc2 => ?_)
 ·have hc2 : (4096 < ((b.length : Nat) : Int)) := (of_decide_eq_true hc2)
  refine W_seq (W_reg ?_)
  refine O_v rfl (R_assign (v := (.slice none 0 0)) rfl ?_)
  refine O_v rfl (R_assign (v := (.int .i64 2)) rfl ?_)
  refine O_nil (Then_n (W_ret (Then_r ?_)))
  refine ret_2 (v := (.slice none 0 0)) (v' := (.int .i64 2)) Tryz.results10 rfl rfl ?_
  have H3 := H1.addNil 5 1 encB
  have hE : [] = putBlobB b := (putBlob_f (by assumption)).1
  have hV : 2 = putBlobE b := (putBlob_f (by assumption)).2
  refine ⟨nilH, ?_, H3.gr, ?_⟩
  · exact two_eq (fun l n => Value.tuple #[slV nilH l, Value.int .i64 n]) hE hV
  · have hO := H3.retRow 0 rfl
    exact hE ▸ hO
 ·have hc2 : ¬ (4096 < ((b.length : Nat) : Int)) := (of_decide_eq_false hc2)
  refine W_skip (Then_n (W_seq (W_reg ?_)))
  refine O_v rfl (C_buildSliceL H1 (enc := encB) (val := byteV) ([1] : List UInt8) Tryz.underlying22 Tryz.sizeOf5 Tryz.zeroValue5 rfl (by decide) (fun _ => rfl) (fun _ => rfl) rfl rfl (by decide) ?_)
  intro b4 w5 hb6 hx7 H8
  refine O_v rfl (R_move (v := (slV hb b)) rfl ?_)
  refine O_v rfl (C_append H8 0 rfl (bytes := 1) (l := ([1] : List UInt8)) (ys := b) Tryz.underlying22 rfl rfl rfl rfl rfl (by decide) rfl rfl (H8.sl 0 rfl) (fun _ => rfl) (fun _ => rfl) (by simp only [List.length_cons, List.length_nil]; omega) (by decide) ?_)
  intro h9 w10 hg11 H12
  refine O_v rfl (R_assign (v := (slV h9 (([1] : List UInt8) ++ b))) rfl ?_)
  refine O_v rfl (R_assign (v := (.int .i64 0)) rfl ?_)
  refine O_nil (Then_n (W_ret ?_))
  refine ret_2 (v := (slV h9 (([1] : List UInt8) ++ b))) (v' := (.int .i64 0)) Tryz.results10 rfl rfl ?_
  have hE : ([1] : List UInt8) ++ b = putBlobB b := (putBlob_t (by assumption)).1
  have hV : 0 = putBlobE b := (putBlob_t (by assumption)).2
  refine ⟨h9, ?_, H12.gr, ?_⟩
  · exact two_eq (fun l n => Value.tuple #[slV h9 l, Value.int .i64 n]) hE hV
  · have hO := H12.retRow 0 rfl
    exact hE ▸ hO

end Go.Proofs.YthjdhfoeckfmbaaGreat
namespace Go.Proofs.YthjdhfoeckfmbaaGreat
open Go
set_option maxRecDepth 100000
set_option linter.unusedVariables false
set_option linter.unusedSimpArgs false
set_option linter.unusedSectionVars false
variable [DD]
theorem enc_Id_c85 : callable Tryz.prog 85 = true := by kernel_rfl
set_option maxHeartbeats 1000000 in
theorem enc_Id (hb : SlH) (b : List UInt8) (id : ID) (w : World) (Sb : Sl (Old w) encB 1 hb b w) (hl : b.length ≤ 70368744177664) :
    Calls Tryz.prog 40 #[(slV hb b), (aggOf (idCh id))] w (Ret fun v w' => ∃ h, v = slV h (b ++ idList id) ∧ Ext w w' ∧ OwnS w.heap.size 5 1 encB h (b ++ idList id) w') := by
 refine calls_W Tryz.func40 rfl Tryz.ntmps40 rfl ?_
 have H0 := Ctx.start w nob
 have H1 := H0.addSl _ Sb (fun b hb => ⟨hb, fun _ ho => (nomatch ho)⟩)
 have LSb := Sb.len
 refine W_seq (W_reg ?_)
 refine O_v rfl (C_box H1 [(idCells id)] rfl ?_)
 intro b2 w3 hb4 hx5 H6
 refine O_v rfl (R_assign (v := (.slice none 0 0)) rfl ?_)
 refine O_nil (Then_n (W_seq ?_))
 refine W_rgdM TryzMixed nob (fun i => if i == 3 then 2 else 0) [(0, .q 2), (2, .q 2), (1, .c 0), (3, .c 2), (4, .q 2)] (by kernel_rfl) ?_
 refine Lx_q (i := 0) rfl rfl _ (fun v7 hv8 => R_move (v := (slV hb b)) rfl ⟨rfl, Gr.refl _ _⟩) ?_
 refine Lx_q (i := 2) rfl rfl _ (fun v9 hv10 => R_slice_arr Tryz.underlying45 Tryz.sizeOf5 rfl (by decide) ⟨rfl, Gr.refl _ _⟩) ?_
 refine Lx_c (i := 1) rfl rfl (fun w11 hw12 => ?_)
 have H13 := H6.ext hw12
 refine (R_callL (vs := [(slV hb b)]) enc_Id_c85 rfl rfl ((Clone_byte hb b w11 (H13.slOld 0 rfl) (by omega)).ret ?_))
 rintro _ w15 ⟨h14, rfl, hx16, ho17⟩
 have H18 := H13.addRow hx16 ho17
 refine ⟨GrF.ofExt hx16, ?_⟩
 refine Lx_c (i := 3) rfl rfl (fun w19 hw20 => ?_)
 have H21 := H18.ext hw20
 refine (C_append H21 0 rfl (bytes := 1) (l := b) (ys := (idList id)) Tryz.underlying22 rfl rfl rfl rfl rfl (by decide) rfl rfl (Sl_box (H21.getOwn 1 rfl)) (fun _ => rfl) (fun _ => rfl) (by rw [idList_len]; omega) (by decide) ?_)
 intro h22 w23 hg24 H25
 refine ⟨Gr.mono (M' := fun _ => True) hg24 (fun _ _ => trivial), ?_⟩
 refine Lx_q (i := 4) rfl rfl _ (fun v26 hv27 => R_assign (v := (slV h22 (b ++ (idList id)))) rfl ⟨rfl, Gr.refl _ _⟩) ?_
 refine Lx_nil (fun w28 hw29 => ?_)
 have H30 := H25.ext hw29
 refine Then_n (W_ret ?_)
 refine ret_1 (v := (slV h22 (b ++ (idList id)))) Tryz.results40 rfl ?_
 exact ⟨h22, rfl, H30.gr, H30.retRow 0 rfl⟩

end Go.Proofs.YthjdhfoeckfmbaaGreat
namespace Go.Proofs.YthjdhfoeckfmbaaGreat
open Go
set_option maxRecDepth 100000
set_option linter.unusedVariables false
set_option linter.unusedSimpArgs false
set_option linter.unusedSectionVars false
variable [DD]
theorem enc_Num_c85 : callable Tryz.prog 85 = true := by kernel_rfl
set_option maxHeartbeats 1000000 in
theorem enc_Num (hb : SlH) (b : List UInt8) (n : Int) (w : World) (Sb : Sl (Old w) encB 1 hb b w) (hl : b.length ≤ 70368744177664) :
    Calls Tryz.prog 39 #[(slV hb b), (.int .i64 n)] w (Ret fun v w' => ∃ h, v = slV h (b ++ numB n) ∧ Ext w w' ∧ OwnS w.heap.size 5 1 encB h (b ++ numB n) w') := by
 refine calls_W Tryz.func39 rfl Tryz.ntmps39 rfl ?_
 have H0 := Ctx.start w nob
 have H1 := H0.addSl _ Sb (fun b hb => ⟨hb, fun _ ho => (nomatch ho)⟩)
 have LSb := Sb.len
 refine W_seq (W_reg ?_)
 refine O_v rfl (R_assign (v := (.slice none 0 0)) rfl ?_)
 refine O_nil (Then_n (W_seq (W_reg ?_)))
 refine O_v rfl (R_move (v := (slV hb b)) rfl ?_)
 refine O_v rfl (R_callL (vs := [(slV hb b)]) enc_Num_c85 rfl rfl ((Clone_byte hb b w (H1.slOld 0 rfl) (by omega)).ret ?_))
 rintro _ w3 ⟨h2, rfl, hx4, ho5⟩
 have H6 := H1.addRow hx4 ho5
 refine O_v rfl (R_assign (v := (slV h2 b)) rfl ?_)
 refine O_nil (Then_n (W_seq (W_reg ?_)))
 refine O_v rfl (R_move (v := (.int .i64 n)) rfl ?_)
 refine O_v rfl (R_max2L (a := n) (b := 0) rfl ?_)
 refine O_v rfl (R_min2L (a := (max n 0)) (b := 4611686018427387904) rfl ?_)
 refine O_v rfl (R_conv_int (a := (min (max n 0) 4611686018427387904)) (r := ((numClamp n : Nat) : Int)) Tryz.underlying2 Tryz.underlying126 rfl (conv_clamp n) ?_)
 refine O_v rfl (R_assign (v := (.int .u64 ((numClamp n : Nat) : Int))) rfl ?_)
 refine O_nil (Then_n (W_seq (W_block ?_)))
 refine W_loop (fun m8 e9 w10 => ∃ (u : Nat), ∃ (acc : List UInt8), ∃ (h7 : SlH), m8 = u + 1 ∧ (acc ++ numGo u = b ++ numB n) ∧ ∃ eb11, e9 = envL [(4, (.slice none 0 0)), (5, (slV h7 acc)), (6, (.int .u64 ((u : Nat) : Int)))] eb11 ∧ Ctx w nob w10 [rowR 5 1 encB h7 acc] [slI (Old w) encB 1 hb b]) _ ⟨(numClamp n), b, h2, rfl, rfl, _, envL_self ⟨rfl, rfl, rfl, trivial⟩, H6⟩ ?_
 rintro m8 _ w10 ⟨u, acc, h7, rfl, ha, eb11, rfl, H12⟩
 refine W_seq (W_seq (W_reg ?_))
 refine O_v rfl (R_move (v := (.int .u64 ((u : Nat) : Int))) rfl ?_)
 refine O_v rfl (R_cmp (a := ((u : Nat) : Int)) (b := 127) (r := (decide (127 < ((u : Nat) : Int)))) rfl rfl rfl ?_)
 refine O_nil (Then_n ?_)
 refine W_cond (t := (decide (127 < ((u : Nat) : Int)))) rfl (fun hc13 => ?_) (fun hc13 => ?_)
 ·have hc13 : (127 < ((u : Nat) : Int)) := (of_decide_eq_true hc13)
  refine W_skip (Then_n (W_block (W_seq (W_reg ?_))))
  refine O_v rfl (R_move (v := (slV h7 acc)) rfl ?_)
  refine O_v rfl (R_move (v := (.int .u64 ((u : Nat) : Int))) rfl ?_)
  refine O_v rfl (R_conv_int (a := ((u : Nat) : Int)) (r := ((UInt8.ofNat u).toNat : Int)) Tryz.underlying126 Tryz.underlying5 rfl (conv_u8 _) ?_)
  refine O_v rfl (R_bits (k := .u8) (a := ((UInt8.ofNat u).toNat : Int)) (b := ((128 : UInt8).toNat : Int)) (r := (((UInt8.ofNat u) ||| (128 : UInt8)).toNat : Int)) rfl rfl (bit_or8 _ _) ?_)
  refine O_v rfl (C_buildSliceL H12 (enc := encB) (val := byteV) ([((UInt8.ofNat u) ||| (128 : UInt8))] : List UInt8) Tryz.underlying22 Tryz.sizeOf5 Tryz.zeroValue5 rfl (by decide) (fun _ => rfl) (fun _ => rfl) rfl rfl (by decide) ?_)
  intro b14 w15 hb16 hx17 H18
  refine O_v rfl (C_append H18 1 rfl (bytes := 1) (l := acc) (ys := ([((UInt8.ofNat u) ||| (128 : UInt8))] : List UInt8)) Tryz.underlying22 rfl rfl rfl rfl rfl (by decide) rfl rfl (OwnS.sl (H18.getOwn 0 rfl) (fun _ => rfl)) (fun _ => rfl) (fun _ => rfl) (by have := num_room ha; simp only [List.length_append, List.length_cons, List.length_nil]; omega) (by decide) ?_)
  intro h19 w20 hg21 H22
  refine O_v rfl (R_assign (v := (slV h19 (acc ++ ([((UInt8.ofNat u) ||| (128 : UInt8))] : List UInt8)))) rfl ?_)
  refine O_nil (Then_n (W_reg ?_))
  refine O_v rfl (R_move (v := (.int .u64 ((u : Nat) : Int))) rfl ?_)
  refine O_v rfl (R_shr (a := ((u : Nat) : Int)) (b := ((7 : Nat) : Int)) (r := ((u / 128 : Nat) : Int)) rfl rfl (by decide) (shr_nat _ _ (by decide)) ?_)
  refine O_v rfl (R_assign (v := (.int .u64 ((u / 128 : Nat) : Int))) rfl ?_)
  refine O_nil (Blk_n (Then_n ?_))
  have H23 := H22.sub (B' := [rowR 5 1 encB h19 (acc ++ ([((UInt8.ofNat u) ||| (128 : UInt8))] : List UInt8))]) (I' := [slI (Old w) encB 1 hb b]) (List.Sublist.cons _ (List.Sublist.cons_cons _ List.Sublist.slnil)) (List.forall_mem_cons.2 ⟨List.mem_of_getElem? (i := 0) rfl, fun _ h => (nomatch h)⟩)
  refine ⟨_, ?_, (u / 128), (acc ++ ([((UInt8.ofNat u) ||| (128 : UInt8))] : List UInt8)), h19, rfl, (num_step ha (by omega)), _, envL_self ⟨rfl, rfl, rfl, trivial⟩, H23⟩
  omega
 ·have hc13 : ¬ (127 < ((u : Nat) : Int)) := (of_decide_eq_false hc13)
  refine W_exit (Then_x (Then_x (Blk_x (Then_n (W_seq (W_reg ?_))))))
  refine O_v rfl (R_move (v := (slV h7 acc)) rfl ?_)
  refine O_v rfl (R_move (v := (.int .u64 ((u : Nat) : Int))) rfl ?_)
  refine O_v rfl (R_conv_int (a := ((u : Nat) : Int)) (r := ((UInt8.ofNat u).toNat : Int)) Tryz.underlying126 Tryz.underlying5 rfl (conv_u8 _) ?_)
  refine O_v rfl (C_buildSliceL H12 (enc := encB) (val := byteV) ([(UInt8.ofNat u)] : List UInt8) Tryz.underlying22 Tryz.sizeOf5 Tryz.zeroValue5 rfl (by decide) (fun _ => rfl) (fun _ => rfl) rfl rfl (by decide) ?_)
  intro b24 w25 hb26 hx27 H28
  refine O_v rfl (C_append H28 1 rfl (bytes := 1) (l := acc) (ys := ([(UInt8.ofNat u)] : List UInt8)) Tryz.underlying22 rfl rfl rfl rfl rfl (by decide) rfl rfl (OwnS.sl (H28.getOwn 0 rfl) (fun _ => rfl)) (fun _ => rfl) (fun _ => rfl) (by have := num_room ha; simp only [List.length_append, List.length_cons, List.length_nil]; omega) (by decide) ?_)
  intro h29 w30 hg31 H32
  refine O_v rfl (R_assign (v := (slV h29 (acc ++ ([(UInt8.ofNat u)] : List UInt8)))) rfl ?_)
  refine O_nil (Then_n (W_ret ?_))
  refine ret_1 (v := (slV h29 (acc ++ ([(UInt8.ofNat u)] : List UInt8)))) Tryz.results39 rfl ?_
  have hE : acc ++ ([(UInt8.ofNat u)] : List UInt8) = b ++ numB n := (num_end ha (by omega))
  refine ⟨h29, ?_, H32.gr, ?_⟩
  · exact congrArg (fun l => slV h29 l) hE
  · have hO := H32.retRow 1 rfl
    exact hE ▸ hO

end Go.Proofs.YthjdhfoeckfmbaaGreat
namespace Go.Proofs.YthjdhfoeckfmbaaGreat
open Go
set_option maxRecDepth 100000
set_option linter.unusedVariables false
set_option linter.unusedSimpArgs false
set_option linter.unusedSectionVars false
variable [DD]
theorem enc_Text_c39 : callable Tryz.prog 39 = true := by kernel_rfl
set_option maxHeartbeats 1000000 in
theorem enc_Text (hb : SlH) (b : List UInt8) (s : ByteArray) (w : World) (Sb : Sl (Old w) encB 1 hb b w) (hl : b.length + s.size ≤ 70368744177664) :
    Calls Tryz.prog 41 #[(slV hb b), (.string s)] w (Ret fun v w' => ∃ h, v = slV h (b ++ textB s) ∧ Ext w w' ∧ OwnS w.heap.size 5 1 encB h (b ++ textB s) w') := by
 refine calls_W Tryz.func41 rfl Tryz.ntmps41 rfl ?_
 have H0 := Ctx.start w nob
 have H1 := H0.addSl _ Sb (fun b hb => ⟨hb, fun _ ho => (nomatch ho)⟩)
 have LSb := Sb.len
 refine W_seq (W_reg ?_)
 refine O_v rfl (R_assign (v := (.slice none 0 0)) rfl ?_)
 refine O_nil (Then_n (W_seq (W_reg ?_)))
 refine O_v rfl (R_move (v := (slV hb b)) rfl ?_)
 refine O_v rfl (R_move (v := (.string s)) rfl ?_)
 refine O_v rfl (R_len_string Tryz.underlying9 rfl ?_)
 refine O_v rfl (R_callL (vs := [(slV hb b), (.int .i64 ((s.size : Nat) : Int))]) enc_Text_c39 rfl rfl ((enc_Num hb b ((s.size : Nat) : Int) w (H1.slOld 0 rfl) (by omega)).ret ?_))
 rintro _ w3 ⟨h2, rfl, hx4, ho5⟩
 have H6 := H1.addRow hx4 ho5
 refine O_v rfl (R_move (v := (.string s)) rfl ?_)
 refine O_v rfl (C_appendS H6 0 rfl (l := (b ++ numB ((s.size : Nat) : Int))) (str := s) Tryz.underlying22 Tryz.underlying9 rfl rfl rfl rfl rfl rfl (by have := numB_len s.size; simp only [List.length_append]; omega) ?_)
 intro h7 w8 hg9 H10
 refine O_v rfl (R_assign (v := (slV h7 ((b ++ numB ((s.size : Nat) : Int)) ++ s.data.toList))) rfl ?_)
 refine O_nil (Then_n (W_ret ?_))
 refine ret_1 (v := (slV h7 ((b ++ numB ((s.size : Nat) : Int)) ++ s.data.toList))) Tryz.results41 rfl ?_
 have hE : (b ++ numB ((s.size : Nat) : Int)) ++ s.data.toList = b ++ textB s := (List.append_assoc _ _ _)
 refine ⟨h7, ?_, H10.gr, ?_⟩
 · exact congrArg (fun l => slV h7 l) hE
 · have hO := H10.retRow 0 rfl
   exact hE ▸ hO

end Go.Proofs.YthjdhfoeckfmbaaGreat
namespace Go.Proofs.YthjdhfoeckfmbaaGreat
open Go
set_option maxRecDepth 100000
set_option linter.unusedVariables false
set_option linter.unusedSimpArgs false
set_option linter.unusedSectionVars false
variable [DD]
theorem stamp_put_c39 : callable Tryz.prog 39 = true := by kernel_rfl
set_option maxHeartbeats 1000000 in
theorem stamp_put (hb : SlH) (b : List UInt8) (s : Stamp) (w : World) (Sb : Sl (Old w) encB 1 hb b w) (hl : b.length ≤ 35184372088832) :
    Calls Tryz.prog 105 #[(slV hb b), (aggOf (stampCh s))] w (Ret fun v w' => ∃ h, v = slV h (b ++ atB s) ∧ Ext w w' ∧ OwnS w.heap.size 5 1 encB h (b ++ atB s) w') := by
 refine calls_W Tryz.func105 rfl Tryz.ntmps105 rfl ?_
 have H0 := Ctx.start w nob
 have H1 := H0.addSl _ Sb (fun b hb => ⟨hb, fun _ ho => (nomatch ho)⟩)
 have LSb := Sb.len
 refine W_seq (W_reg ?_)
 refine O_v rfl (C_box H1 [[(.int .i64 s.T)], [(.int .i64 s.R)]] rfl ?_)
 intro b2 w3 hb4 hx5 H6
 refine O_v rfl (R_assign (v := (.slice none 0 0)) rfl ?_)
 refine O_nil (Then_n (W_seq ?_))
 refine W_rgd TryzMixed [(0, .q 0), (1, .q 0), (2, .q 0), (4, .q 0), (5, .q 0), (3, .c 0), (6, .c 0), (7, .q 0)] (by kernel_rfl) ?_
 refine Lx_q (i := 0) rfl rfl _ (fun v7 hv8 => R_move (v := (slV hb b)) rfl ⟨rfl, Gr.refl _ _⟩) ?_
 refine Lx_q (i := 1) rfl rfl _ (fun v9 hv10 => R_fieldAddr (off := 0) (oo := 0) Tryz.underlying69 rfl rfl Tryz.sizeOf2 rfl rfl ⟨rfl, Gr.refl _ _⟩) ?_
 refine Lx_q (i := 2) rfl rfl _ (fun v11 hv12 => R_load1 (v := (.int .i64 s.T)) Tryz.isAgg2 rfl ((boxR_at ((H6.ext hv12).getOwn 0 rfl)).chunks 0 1 0 0 _ rfl rfl rfl) ⟨rfl, Gr.refl _ _⟩) ?_
 refine Lx_q (i := 4) rfl rfl _ (fun v13 hv14 => R_fieldAddr (off := 1) (oo := 1) Tryz.underlying69 rfl rfl Tryz.sizeOf3 rfl rfl ⟨rfl, Gr.refl _ _⟩) ?_
 refine Lx_q (i := 5) rfl rfl _ (fun v15 hv16 => R_load1 (v := (.int .i64 s.R)) Tryz.isAgg3 rfl ((boxR_at ((H6.ext hv16).getOwn 0 rfl)).chunks 1 1 1 1 _ rfl rfl rfl) ⟨rfl, Gr.refl _ _⟩) ?_
 refine Lx_c (i := 3) rfl rfl (fun w17 hw18 => ?_)
 have H19 := H6.ext hw18
 refine (R_callL (vs := [(slV hb b), (.int .i64 s.T)]) stamp_put_c39 rfl rfl ((enc_Num hb b s.T w17 (H19.slOld 0 rfl) (by omega)).ret ?_))
 rintro _ w21 ⟨h20, rfl, hx22, ho23⟩
 have H24 := H19.addRow hx22 ho23
 refine ⟨GrF.ofExt hx22, ?_⟩
 refine Lx_c (i := 6) rfl rfl (fun w25 hw26 => ?_)
 have H27 := H24.ext hw26
 refine (R_callL (vs := [(slV h20 (b ++ numB s.T)), (.int .i64 s.R)]) stamp_put_c39 rfl rfl ((enc_Num h20 (b ++ numB s.T) s.R w25 (H27.rowSl 0 rfl (fun _ => rfl)) (by have := numB_len s.T; simp only [List.length_append]; omega)).ret ?_))
 rintro _ w29 ⟨h28, rfl, hx30, ho31⟩
 have H32 := H27.addRow hx30 ho31
 refine ⟨GrF.ofExt hx30, ?_⟩
 refine Lx_q (i := 7) rfl rfl _ (fun v33 hv34 => R_assign (v := (slV h28 ((b ++ numB s.T) ++ numB s.R))) rfl ⟨rfl, Gr.refl _ _⟩) ?_
 refine Lx_nil (fun w35 hw36 => ?_)
 have H37 := H32.ext hw36
 refine Then_n (W_ret ?_)
 refine ret_1 (v := (slV h28 ((b ++ numB s.T) ++ numB s.R))) Tryz.results105 rfl ?_
 have hE : (b ++ numB s.T) ++ numB s.R = b ++ atB s := (List.append_assoc _ _ _)
 refine ⟨h28, ?_, H37.gr, ?_⟩
 · exact congrArg (fun l => slV h28 l) hE
 · have hO := H37.retRow 0 rfl
   exact hE ▸ hO

end Go.Proofs.YthjdhfoeckfmbaaGreat
