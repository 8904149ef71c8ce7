/- Proved: for every input, pollardlaw14.DifferRows returns true and leaves its arguments as they were. No condition. -/
import Derived.Test.YtiknfldhommmpaaX5
namespace Go.Proofs.Ytiknfldhommmpaa
open Go
set_option maxRecDepth 100000
set_option linter.unusedVariables false
set_option linter.unusedSimpArgs false
theorem ref04_rightItem_c21 : callable Try.prog 21 = true := by kernel_rfl
theorem ref04_rightItem_c38 : callable Try.prog 38 = true := by kernel_rfl
theorem ref04_rightItem_c39 : callable Try.prog 39 = true := by kernel_rfl
theorem ref04_rightItem_c54 : callable Try.prog 54 = true := by kernel_rfl
set_option maxHeartbeats 1000000 in
theorem ref04_rightItem (x : ItemS) (w : World) (Sx_heads : Sl (Old w) headCh 34 x.hh x.heads w) (hl : x.name.size ≤ 9223372036854775807) :
    Calls Try.prog 40 #[(aggOf (itemCh x))] w (Ret fun v w' => v = (.bool (itemOkS x)) ∧ Ext w w') := by
 refine calls_W Try.func40 rfl Try.ntmps40 rfl ?_
 have H0 := Ctx.start w nob
 have H1 := H0.addSl _ Sx_heads (fun b hb => ⟨hb, fun _ ho => (nomatch ho)⟩)
 have LSx_heads := Sx_heads.len
 refine W_seq (W_reg ?_)
 refine O_v rfl (C_box H1 [[(.int .i64 x.node.T)], [(.int .i64 x.node.R)], [(.int .i64 x.tm.T)], [(.int .i64 x.tm.R)], [(.string x.name)], (idCells x.sub), [(slV x.hh x.heads)]] rfl ?_)
 intro b2 w3 hb4 hx5 H6
 refine O_v rfl (R_assign (v := (.bool false)) rfl ?_)
 refine O_nil (Then_n (W_seq (W_seq ?_)))
 refine W_rg [(0, .q false), (1, .q false), (2, .q false), (3, .q false), (4, .q false), (5, .q false), (6, .q false), (7, .q false), (8, .q false), (9, .q false), (10, .q false), (11, .q false), (12, .q false), (13, .q false), (14, .q false), (15, .q false), (16, .q false), (17, .q false), (18, .q false), (19, .q false), (20, .q false), (21, .q false), (22, .q false), (23, .q false), (24, .q false), (25, .q false), (26, .q false), (27, .q false), (28, .q false), (29, .q false)] (by kernel_rfl) ?_
 refine Lx_q (i := 0) rfl rfl _ (fun v7 hv8 => R_fieldAddr (off := 0) (oo := 0) Try.underlying48 rfl rfl Try.sizeOf24 rfl rfl ⟨rfl, Gr.refl _ _⟩) ?_
 refine Lx_q (i := 1) rfl rfl _ (fun v9 hv10 => R_loadA (cs := [[(.int .i64 x.node.T)], [(.int .i64 x.node.R)]]) Try.isAgg24 Try.sizeOf24 rfl rfl ((boxR_at ((H6.ext hv10).getOwn 0 rfl)).chunks 0 2 0 0 _ rfl rfl rfl) ⟨rfl, Gr.refl _ _⟩) ?_
 refine Lx_q (i := 2) rfl rfl (.bool (stRight x.node)) (fun v11 hv12 => R_callL (vs := [(aggOf (stampCh x.node))]) ref04_rightItem_c38 rfl rfl (ref03_Right x.node v11 )) ?_
 refine Lx_q (i := 3) rfl rfl _ (fun v13 hv14 => R_not rfl ⟨rfl, Gr.refl _ _⟩) ?_
 refine Lx_q (i := 4) rfl rfl _ (fun v15 hv16 => R_move (v := (.bool (!(stRight x.node)))) rfl ⟨rfl, Gr.refl _ _⟩) ?_
 refine Lx_qg (i := 5) true (!(stRight x.node)) rfl rfl rfl rfl rfl (!(!(stRight x.node))) ga_f _ (fun hA v17 hv18 => R_fieldAddr (off := 2) (oo := 2) Try.underlying48 rfl rfl Try.sizeOf24 rfl rfl ⟨rfl, Gr.refl _ _⟩) ?_
 refine Lx_qg (i := 6) true (!(stRight x.node)) rfl rfl rfl rfl rfl (!(!(stRight x.node))) ga_f _ (fun hA v19 hv20 => R_loadA (cs := [[(.int .i64 x.tm.T)], [(.int .i64 x.tm.R)]]) Try.isAgg24 Try.sizeOf24 rfl (gv_t hA) ((boxR_at ((H6.ext hv20).getOwn 0 rfl)).chunks 2 2 2 2 _ rfl rfl rfl) ⟨rfl, Gr.refl _ _⟩) ?_
 refine Lx_qg (i := 7) true (!(stRight x.node)) rfl rfl rfl rfl rfl (!(!(stRight x.node))) ga_f (.bool (stRight x.tm)) (fun hA v21 hv22 => R_callL (vs := [(aggOf (stampCh x.tm))]) ref04_rightItem_c38 rfl (lst1 (gv_t hA)) (ref03_Right x.tm v21 )) ?_
 refine Lx_qg (i := 8) true (!(stRight x.node)) rfl rfl rfl rfl rfl (!(!(stRight x.node))) ga_f _ (fun hA v23 hv24 => R_not (gv_t hA) ⟨rfl, Gr.refl _ _⟩) ?_
 refine Lx_q (i := 9) rfl rfl _ (fun v25 hv26 => R_pick (t := (!(stRight x.node))) (v := (.bool ((!(stRight x.node)) || (!(stRight x.tm))))) rfl pk_or ⟨rfl, Gr.refl _ _⟩) ?_
 refine Lx_q (i := 10) rfl rfl _ (fun v27 hv28 => R_move (v := (.bool ((!(stRight x.node)) || (!(stRight x.tm))))) rfl ⟨rfl, Gr.refl _ _⟩) ?_
 refine Lx_qg (i := 11) true ((!(stRight x.node)) || (!(stRight x.tm))) rfl rfl rfl rfl rfl (!((!(stRight x.node)) || (!(stRight x.tm)))) ga_f _ (fun hA v29 hv30 => R_fieldAddr (off := 2) (oo := 2) Try.underlying48 rfl rfl Try.sizeOf24 rfl rfl ⟨rfl, Gr.refl _ _⟩) ?_
 refine Lx_qg (i := 12) true ((!(stRight x.node)) || (!(stRight x.tm))) rfl rfl rfl rfl rfl (!((!(stRight x.node)) || (!(stRight x.tm)))) ga_f _ (fun hA v31 hv32 => R_loadA (cs := [[(.int .i64 x.tm.T)], [(.int .i64 x.tm.R)]]) Try.isAgg24 Try.sizeOf24 rfl (gv_t hA) ((boxR_at ((H6.ext hv32).getOwn 0 rfl)).chunks 2 2 2 2 _ rfl rfl rfl) ⟨rfl, Gr.refl _ _⟩) ?_
 refine Lx_qg (i := 13) true ((!(stRight x.node)) || (!(stRight x.tm))) rfl rfl rfl rfl rfl (!((!(stRight x.node)) || (!(stRight x.tm)))) ga_f _ (fun hA v33 hv34 => R_fieldAddr (off := 0) (oo := 0) Try.underlying48 rfl rfl Try.sizeOf24 rfl rfl ⟨rfl, Gr.refl _ _⟩) ?_
 refine Lx_qg (i := 14) true ((!(stRight x.node)) || (!(stRight x.tm))) rfl rfl rfl rfl rfl (!((!(stRight x.node)) || (!(stRight x.tm)))) ga_f _ (fun hA v35 hv36 => R_loadA (cs := [[(.int .i64 x.node.T)], [(.int .i64 x.node.R)]]) Try.isAgg24 Try.sizeOf24 rfl (gv_t hA) ((boxR_at ((H6.ext hv36).getOwn 0 rfl)).chunks 0 2 0 0 _ rfl rfl rfl) ⟨rfl, Gr.refl _ _⟩) ?_
 refine Lx_qg (i := 15) true ((!(stRight x.node)) || (!(stRight x.tm))) rfl rfl rfl rfl rfl (!((!(stRight x.node)) || (!(stRight x.tm)))) ga_f (.int .i64 (cmpSt x.tm x.node)) (fun hA v37 hv38 => R_callL (vs := [(aggOf (stampCh x.tm)), (aggOf (stampCh x.node))]) ref04_rightItem_c21 rfl (lst2 (gv_t hA) (gv_t hA)) (ref03_Cmp x.tm x.node v37 )) ?_
 refine Lx_qg (i := 16) true ((!(stRight x.node)) || (!(stRight x.tm))) rfl rfl rfl rfl rfl (!((!(stRight x.node)) || (!(stRight x.tm)))) ga_f _ (fun hA v39 hv40 => R_cmp (a := cmpSt x.tm x.node) (b := 0) (r := (decide (cmpSt x.tm x.node < 0))) (gv_t hA) rfl rfl ⟨rfl, Gr.refl _ _⟩) ?_
 refine Lx_q (i := 17) rfl rfl _ (fun v41 hv42 => R_pick (t := ((!(stRight x.node)) || (!(stRight x.tm)))) (v := (.bool (((!(stRight x.node)) || (!(stRight x.tm))) || (decide (cmpSt x.tm x.node < 0))))) rfl pk_or ⟨rfl, Gr.refl _ _⟩) ?_
 refine Lx_q (i := 18) rfl rfl _ (fun v43 hv44 => R_move (v := (.bool (((!(stRight x.node)) || (!(stRight x.tm))) || (decide (cmpSt x.tm x.node < 0))))) rfl ⟨rfl, Gr.refl _ _⟩) ?_
 refine Lx_qg (i := 19) true (((!(stRight x.node)) || (!(stRight x.tm))) || (decide (cmpSt x.tm x.node < 0))) rfl rfl rfl rfl rfl (!(((!(stRight x.node)) || (!(stRight x.tm))) || (decide (cmpSt x.tm x.node < 0)))) ga_f _ (fun hA v45 hv46 => R_fieldAddr (off := 4) (oo := 4) Try.underlying48 rfl rfl Try.sizeOf9 rfl rfl ⟨rfl, Gr.refl _ _⟩) ?_
 refine Lx_qg (i := 20) true (((!(stRight x.node)) || (!(stRight x.tm))) || (decide (cmpSt x.tm x.node < 0))) rfl rfl rfl rfl rfl (!(((!(stRight x.node)) || (!(stRight x.tm))) || (decide (cmpSt x.tm x.node < 0)))) ga_f _ (fun hA v47 hv48 => R_load1 (v := (.string x.name)) Try.isAgg9 (gv_t hA) ((boxR_at ((H6.ext hv48).getOwn 0 rfl)).chunks 4 1 4 4 _ rfl rfl rfl) ⟨rfl, Gr.refl _ _⟩) ?_
 refine Lx_qg (i := 21) true (((!(stRight x.node)) || (!(stRight x.tm))) || (decide (cmpSt x.tm x.node < 0))) rfl rfl rfl rfl rfl (!(((!(stRight x.node)) || (!(stRight x.tm))) || (decide (cmpSt x.tm x.node < 0)))) ga_f (.bool (nameOk x.name)) (fun hA v49 hv50 => by
      have hP : (((stRight x.node) = true ∧ (stRight x.tm) = true) ∧ ¬ (cmpSt x.tm x.node < 0)) := (And.imp (fun h => (And.imp (fun h => (notF h)) (fun h => (notF h)) (orF h))) (fun h => (of_decide_eq_false h)) (orF (notT hA)))
      exact R_callL (vs := [(.string x.name)]) ref04_rightItem_c39 rfl (lst1 (gv_t hA)) (ref03_Name x.name v49 (by omega))) ?_
 refine Lx_qg (i := 22) true (((!(stRight x.node)) || (!(stRight x.tm))) || (decide (cmpSt x.tm x.node < 0))) rfl rfl rfl rfl rfl (!(((!(stRight x.node)) || (!(stRight x.tm))) || (decide (cmpSt x.tm x.node < 0)))) ga_f _ (fun hA v51 hv52 => R_not (gv_t hA) ⟨rfl, Gr.refl _ _⟩) ?_
 refine Lx_q (i := 23) rfl rfl _ (fun v53 hv54 => R_pick (t := (((!(stRight x.node)) || (!(stRight x.tm))) || (decide (cmpSt x.tm x.node < 0)))) (v := (.bool ((((!(stRight x.node)) || (!(stRight x.tm))) || (decide (cmpSt x.tm x.node < 0))) || (!(nameOk x.name))))) rfl pk_or ⟨rfl, Gr.refl _ _⟩) ?_
 refine Lx_q (i := 24) rfl rfl _ (fun v55 hv56 => R_move (v := (.bool ((((!(stRight x.node)) || (!(stRight x.tm))) || (decide (cmpSt x.tm x.node < 0))) || (!(nameOk x.name))))) rfl ⟨rfl, Gr.refl _ _⟩) ?_
 refine Lx_qg (i := 25) true ((((!(stRight x.node)) || (!(stRight x.tm))) || (decide (cmpSt x.tm x.node < 0))) || (!(nameOk x.name))) rfl rfl rfl rfl rfl (!((((!(stRight x.node)) || (!(stRight x.tm))) || (decide (cmpSt x.tm x.node < 0))) || (!(nameOk x.name)))) ga_f _ (fun hA v57 hv58 => R_fieldAddr (off := 37) (oo := 37) Try.underlying48 rfl rfl Try.sizeOf42 rfl rfl ⟨rfl, Gr.refl _ _⟩) ?_
 refine Lx_qg (i := 26) true ((((!(stRight x.node)) || (!(stRight x.tm))) || (decide (cmpSt x.tm x.node < 0))) || (!(nameOk x.name))) rfl rfl rfl rfl rfl (!((((!(stRight x.node)) || (!(stRight x.tm))) || (decide (cmpSt x.tm x.node < 0))) || (!(nameOk x.name)))) ga_f _ (fun hA v59 hv60 => R_load1 (v := (slV x.hh x.heads)) Try.isAgg42 (gv_t hA) ((boxR_at ((H6.ext hv60).getOwn 0 rfl)).chunks 6 1 37 37 _ rfl rfl rfl) ⟨rfl, Gr.refl _ _⟩) ?_
 refine Lx_qg (i := 27) true ((((!(stRight x.node)) || (!(stRight x.tm))) || (decide (cmpSt x.tm x.node < 0))) || (!(nameOk x.name))) rfl rfl rfl rfl rfl (!((((!(stRight x.node)) || (!(stRight x.tm))) || (decide (cmpSt x.tm x.node < 0))) || (!(nameOk x.name)))) ga_f _ (fun hA v61 hv62 => R_len_slice (a := x.hh.a) (n := x.heads.length) (c := x.hh.c) Try.underlying42 (gv_t hA) ⟨rfl, Gr.refl _ _⟩) ?_
 refine Lx_qg (i := 28) true ((((!(stRight x.node)) || (!(stRight x.tm))) || (decide (cmpSt x.tm x.node < 0))) || (!(nameOk x.name))) rfl rfl rfl rfl rfl (!((((!(stRight x.node)) || (!(stRight x.tm))) || (decide (cmpSt x.tm x.node < 0))) || (!(nameOk x.name)))) ga_f _ (fun hA v63 hv64 => R_cmp (a := ((x.heads.length : Nat) : Int)) (b := 1000) (r := (decide (1000 < ((x.heads.length : Nat) : Int)))) (gv_t hA) rfl rfl ⟨rfl, Gr.refl _ _⟩) ?_
 refine Lx_q (i := 29) rfl rfl _ (fun v65 hv66 => R_pick (t := ((((!(stRight x.node)) || (!(stRight x.tm))) || (decide (cmpSt x.tm x.node < 0))) || (!(nameOk x.name)))) (v := (.bool (((((!(stRight x.node)) || (!(stRight x.tm))) || (decide (cmpSt x.tm x.node < 0))) || (!(nameOk x.name))) || (decide (1000 < ((x.heads.length : Nat) : Int)))))) rfl pk_or ⟨rfl, Gr.refl _ _⟩) ?_
 refine Lx_nil (fun w67 hw68 => ?_)
 have H69 := H6.ext hw68
 refine Then_n ?_
 refine W_cond (t := (((((!(stRight x.node)) || (!(stRight x.tm))) || (decide (cmpSt x.tm x.node < 0))) || (!(nameOk x.name))) || (decide (1000 < ((x.heads.length : Nat) : Int))))) rfl (fun hc70 => ?_) (fun hc70 => ?_)
 ·have hc70 : (((((stRight x.node) = false ∨ (stRight x.tm) = false) ∨ (cmpSt x.tm x.node < 0)) ∨ (nameOk x.name) = false) ∨ (1000 < ((x.heads.length : Nat) : Int))) := (Or.imp (fun h => (Or.imp (fun h => (Or.imp (fun h => (Or.imp (fun h => (notT h)) (fun h => (notT h)) (orT h))) (fun h => (of_decide_eq_true h)) (orT h))) (fun h => (notT h)) (orT h))) (fun h => (of_decide_eq_true h)) (orT hc70))
  refine W_seq (W_reg ?_)
  refine O_v rfl (R_assign (v := (.bool false)) rfl ?_)
  refine O_nil (Then_n (W_ret (Then_r ?_)))
  refine ret_1 (v := (.bool false)) Try.results40 rfl ?_
  exact ⟨(itemOk_f1 (by assumption)), H69.gr⟩
 ·have hc70 : (((((stRight x.node) = true ∧ (stRight x.tm) = true) ∧ ¬ (cmpSt x.tm x.node < 0)) ∧ (nameOk x.name) = true) ∧ ¬ (1000 < ((x.heads.length : Nat) : Int))) := (And.imp (fun h => (And.imp (fun h => (And.imp (fun h => (And.imp (fun h => (notF h)) (fun h => (notF h)) (orF h))) (fun h => (of_decide_eq_false h)) (orF h))) (fun h => (notF h)) (orF h))) (fun h => (of_decide_eq_false h)) (orF hc70))
  refine W_skip (Then_n (W_seq (W_seq (W_reg ?_))))
  refine O_v rfl (R_assign (v := (.int .i64 0)) rfl ?_)
  refine O_nil (Then_n (W_block ?_))
  refine W_loop (fun m71 e72 w73 => ∃ (k : Nat), m71 = x.heads.length - k ∧ (k ≤ x.heads.length) ∧ (∀ i, i < k → itemHeadOk x.node x.heads i) ∧ ∃ eb74, e72 = envL [(1, (.pointer (some ⟨b2, 0, none⟩))), (3, (.int .i64 ((k : Nat) : Int)))] eb74 ∧ Ctx w nob w73 [boxR b2 48 [[(.int .i64 x.node.T)], [(.int .i64 x.node.R)], [(.int .i64 x.tm.T)], [(.int .i64 x.tm.R)], [(.string x.name)], (idCells x.sub), [(slV x.hh x.heads)]]] [slI (Old w) headCh 34 x.hh x.heads]) _ ⟨0, rfl, (by omega), (all_zero _), _, envL_self ⟨rfl, rfl, trivial⟩, H69⟩ ?_
  rintro m71 _ w73 ⟨k, rfl, hk, hn, eb74, rfl, H75⟩
  refine W_seq (W_seq (W_reg ?_))
  refine O_v rfl (R_move (v := (.int .i64 ((k : Nat) : Int))) rfl ?_)
  refine O_v rfl (R_fieldAddr (off := 37) (oo := 37) Try.underlying48 rfl rfl Try.sizeOf42 rfl rfl ?_)
  refine O_v rfl (R_load1 (v := (slV x.hh x.heads)) Try.isAgg42 rfl ((boxR_at (H75.getOwn 0 rfl)).chunks 6 1 37 37 _ rfl rfl rfl) ?_)
  refine O_v rfl (R_len_slice (a := x.hh.a) (n := x.heads.length) (c := x.hh.c) Try.underlying42 rfl ?_)
  refine O_v rfl (R_cmp (a := ((k : Nat) : Int)) (b := ((x.heads.length : Nat) : Int)) (r := (decide (((k : Nat) : Int) < ((x.heads.length : Nat) : Int)))) rfl rfl rfl ?_)
  refine O_nil (Then_n ?_)
  refine W_cond (t := (decide (((k : Nat) : Int) < ((x.heads.length : Nat) : Int)))) rfl (fun hc76 => ?_) (fun hc76 => ?_)
  ·have hc76 : (((k : Nat) : Int) < ((x.heads.length : Nat) : Int)) := (of_decide_eq_true hc76)
   refine W_skip (Then_n (W_seq (W_block (W_seq (W_reg ?_)))))
   refine O_v rfl (R_fieldAddr (off := 37) (oo := 37) Try.underlying48 rfl rfl Try.sizeOf42 rfl rfl ?_)
   refine O_v rfl (R_load1 (v := (slV x.hh x.heads)) Try.isAgg42 rfl ((boxR_at (H75.getOwn 0 rfl)).chunks 6 1 37 37 _ rfl rfl rfl) ?_)
   refine O_v rfl (R_move (v := (.int .i64 ((k : Nat) : Int))) rfl ?_)
   refine O_v rfl (R_index_pure (H75.sl 0 rfl) (n := x.heads.length) rfl (j := ((k : Nat) : Int)) (oo := (x.hh.o + k * 34)) Try.underlying42 Try.sizeOf62 rfl rfl (by omega) (by omega) rfl ?_)
   refine O_v rfl (R_loadA (cs := [[(.int .i64 (((nth x.heads k).tm).T))], [(.int .i64 (((nth x.heads k).tm).R))], (idCells ((nth x.heads k).data))]) Try.isAgg62 Try.sizeOf62 rfl rfl ((Sl.elem (H75.sl 0 rfl) (i := k) (by omega) rfl).chunks 0 3 0 (x.hh.o + k * 34) _ rfl rfl rfl) ?_)
   refine O_v rfl (C_alloc H75 [[(.int .i64 0)], [(.int .i64 0)], (idCells zeroId)] Try.zeroValue62 ?_)
   intro b77 w78 hb79 hx80 H81
   refine O_u (C_storeA H81 0 rfl 0 (sub := [[(.int .i64 (((nth x.heads k).tm).T))], [(.int .i64 (((nth x.heads k).tm).R))], (idCells ((nth x.heads k).data))]) [[(.int .i64 (((nth x.heads k).tm).T))], [(.int .i64 (((nth x.heads k).tm).R))], (idCells ((nth x.heads k).data))] Try.sizeOf62 rfl rfl rfl rfl ⟨[[(.int .i64 0)], [(.int .i64 0)], (idCells zeroId)], [], rfl, rfl, rfl⟩ rfl ?_)
   intro w82 hg83 H84
   refine O_nil (Then_n (W_seq ?_))
   refine W_rgd TryMixed [(0, .q false), (1, .q false), (2, .q false), (3, .q false), (4, .q false), (5, .q false), (6, .q false), (7, .q false), (8, .q false), (9, .q false), (10, .q false), (11, .q false), (12, .q false), (13, .q false), (14, .q false), (15, .q false), (16, .q false), (17, .q false), (18, .q false), (19, .q false), (20, .q false), (21, .q false), (22, .q false), (23, .q false), (24, .q false), (25, .q false), (26, .q false), (27, .q false), (28, .q false), (29, .q false), (30, .q false), (31, .q false), (32, .q false), (33, .q false)] (by kernel_rfl) ?_
   refine Lx_q (i := 0) rfl rfl _ (fun v85 hv86 => R_fieldAddr (off := 0) (oo := 0) Try.underlying62 rfl rfl Try.sizeOf24 rfl rfl ⟨rfl, Gr.refl _ _⟩) ?_
   refine Lx_q (i := 1) rfl rfl _ (fun v87 hv88 => R_loadA (cs := [[(.int .i64 (((nth x.heads k).tm).T))], [(.int .i64 (((nth x.heads k).tm).R))]]) Try.isAgg24 Try.sizeOf24 rfl rfl ((boxR_at ((H84.ext hv88).getOwn 0 rfl)).chunks 0 2 0 0 _ rfl rfl rfl) ⟨rfl, Gr.refl _ _⟩) ?_
   refine Lx_q (i := 2) rfl rfl (.bool (stRight ((nth x.heads k).tm))) (fun v89 hv90 => R_callL (vs := [(aggOf (stampCh ((nth x.heads k).tm)))]) ref04_rightItem_c38 rfl rfl (ref03_Right ((nth x.heads k).tm) v89 )) ?_
   refine Lx_q (i := 3) rfl rfl _ (fun v91 hv92 => R_not rfl ⟨rfl, Gr.refl _ _⟩) ?_
   refine Lx_q (i := 4) rfl rfl _ (fun v93 hv94 => R_move (v := (.bool (!(stRight ((nth x.heads k).tm))))) rfl ⟨rfl, Gr.refl _ _⟩) ?_
   refine Lx_qg (i := 5) true (!(stRight ((nth x.heads k).tm))) rfl rfl rfl rfl rfl (!(!(stRight ((nth x.heads k).tm)))) ga_f _ (fun hA v95 hv96 => R_fieldAddr (off := 0) (oo := 0) Try.underlying62 rfl rfl Try.sizeOf24 rfl rfl ⟨rfl, Gr.refl _ _⟩) ?_
   refine Lx_qg (i := 6) true (!(stRight ((nth x.heads k).tm))) rfl rfl rfl rfl rfl (!(!(stRight ((nth x.heads k).tm)))) ga_f _ (fun hA v97 hv98 => R_loadA (cs := [[(.int .i64 (((nth x.heads k).tm).T))], [(.int .i64 (((nth x.heads k).tm).R))]]) Try.isAgg24 Try.sizeOf24 rfl (gv_t hA) ((boxR_at ((H84.ext hv98).getOwn 0 rfl)).chunks 0 2 0 0 _ rfl rfl rfl) ⟨rfl, Gr.refl _ _⟩) ?_
   refine Lx_qg (i := 7) true (!(stRight ((nth x.heads k).tm))) rfl rfl rfl rfl rfl (!(!(stRight ((nth x.heads k).tm)))) ga_f _ (fun hA v99 hv100 => R_fieldAddr (off := 0) (oo := 0) Try.underlying48 rfl rfl Try.sizeOf24 rfl rfl ⟨rfl, Gr.refl _ _⟩) ?_
   refine Lx_qg (i := 8) true (!(stRight ((nth x.heads k).tm))) rfl rfl rfl rfl rfl (!(!(stRight ((nth x.heads k).tm)))) ga_f _ (fun hA v101 hv102 => R_loadA (cs := [[(.int .i64 x.node.T)], [(.int .i64 x.node.R)]]) Try.isAgg24 Try.sizeOf24 rfl (gv_t hA) ((boxR_at ((H84.ext hv102).getOwn 1 rfl)).chunks 0 2 0 0 _ rfl rfl rfl) ⟨rfl, Gr.refl _ _⟩) ?_
   refine Lx_qg (i := 9) true (!(stRight ((nth x.heads k).tm))) rfl rfl rfl rfl rfl (!(!(stRight ((nth x.heads k).tm)))) ga_f (.int .i64 (cmpSt ((nth x.heads k).tm) x.node)) (fun hA v103 hv104 => R_callL (vs := [(aggOf (stampCh ((nth x.heads k).tm))), (aggOf (stampCh x.node))]) ref04_rightItem_c21 rfl (lst2 (gv_t hA) (gv_t hA)) (ref03_Cmp ((nth x.heads k).tm) x.node v103 )) ?_
   refine Lx_qg (i := 10) true (!(stRight ((nth x.heads k).tm))) rfl rfl rfl rfl rfl (!(!(stRight ((nth x.heads k).tm)))) ga_f _ (fun hA v105 hv106 => R_cmp (a := cmpSt ((nth x.heads k).tm) x.node) (b := 1) (r := (!(decide (cmpSt ((nth x.heads k).tm) x.node = 1)))) (gv_t hA) rfl rfl ⟨rfl, Gr.refl _ _⟩) ?_
   refine Lx_q (i := 11) rfl rfl _ (fun v107 hv108 => R_pick (t := (!(stRight ((nth x.heads k).tm)))) (v := (.bool ((!(stRight ((nth x.heads k).tm))) || (!(decide (cmpSt ((nth x.heads k).tm) x.node = 1)))))) rfl pk_or ⟨rfl, Gr.refl _ _⟩) ?_
   refine Lx_q (i := 12) rfl rfl _ (fun v109 hv110 => R_move (v := (.bool ((!(stRight ((nth x.heads k).tm))) || (!(decide (cmpSt ((nth x.heads k).tm) x.node = 1)))))) rfl ⟨rfl, Gr.refl _ _⟩) ?_
   refine Lx_qg (i := 13) true ((!(stRight ((nth x.heads k).tm))) || (!(decide (cmpSt ((nth x.heads k).tm) x.node = 1)))) rfl rfl rfl rfl rfl (!((!(stRight ((nth x.heads k).tm))) || (!(decide (cmpSt ((nth x.heads k).tm) x.node = 1))))) ga_f _ (fun hA v111 hv112 => R_fieldAddr (off := 2) (oo := 2) Try.underlying62 rfl rfl Try.sizeOf36 rfl rfl ⟨rfl, Gr.refl _ _⟩) ?_
   refine Lx_qg (i := 14) true ((!(stRight ((nth x.heads k).tm))) || (!(decide (cmpSt ((nth x.heads k).tm) x.node = 1)))) rfl rfl rfl rfl rfl (!((!(stRight ((nth x.heads k).tm))) || (!(decide (cmpSt ((nth x.heads k).tm) x.node = 1))))) ga_f _ (fun hA v113 hv114 => R_loadA (cs := [(idCells ((nth x.heads k).data))]) Try.isAgg36 Try.sizeOf36 rfl (gv_t hA) ((boxR_at ((H84.ext hv114).getOwn 0 rfl)).chunks 2 1 2 2 _ rfl rfl rfl) ⟨rfl, Gr.refl _ _⟩) ?_
   refine Lx_qg (i := 15) true ((!(stRight ((nth x.heads k).tm))) || (!(decide (cmpSt ((nth x.heads k).tm) x.node = 1)))) rfl rfl rfl rfl rfl (!((!(stRight ((nth x.heads k).tm))) || (!(decide (cmpSt ((nth x.heads k).tm) x.node = 1))))) ga_f (.bool (decide (((nth x.heads k).data) = zeroId))) (fun hA v115 hv116 => R_callL (vs := [(aggOf (idCh ((nth x.heads k).data)))]) ref04_rightItem_c54 rfl (lst1 (gv_t hA)) (ref04_zero ((nth x.heads k).data) v115 )) ?_
   refine Lx_q (i := 16) rfl rfl _ (fun v117 hv118 => R_pick (t := ((!(stRight ((nth x.heads k).tm))) || (!(decide (cmpSt ((nth x.heads k).tm) x.node = 1))))) (v := (.bool (((!(stRight ((nth x.heads k).tm))) || (!(decide (cmpSt ((nth x.heads k).tm) x.node = 1)))) || (decide (((nth x.heads k).data) = zeroId))))) rfl pk_or ⟨rfl, Gr.refl _ _⟩) ?_
   refine Lx_q (i := 17) rfl rfl _ (fun v119 hv120 => R_move (v := (.bool (((!(stRight ((nth x.heads k).tm))) || (!(decide (cmpSt ((nth x.heads k).tm) x.node = 1)))) || (decide (((nth x.heads k).data) = zeroId))))) rfl ⟨rfl, Gr.refl _ _⟩) ?_
   refine Lx_qg (i := 18) true (((!(stRight ((nth x.heads k).tm))) || (!(decide (cmpSt ((nth x.heads k).tm) x.node = 1)))) || (decide (((nth x.heads k).data) = zeroId))) rfl rfl rfl rfl rfl (!(((!(stRight ((nth x.heads k).tm))) || (!(decide (cmpSt ((nth x.heads k).tm) x.node = 1)))) || (decide (((nth x.heads k).data) = zeroId)))) ga_f _ (fun hA v121 hv122 => R_move (v := (.int .i64 ((k : Nat) : Int))) rfl ⟨rfl, Gr.refl _ _⟩) ?_
   refine Lx_qg (i := 19) true (((!(stRight ((nth x.heads k).tm))) || (!(decide (cmpSt ((nth x.heads k).tm) x.node = 1)))) || (decide (((nth x.heads k).data) = zeroId))) rfl rfl rfl rfl rfl (!(((!(stRight ((nth x.heads k).tm))) || (!(decide (cmpSt ((nth x.heads k).tm) x.node = 1)))) || (decide (((nth x.heads k).data) = zeroId)))) ga_f _ (fun hA v123 hv124 => R_cmp (a := ((k : Nat) : Int)) (b := 0) (r := (decide (0 < ((k : Nat) : Int)))) (gv_t hA) rfl rfl ⟨rfl, Gr.refl _ _⟩) ?_
   refine Lx_qg (i := 20) true (((!(stRight ((nth x.heads k).tm))) || (!(decide (cmpSt ((nth x.heads k).tm) x.node = 1)))) || (decide (((nth x.heads k).data) = zeroId))) rfl rfl rfl rfl rfl (!(((!(stRight ((nth x.heads k).tm))) || (!(decide (cmpSt ((nth x.heads k).tm) x.node = 1)))) || (decide (((nth x.heads k).data) = zeroId)))) ga_f _ (fun hA v125 hv126 => R_move (v := (.bool (decide (0 < ((k : Nat) : Int))))) (gv_t hA) ⟨rfl, Gr.refl _ _⟩) ?_
   refine Lx_qg (i := 21) (!(((!(stRight ((nth x.heads k).tm))) || (!(decide (cmpSt ((nth x.heads k).tm) x.node = 1)))) || (decide (((nth x.heads k).data) = zeroId)))) (decide (0 < ((k : Nat) : Int))) rfl rfl rfl rfl rfl ((!(((!(stRight ((nth x.heads k).tm))) || (!(decide (cmpSt ((nth x.heads k).tm) x.node = 1)))) || (decide (((nth x.heads k).data) = zeroId)))) && (decide (0 < ((k : Nat) : Int)))) gb_t _ (fun hA v127 hv128 => R_fieldAddr (off := 37) (oo := 37) Try.underlying48 rfl rfl Try.sizeOf42 rfl rfl ⟨rfl, Gr.refl _ _⟩) ?_
   refine Lx_qg (i := 22) (!(((!(stRight ((nth x.heads k).tm))) || (!(decide (cmpSt ((nth x.heads k).tm) x.node = 1)))) || (decide (((nth x.heads k).data) = zeroId)))) (decide (0 < ((k : Nat) : Int))) rfl rfl rfl rfl rfl ((!(((!(stRight ((nth x.heads k).tm))) || (!(decide (cmpSt ((nth x.heads k).tm) x.node = 1)))) || (decide (((nth x.heads k).data) = zeroId)))) && (decide (0 < ((k : Nat) : Int)))) gb_t _ (fun hA v129 hv130 => R_load1 (v := (slV x.hh x.heads)) Try.isAgg42 (gv_t hA) ((boxR_at ((H84.ext hv130).getOwn 1 rfl)).chunks 6 1 37 37 _ rfl rfl rfl) ⟨rfl, Gr.refl _ _⟩) ?_
   refine Lx_qg (i := 23) (!(((!(stRight ((nth x.heads k).tm))) || (!(decide (cmpSt ((nth x.heads k).tm) x.node = 1)))) || (decide (((nth x.heads k).data) = zeroId)))) (decide (0 < ((k : Nat) : Int))) rfl rfl rfl rfl rfl ((!(((!(stRight ((nth x.heads k).tm))) || (!(decide (cmpSt ((nth x.heads k).tm) x.node = 1)))) || (decide (((nth x.heads k).data) = zeroId)))) && (decide (0 < ((k : Nat) : Int)))) gb_t _ (fun hA v131 hv132 => R_move (v := (.int .i64 ((k : Nat) : Int))) rfl ⟨rfl, Gr.refl _ _⟩) ?_
   refine Lx_qg (i := 24) (!(((!(stRight ((nth x.heads k).tm))) || (!(decide (cmpSt ((nth x.heads k).tm) x.node = 1)))) || (decide (((nth x.heads k).data) = zeroId)))) (decide (0 < ((k : Nat) : Int))) rfl rfl rfl rfl rfl ((!(((!(stRight ((nth x.heads k).tm))) || (!(decide (cmpSt ((nth x.heads k).tm) x.node = 1)))) || (decide (((nth x.heads k).data) = zeroId)))) && (decide (0 < ((k : Nat) : Int)))) gb_t _ (fun hA v133 hv134 => by
          have hP : ((((stRight ((nth x.heads k).tm)) = true ∧ (cmpSt ((nth x.heads k).tm) x.node = 1)) ∧ ¬ (((nth x.heads k).data) = zeroId)) ∧ (0 < ((k : Nat) : Int))) := (And.imp (fun h => (And.imp (fun h => (And.imp (fun h => (notF h)) (fun h => (of_decide_eq_true (notF h))) (orF h))) (fun h => (of_decide_eq_false h)) (orF (notT h)))) (fun h => (of_decide_eq_true h)) (andT hA))
          exact R_arith (a := ((k : Nat) : Int)) (b := 1) (r0 := ((k : Nat) : Int) - 1) (r := ((k - 1 : Nat) : Int)) (gv_t hA) rfl rfl (wrapP _ (by omega) (by omega)) ⟨rfl, Gr.refl _ _⟩) ?_
   refine Lx_qg (i := 25) (!(((!(stRight ((nth x.heads k).tm))) || (!(decide (cmpSt ((nth x.heads k).tm) x.node = 1)))) || (decide (((nth x.heads k).data) = zeroId)))) (decide (0 < ((k : Nat) : Int))) rfl rfl rfl rfl rfl ((!(((!(stRight ((nth x.heads k).tm))) || (!(decide (cmpSt ((nth x.heads k).tm) x.node = 1)))) || (decide (((nth x.heads k).data) = zeroId)))) && (decide (0 < ((k : Nat) : Int)))) gb_t _ (fun hA v135 hv136 => by
          have hP : ((((stRight ((nth x.heads k).tm)) = true ∧ (cmpSt ((nth x.heads k).tm) x.node = 1)) ∧ ¬ (((nth x.heads k).data) = zeroId)) ∧ (0 < ((k : Nat) : Int))) := (And.imp (fun h => (And.imp (fun h => (And.imp (fun h => (notF h)) (fun h => (of_decide_eq_true (notF h))) (orF h))) (fun h => (of_decide_eq_false h)) (orF (notT h)))) (fun h => (of_decide_eq_true h)) (andT hA))
          exact R_index_pure (H84.sl 0 rfl) (n := x.heads.length) rfl (j := ((k - 1 : Nat) : Int)) (oo := (x.hh.o + (k - 1) * 34)) Try.underlying42 Try.sizeOf62 (gv_t hA) (gv_t hA) (by omega) (by omega) rfl ⟨rfl, Gr.refl _ _⟩) ?_
   refine Lx_qg (i := 26) (!(((!(stRight ((nth x.heads k).tm))) || (!(decide (cmpSt ((nth x.heads k).tm) x.node = 1)))) || (decide (((nth x.heads k).data) = zeroId)))) (decide (0 < ((k : Nat) : Int))) rfl rfl rfl rfl rfl ((!(((!(stRight ((nth x.heads k).tm))) || (!(decide (cmpSt ((nth x.heads k).tm) x.node = 1)))) || (decide (((nth x.heads k).data) = zeroId)))) && (decide (0 < ((k : Nat) : Int)))) gb_t _ (fun hA v137 hv138 => R_fieldAddr (off := 0) (oo := (x.hh.o + (k - 1) * 34)) Try.underlying62 rfl rfl Try.sizeOf24 (gv_t hA) rfl ⟨rfl, Gr.refl _ _⟩) ?_
   refine Lx_qg (i := 27) (!(((!(stRight ((nth x.heads k).tm))) || (!(decide (cmpSt ((nth x.heads k).tm) x.node = 1)))) || (decide (((nth x.heads k).data) = zeroId)))) (decide (0 < ((k : Nat) : Int))) rfl rfl rfl rfl rfl ((!(((!(stRight ((nth x.heads k).tm))) || (!(decide (cmpSt ((nth x.heads k).tm) x.node = 1)))) || (decide (((nth x.heads k).data) = zeroId)))) && (decide (0 < ((k : Nat) : Int)))) gb_t _ (fun hA v139 hv140 => by
          have hP : ((((stRight ((nth x.heads k).tm)) = true ∧ (cmpSt ((nth x.heads k).tm) x.node = 1)) ∧ ¬ (((nth x.heads k).data) = zeroId)) ∧ (0 < ((k : Nat) : Int))) := (And.imp (fun h => (And.imp (fun h => (And.imp (fun h => (notF h)) (fun h => (of_decide_eq_true (notF h))) (orF h))) (fun h => (of_decide_eq_false h)) (orF (notT h)))) (fun h => (of_decide_eq_true h)) (andT hA))
          exact R_loadA (cs := [[(.int .i64 (((nth x.heads (k - 1)).tm).T))], [(.int .i64 (((nth x.heads (k - 1)).tm).R))]]) Try.isAgg24 Try.sizeOf24 rfl (gv_t hA) ((Sl.elem ((H84.ext hv140).sl 0 rfl) (i := (k - 1)) (by omega) rfl).chunks 0 2 0 (x.hh.o + (k - 1) * 34) _ rfl rfl rfl) ⟨rfl, Gr.refl _ _⟩) ?_
   refine Lx_qg (i := 28) (!(((!(stRight ((nth x.heads k).tm))) || (!(decide (cmpSt ((nth x.heads k).tm) x.node = 1)))) || (decide (((nth x.heads k).data) = zeroId)))) (decide (0 < ((k : Nat) : Int))) rfl rfl rfl rfl rfl ((!(((!(stRight ((nth x.heads k).tm))) || (!(decide (cmpSt ((nth x.heads k).tm) x.node = 1)))) || (decide (((nth x.heads k).data) = zeroId)))) && (decide (0 < ((k : Nat) : Int)))) gb_t _ (fun hA v141 hv142 => R_fieldAddr (off := 0) (oo := 0) Try.underlying62 rfl rfl Try.sizeOf24 rfl rfl ⟨rfl, Gr.refl _ _⟩) ?_
   refine Lx_qg (i := 29) (!(((!(stRight ((nth x.heads k).tm))) || (!(decide (cmpSt ((nth x.heads k).tm) x.node = 1)))) || (decide (((nth x.heads k).data) = zeroId)))) (decide (0 < ((k : Nat) : Int))) rfl rfl rfl rfl rfl ((!(((!(stRight ((nth x.heads k).tm))) || (!(decide (cmpSt ((nth x.heads k).tm) x.node = 1)))) || (decide (((nth x.heads k).data) = zeroId)))) && (decide (0 < ((k : Nat) : Int)))) gb_t _ (fun hA v143 hv144 => R_loadA (cs := [[(.int .i64 (((nth x.heads k).tm).T))], [(.int .i64 (((nth x.heads k).tm).R))]]) Try.isAgg24 Try.sizeOf24 rfl (gv_t hA) ((boxR_at ((H84.ext hv144).getOwn 0 rfl)).chunks 0 2 0 0 _ rfl rfl rfl) ⟨rfl, Gr.refl _ _⟩) ?_
   refine Lx_qg (i := 30) (!(((!(stRight ((nth x.heads k).tm))) || (!(decide (cmpSt ((nth x.heads k).tm) x.node = 1)))) || (decide (((nth x.heads k).data) = zeroId)))) (decide (0 < ((k : Nat) : Int))) rfl rfl rfl rfl rfl ((!(((!(stRight ((nth x.heads k).tm))) || (!(decide (cmpSt ((nth x.heads k).tm) x.node = 1)))) || (decide (((nth x.heads k).data) = zeroId)))) && (decide (0 < ((k : Nat) : Int)))) gb_t (.int .i64 (cmpSt ((nth x.heads (k - 1)).tm) ((nth x.heads k).tm))) (fun hA v145 hv146 => R_callL (vs := [(aggOf (stampCh ((nth x.heads (k - 1)).tm))), (aggOf (stampCh ((nth x.heads k).tm)))]) ref04_rightItem_c21 rfl (lst2 (gv_t hA) (gv_t hA)) (ref03_Cmp ((nth x.heads (k - 1)).tm) ((nth x.heads k).tm) v145 )) ?_
   refine Lx_qg (i := 31) (!(((!(stRight ((nth x.heads k).tm))) || (!(decide (cmpSt ((nth x.heads k).tm) x.node = 1)))) || (decide (((nth x.heads k).data) = zeroId)))) (decide (0 < ((k : Nat) : Int))) rfl rfl rfl rfl rfl ((!(((!(stRight ((nth x.heads k).tm))) || (!(decide (cmpSt ((nth x.heads k).tm) x.node = 1)))) || (decide (((nth x.heads k).data) = zeroId)))) && (decide (0 < ((k : Nat) : Int)))) gb_t _ (fun hA v147 hv148 => R_cmp (a := cmpSt ((nth x.heads (k - 1)).tm) ((nth x.heads k).tm)) (b := (-1)) (r := (!(decide (cmpSt ((nth x.heads (k - 1)).tm) ((nth x.heads k).tm) = (-1))))) (gv_t hA) rfl rfl ⟨rfl, Gr.refl _ _⟩) ?_
   refine Lx_qg (i := 32) true (((!(stRight ((nth x.heads k).tm))) || (!(decide (cmpSt ((nth x.heads k).tm) x.node = 1)))) || (decide (((nth x.heads k).data) = zeroId))) rfl rfl rfl rfl rfl (!(((!(stRight ((nth x.heads k).tm))) || (!(decide (cmpSt ((nth x.heads k).tm) x.node = 1)))) || (decide (((nth x.heads k).data) = zeroId)))) ga_f _ (fun hA v149 hv150 => R_pick (t := (decide (0 < ((k : Nat) : Int)))) (v := (.bool ((decide (0 < ((k : Nat) : Int))) && (!(decide (cmpSt ((nth x.heads (k - 1)).tm) ((nth x.heads k).tm) = (-1))))))) (gv_t hA) (pk_andA hA) ⟨rfl, Gr.refl _ _⟩) ?_
   refine Lx_q (i := 33) rfl rfl _ (fun v151 hv152 => R_pick (t := (((!(stRight ((nth x.heads k).tm))) || (!(decide (cmpSt ((nth x.heads k).tm) x.node = 1)))) || (decide (((nth x.heads k).data) = zeroId)))) (v := (.bool ((((!(stRight ((nth x.heads k).tm))) || (!(decide (cmpSt ((nth x.heads k).tm) x.node = 1)))) || (decide (((nth x.heads k).data) = zeroId))) || ((decide (0 < ((k : Nat) : Int))) && (!(decide (cmpSt ((nth x.heads (k - 1)).tm) ((nth x.heads k).tm) = (-1)))))))) rfl pk_or ⟨rfl, Gr.refl _ _⟩) ?_
   refine Lx_nil (fun w153 hw154 => ?_)
   have H155 := H84.ext hw154
   refine Then_n ?_
   refine W_cond (t := ((((!(stRight ((nth x.heads k).tm))) || (!(decide (cmpSt ((nth x.heads k).tm) x.node = 1)))) || (decide (((nth x.heads k).data) = zeroId))) || ((decide (0 < ((k : Nat) : Int))) && (!(decide (cmpSt ((nth x.heads (k - 1)).tm) ((nth x.heads k).tm) = (-1))))))) rfl (fun hc156 => ?_) (fun hc156 => ?_)
   ·have hc156 : ((((stRight ((nth x.heads k).tm)) = false ∨ ¬ (cmpSt ((nth x.heads k).tm) x.node = 1)) ∨ (((nth x.heads k).data) = zeroId)) ∨ ((0 < ((k : Nat) : Int)) ∧ ¬ (cmpSt ((nth x.heads (k - 1)).tm) ((nth x.heads k).tm) = (-1)))) := (Or.imp (fun h => (Or.imp (fun h => (Or.imp (fun h => (notT h)) (fun h => (of_decide_eq_false (notT h))) (orT h))) (fun h => (of_decide_eq_true h)) (orT h))) (fun h => (And.imp (fun h => (of_decide_eq_true h)) (fun h => (of_decide_eq_false (notT h))) (andT h))) (orT hc156))
    refine W_seq (W_reg ?_)
    refine O_v rfl (R_assign (v := (.bool false)) rfl ?_)
    refine O_nil (Then_n (W_ret (Blk_r (Then_r (Then_r (Blk_r (Then_r ?_)))))))
    refine ret_1 (v := (.bool false)) Try.results40 rfl ?_
    exact ⟨(itemOk_f2 (k := k) (by omega) (by assumption)), H155.gr⟩
   ·have hc156 : ((((stRight ((nth x.heads k).tm)) = true ∧ (cmpSt ((nth x.heads k).tm) x.node = 1)) ∧ ¬ (((nth x.heads k).data) = zeroId)) ∧ (¬ (0 < ((k : Nat) : Int)) ∨ (cmpSt ((nth x.heads (k - 1)).tm) ((nth x.heads k).tm) = (-1)))) := (And.imp (fun h => (And.imp (fun h => (And.imp (fun h => (notF h)) (fun h => (of_decide_eq_true (notF h))) (orF h))) (fun h => (of_decide_eq_false h)) (orF h))) (fun h => (Or.imp (fun h => (of_decide_eq_false h)) (fun h => (of_decide_eq_true (notF h))) (andF h))) (orF hc156))
    refine W_skip (Blk_n (Then_n (W_reg ?_)))
    refine O_v rfl (R_move (v := (.int .i64 ((k : Nat) : Int))) rfl ?_)
    refine O_v rfl (R_arith (a := ((k : Nat) : Int)) (b := 1) (r0 := ((k : Nat) : Int) + 1) (r := ((k + 1 : Nat) : Int)) rfl rfl rfl (wrapN _ (by omega)) ?_)
    refine O_v rfl (R_assign (v := (.int .i64 ((k + 1 : Nat) : Int))) rfl ?_)
    refine O_nil (Then_n ?_)
    have H157 := H155.sub (B' := [boxR b2 48 [[(.int .i64 x.node.T)], [(.int .i64 x.node.R)], [(.int .i64 x.tm.T)], [(.int .i64 x.tm.R)], [(.string x.name)], (idCells x.sub), [(slV x.hh x.heads)]]]) (I' := [slI (Old w) headCh 34 x.hh x.heads]) (List.Sublist.cons _ (List.Sublist.cons_cons _ List.Sublist.slnil)) (List.forall_mem_cons.2 ⟨List.mem_of_getElem? (i := 0) rfl, fun _ h => (nomatch h)⟩)
    refine ⟨_, ?_, (k + 1), rfl, (by omega), (all_succ hn (itemHead_t (by assumption))), _, envL_self ⟨rfl, rfl, trivial⟩, H157⟩
    omega
  ·have hc76 : ¬ (((k : Nat) : Int) < ((x.heads.length : Nat) : Int)) := (of_decide_eq_false hc76)
   refine W_exit (Then_x (Then_x (Blk_x (Then_n (W_seq (W_reg ?_))))))
   refine O_v rfl (R_assign (v := (.bool true)) rfl ?_)
   refine O_nil (Then_n (W_ret ?_))
   refine ret_1 (v := (.bool true)) Try.results40 rfl ?_
   exact ⟨(itemOk_t (by assumption) (by rwa [show x.heads.length = k from by omega])), H75.gr⟩

end Go.Proofs.Ytiknfldhommmpaa
namespace Go.Proofs.Ytiknfldhommmpaa
open Go
set_option maxRecDepth 100000
set_option linter.unusedVariables false
set_option linter.unusedSimpArgs false
theorem ref04_RightDir_c21 : callable Try.prog 21 = true := by kernel_rfl
theorem ref04_RightDir_c40 : callable Try.prog 40 = true := by kernel_rfl
set_option maxHeartbeats 1000000 in
theorem ref04_RightDir (hitems : SlH) (items : List ItemS) (w : World) (Sitems : Sl (Old w) itemCh 38 hitems items w) (Ditems_heads : ∀ x ∈ items, Sl (Old w) headCh 34 x.hh x.heads w) (hl : ∀ x ∈ items, x.name.size ≤ 9223372036854775807) :
    Calls Try.prog 18 #[(slV hitems items)] w (Ret fun v w' => v = (.bool (dirOk items)) ∧ Ext w w') := by
 refine calls_W Try.func18 rfl Try.ntmps18 rfl ?_
 have H0 := Ctx.start w nob
 have H1 := H0.addSl _ Sitems (fun b hb => ⟨hb, fun _ ho => (nomatch ho)⟩)
 have LSitems := Sitems.len
 have H2 := H1.addImm' (deepI (Old w) headCh 34 (fun x : ItemS => x.hh) (fun x : ItemS => x.heads) items) Ditems_heads (fun b hb => ⟨hb, fun _ ho => (nomatch ho)⟩)
 refine W_seq (W_reg ?_)
 refine O_v rfl (R_assign (v := (.bool false)) rfl ?_)
 refine O_nil (Then_n (W_seq (W_seq (W_reg ?_))))
 refine O_v rfl (R_assign (v := (.int .i64 0)) rfl ?_)
 refine O_nil (Then_n (W_block ?_))
 refine W_loop (fun m3 e4 w5 => ∃ (k : Nat), m3 = items.length - k ∧ (k ≤ items.length) ∧ (∀ i, i < k → itemOkS (nth items i) = true ∧ (i = 0 ∨ cmpSt (nth items (i - 1)).node (nth items i).node = -1)) ∧ ∃ eb6, e4 = envL [(0, (slV hitems items)), (3, (.int .i64 ((k : Nat) : Int)))] eb6 ∧ Ctx w nob w5 [] [deepI (Old w) headCh 34 (fun x : ItemS => x.hh) (fun x : ItemS => x.heads) items, slI (Old w) itemCh 38 hitems items]) _ ⟨0, rfl, (by omega), (all_zero _), _, envL_self ⟨rfl, rfl, trivial⟩, H2⟩ ?_
 rintro m3 _ w5 ⟨k, rfl, hk, hn, eb6, rfl, H7⟩
 refine W_seq (W_seq (W_reg ?_))
 refine O_v rfl (R_move (v := (.int .i64 ((k : Nat) : Int))) rfl ?_)
 refine O_v rfl (R_move (v := (slV hitems items)) rfl ?_)
 refine O_v rfl (R_len_slice (a := hitems.a) (n := items.length) (c := hitems.c) Try.underlying50 rfl ?_)
 refine O_v rfl (R_cmp (a := ((k : Nat) : Int)) (b := ((items.length : Nat) : Int)) (r := (decide (((k : Nat) : Int) < ((items.length : Nat) : Int)))) rfl rfl rfl ?_)
 refine O_nil (Then_n ?_)
 refine W_cond (t := (decide (((k : Nat) : Int) < ((items.length : Nat) : Int)))) rfl (fun hc8 => ?_) (fun hc8 => ?_)
 ·have hc8 : (((k : Nat) : Int) < ((items.length : Nat) : Int)) := (of_decide_eq_true hc8)
  refine W_skip (Then_n (W_seq (W_block (W_seq ?_))))
  refine W_rgd TryMixed [(0, .q false), (1, .q false), (2, .q false), (3, .q false), (4, .q false), (5, .q false), (6, .q false), (7, .q false), (8, .q false), (9, .q false), (10, .q false), (11, .q false), (12, .q false), (13, .q false), (14, .q false), (15, .q false), (16, .q false), (17, .q false), (18, .q false), (19, .q false), (20, .q false), (21, .q false), (22, .q false), (23, .q false), (24, .q false)] (by kernel_rfl) ?_
  refine Lx_q (i := 0) rfl rfl _ (fun v9 hv10 => R_move (v := (slV hitems items)) rfl ⟨rfl, Gr.refl _ _⟩) ?_
  refine Lx_q (i := 1) rfl rfl _ (fun v11 hv12 => R_move (v := (.int .i64 ((k : Nat) : Int))) rfl ⟨rfl, Gr.refl _ _⟩) ?_
  refine Lx_q (i := 2) rfl rfl _ (fun v13 hv14 => R_index_pure (H7.sl 1 rfl) (n := items.length) rfl (j := ((k : Nat) : Int)) (oo := (hitems.o + k * 38)) Try.underlying50 Try.sizeOf48 rfl rfl (by omega) (by omega) rfl ⟨rfl, Gr.refl _ _⟩) ?_
  refine Lx_q (i := 3) rfl rfl _ (fun v15 hv16 => R_loadA (cs := [[(.int .i64 (((nth items k).node).T))], [(.int .i64 (((nth items k).node).R))], [(.int .i64 (((nth items k).tm).T))], [(.int .i64 (((nth items k).tm).R))], [(.string ((nth items k).name))], (idCells ((nth items k).sub)), [(slV ((nth items k).hh) ((nth items k).heads))]]) Try.isAgg48 Try.sizeOf48 rfl rfl ((Sl.elem ((H7.ext hv16).sl 1 rfl) (i := k) (by omega) rfl).chunks 0 7 0 (hitems.o + k * 38) _ rfl rfl rfl) ⟨rfl, Gr.refl _ _⟩) ?_
  refine Lx_q (i := 4) rfl rfl (.bool (itemOkS (nth items k))) (fun v17 hv18 => R_callL (vs := [(aggOf (itemCh (nth items k)))]) ref04_RightDir_c40 rfl rfl (ref04_rightItem (nth items k) v17 ((H7.ext hv18).deepOld 0 rfl _ (nth_mem (by omega))) (hl _ (nth_mem (by omega))))) ?_
  refine Lx_q (i := 5) rfl rfl _ (fun v19 hv20 => R_not rfl ⟨rfl, Gr.refl _ _⟩) ?_
  refine Lx_q (i := 6) rfl rfl _ (fun v21 hv22 => R_move (v := (.bool (!(itemOkS (nth items k))))) rfl ⟨rfl, Gr.refl _ _⟩) ?_
  refine Lx_qg (i := 7) true (!(itemOkS (nth items k))) rfl rfl rfl rfl rfl (!(!(itemOkS (nth items k)))) ga_f _ (fun hA v23 hv24 => R_move (v := (.int .i64 ((k : Nat) : Int))) rfl ⟨rfl, Gr.refl _ _⟩) ?_
  refine Lx_qg (i := 8) true (!(itemOkS (nth items k))) rfl rfl rfl rfl rfl (!(!(itemOkS (nth items k)))) ga_f _ (fun hA v25 hv26 => R_cmp (a := ((k : Nat) : Int)) (b := 0) (r := (decide (0 < ((k : Nat) : Int)))) (gv_t hA) rfl rfl ⟨rfl, Gr.refl _ _⟩) ?_
  refine Lx_qg (i := 9) true (!(itemOkS (nth items k))) rfl rfl rfl rfl rfl (!(!(itemOkS (nth items k)))) ga_f _ (fun hA v27 hv28 => R_move (v := (.bool (decide (0 < ((k : Nat) : Int))))) (gv_t hA) ⟨rfl, Gr.refl _ _⟩) ?_
  refine Lx_qg (i := 10) (!(!(itemOkS (nth items k)))) (decide (0 < ((k : Nat) : Int))) rfl rfl rfl rfl rfl ((!(!(itemOkS (nth items k)))) && (decide (0 < ((k : Nat) : Int)))) gb_t _ (fun hA v29 hv30 => R_move (v := (slV hitems items)) rfl ⟨rfl, Gr.refl _ _⟩) ?_
  refine Lx_qg (i := 11) (!(!(itemOkS (nth items k)))) (decide (0 < ((k : Nat) : Int))) rfl rfl rfl rfl rfl ((!(!(itemOkS (nth items k)))) && (decide (0 < ((k : Nat) : Int)))) gb_t _ (fun hA v31 hv32 => R_move (v := (.int .i64 ((k : Nat) : Int))) rfl ⟨rfl, Gr.refl _ _⟩) ?_
  refine Lx_qg (i := 12) (!(!(itemOkS (nth items k)))) (decide (0 < ((k : Nat) : Int))) rfl rfl rfl rfl rfl ((!(!(itemOkS (nth items k)))) && (decide (0 < ((k : Nat) : Int)))) gb_t _ (fun hA v33 hv34 => by
        have hP : ((itemOkS (nth items k)) = true ∧ (0 < ((k : Nat) : Int))) := (And.imp (fun h => (notF (notT h))) (fun h => (of_decide_eq_true h)) (andT hA))
        exact R_arith (a := ((k : Nat) : Int)) (b := 1) (r0 := ((k : Nat) : Int) - 1) (r := ((k - 1 : Nat) : Int)) (gv_t hA) rfl rfl (wrapP _ (by omega) (by omega)) ⟨rfl, Gr.refl _ _⟩) ?_
  refine Lx_qg (i := 13) (!(!(itemOkS (nth items k)))) (decide (0 < ((k : Nat) : Int))) rfl rfl rfl rfl rfl ((!(!(itemOkS (nth items k)))) && (decide (0 < ((k : Nat) : Int)))) gb_t _ (fun hA v35 hv36 => by
        have hP : ((itemOkS (nth items k)) = true ∧ (0 < ((k : Nat) : Int))) := (And.imp (fun h => (notF (notT h))) (fun h => (of_decide_eq_true h)) (andT hA))
        exact R_index_pure (H7.sl 1 rfl) (n := items.length) rfl (j := ((k - 1 : Nat) : Int)) (oo := (hitems.o + (k - 1) * 38)) Try.underlying50 Try.sizeOf48 (gv_t hA) (gv_t hA) (by omega) (by omega) rfl ⟨rfl, Gr.refl _ _⟩) ?_
  refine Lx_qg (i := 14) (!(!(itemOkS (nth items k)))) (decide (0 < ((k : Nat) : Int))) rfl rfl rfl rfl rfl ((!(!(itemOkS (nth items k)))) && (decide (0 < ((k : Nat) : Int)))) gb_t _ (fun hA v37 hv38 => R_fieldAddr (off := 0) (oo := (hitems.o + (k - 1) * 38)) Try.underlying48 rfl rfl Try.sizeOf24 (gv_t hA) rfl ⟨rfl, Gr.refl _ _⟩) ?_
  refine Lx_qg (i := 15) (!(!(itemOkS (nth items k)))) (decide (0 < ((k : Nat) : Int))) rfl rfl rfl rfl rfl ((!(!(itemOkS (nth items k)))) && (decide (0 < ((k : Nat) : Int)))) gb_t _ (fun hA v39 hv40 => by
        have hP : ((itemOkS (nth items k)) = true ∧ (0 < ((k : Nat) : Int))) := (And.imp (fun h => (notF (notT h))) (fun h => (of_decide_eq_true h)) (andT hA))
        exact R_loadA (cs := [[(.int .i64 (((nth items (k - 1)).node).T))], [(.int .i64 (((nth items (k - 1)).node).R))]]) Try.isAgg24 Try.sizeOf24 rfl (gv_t hA) ((Sl.elem ((H7.ext hv40).sl 1 rfl) (i := (k - 1)) (by omega) rfl).chunks 0 2 0 (hitems.o + (k - 1) * 38) _ rfl rfl rfl) ⟨rfl, Gr.refl _ _⟩) ?_
  refine Lx_qg (i := 16) (!(!(itemOkS (nth items k)))) (decide (0 < ((k : Nat) : Int))) rfl rfl rfl rfl rfl ((!(!(itemOkS (nth items k)))) && (decide (0 < ((k : Nat) : Int)))) gb_t _ (fun hA v41 hv42 => R_move (v := (slV hitems items)) rfl ⟨rfl, Gr.refl _ _⟩) ?_
  refine Lx_qg (i := 17) (!(!(itemOkS (nth items k)))) (decide (0 < ((k : Nat) : Int))) rfl rfl rfl rfl rfl ((!(!(itemOkS (nth items k)))) && (decide (0 < ((k : Nat) : Int)))) gb_t _ (fun hA v43 hv44 => R_move (v := (.int .i64 ((k : Nat) : Int))) rfl ⟨rfl, Gr.refl _ _⟩) ?_
  refine Lx_qg (i := 18) (!(!(itemOkS (nth items k)))) (decide (0 < ((k : Nat) : Int))) rfl rfl rfl rfl rfl ((!(!(itemOkS (nth items k)))) && (decide (0 < ((k : Nat) : Int)))) gb_t _ (fun hA v45 hv46 => by
        have hP : ((itemOkS (nth items k)) = true ∧ (0 < ((k : Nat) : Int))) := (And.imp (fun h => (notF (notT h))) (fun h => (of_decide_eq_true h)) (andT hA))
        exact R_index_pure (H7.sl 1 rfl) (n := items.length) rfl (j := ((k : Nat) : Int)) (oo := (hitems.o + k * 38)) Try.underlying50 Try.sizeOf48 (gv_t hA) (gv_t hA) (by omega) (by omega) rfl ⟨rfl, Gr.refl _ _⟩) ?_
  refine Lx_qg (i := 19) (!(!(itemOkS (nth items k)))) (decide (0 < ((k : Nat) : Int))) rfl rfl rfl rfl rfl ((!(!(itemOkS (nth items k)))) && (decide (0 < ((k : Nat) : Int)))) gb_t _ (fun hA v47 hv48 => R_fieldAddr (off := 0) (oo := (hitems.o + k * 38)) Try.underlying48 rfl rfl Try.sizeOf24 (gv_t hA) rfl ⟨rfl, Gr.refl _ _⟩) ?_
  refine Lx_qg (i := 20) (!(!(itemOkS (nth items k)))) (decide (0 < ((k : Nat) : Int))) rfl rfl rfl rfl rfl ((!(!(itemOkS (nth items k)))) && (decide (0 < ((k : Nat) : Int)))) gb_t _ (fun hA v49 hv50 => by
        have hP : ((itemOkS (nth items k)) = true ∧ (0 < ((k : Nat) : Int))) := (And.imp (fun h => (notF (notT h))) (fun h => (of_decide_eq_true h)) (andT hA))
        exact R_loadA (cs := [[(.int .i64 (((nth items k).node).T))], [(.int .i64 (((nth items k).node).R))]]) Try.isAgg24 Try.sizeOf24 rfl (gv_t hA) ((Sl.elem ((H7.ext hv50).sl 1 rfl) (i := k) (by omega) rfl).chunks 0 2 0 (hitems.o + k * 38) _ rfl rfl rfl) ⟨rfl, Gr.refl _ _⟩) ?_
  refine Lx_qg (i := 21) (!(!(itemOkS (nth items k)))) (decide (0 < ((k : Nat) : Int))) rfl rfl rfl rfl rfl ((!(!(itemOkS (nth items k)))) && (decide (0 < ((k : Nat) : Int)))) gb_t (.int .i64 (cmpSt ((nth items (k - 1)).node) ((nth items k).node))) (fun hA v51 hv52 => R_callL (vs := [(aggOf (stampCh ((nth items (k - 1)).node))), (aggOf (stampCh ((nth items k).node)))]) ref04_RightDir_c21 rfl (lst2 (gv_t hA) (gv_t hA)) (ref03_Cmp ((nth items (k - 1)).node) ((nth items k).node) v51 )) ?_
  refine Lx_qg (i := 22) (!(!(itemOkS (nth items k)))) (decide (0 < ((k : Nat) : Int))) rfl rfl rfl rfl rfl ((!(!(itemOkS (nth items k)))) && (decide (0 < ((k : Nat) : Int)))) gb_t _ (fun hA v53 hv54 => R_cmp (a := cmpSt ((nth items (k - 1)).node) ((nth items k).node)) (b := (-1)) (r := (!(decide (cmpSt ((nth items (k - 1)).node) ((nth items k).node) = (-1))))) (gv_t hA) rfl rfl ⟨rfl, Gr.refl _ _⟩) ?_
  refine Lx_qg (i := 23) true (!(itemOkS (nth items k))) rfl rfl rfl rfl rfl (!(!(itemOkS (nth items k)))) ga_f _ (fun hA v55 hv56 => R_pick (t := (decide (0 < ((k : Nat) : Int)))) (v := (.bool ((decide (0 < ((k : Nat) : Int))) && (!(decide (cmpSt ((nth items (k - 1)).node) ((nth items k).node) = (-1))))))) (gv_t hA) (pk_andA hA) ⟨rfl, Gr.refl _ _⟩) ?_
  refine Lx_q (i := 24) rfl rfl _ (fun v57 hv58 => R_pick (t := (!(itemOkS (nth items k)))) (v := (.bool ((!(itemOkS (nth items k))) || ((decide (0 < ((k : Nat) : Int))) && (!(decide (cmpSt ((nth items (k - 1)).node) ((nth items k).node) = (-1)))))))) rfl pk_or ⟨rfl, Gr.refl _ _⟩) ?_
  refine Lx_nil (fun w59 hw60 => ?_)
  have H61 := H7.ext hw60
  refine Then_n ?_
  refine W_cond (t := ((!(itemOkS (nth items k))) || ((decide (0 < ((k : Nat) : Int))) && (!(decide (cmpSt ((nth items (k - 1)).node) ((nth items k).node) = (-1))))))) rfl (fun hc62 => ?_) (fun hc62 => ?_)
  ·have hc62 : ((itemOkS (nth items k)) = false ∨ ((0 < ((k : Nat) : Int)) ∧ ¬ (cmpSt ((nth items (k - 1)).node) ((nth items k).node) = (-1)))) := (Or.imp (fun h => (notT h)) (fun h => (And.imp (fun h => (of_decide_eq_true h)) (fun h => (of_decide_eq_false (notT h))) (andT h))) (orT hc62))
   refine W_seq (W_reg ?_)
   refine O_v rfl (R_assign (v := (.bool false)) rfl ?_)
   refine O_nil (Then_n (W_ret (Blk_r (Then_r (Then_r (Blk_r (Then_r ?_)))))))
   refine ret_1 (v := (.bool false)) Try.results18 rfl ?_
   exact ⟨(dirOk_f (k := k) (by omega) (by assumption)), H61.gr⟩
  ·have hc62 : ((itemOkS (nth items k)) = true ∧ (¬ (0 < ((k : Nat) : Int)) ∨ (cmpSt ((nth items (k - 1)).node) ((nth items k).node) = (-1)))) := (And.imp (fun h => (notF h)) (fun h => (Or.imp (fun h => (of_decide_eq_false h)) (fun h => (of_decide_eq_true (notF h))) (andF h))) (orF hc62))
   refine W_skip (Blk_n (Then_n (W_reg ?_)))
   refine O_v rfl (R_move (v := (.int .i64 ((k : Nat) : Int))) rfl ?_)
   refine O_v rfl (R_arith (a := ((k : Nat) : Int)) (b := 1) (r0 := ((k : Nat) : Int) + 1) (r := ((k + 1 : Nat) : Int)) rfl rfl rfl (wrapN _ (by omega)) ?_)
   refine O_v rfl (R_assign (v := (.int .i64 ((k + 1 : Nat) : Int))) rfl ?_)
   refine O_nil (Then_n ?_)
   refine ⟨_, ?_, (k + 1), rfl, (by omega), (all_succ hn (dirAt_t (by assumption))), _, envL_self ⟨rfl, rfl, trivial⟩, H61⟩
   omega
 ·have hc8 : ¬ (((k : Nat) : Int) < ((items.length : Nat) : Int)) := (of_decide_eq_false hc8)
  refine W_exit (Then_x (Then_x (Blk_x (Then_n (W_seq (W_reg ?_))))))
  refine O_v rfl (R_move (v := (slV hitems items)) rfl ?_)
  refine O_v rfl (R_len_slice (a := hitems.a) (n := items.length) (c := hitems.c) Try.underlying50 rfl ?_)
  refine O_v rfl (R_cmp (a := ((items.length : Nat) : Int)) (b := 1000) (r := (decide (((items.length : Nat) : Int) ≤ 1000))) rfl rfl rfl ?_)
  refine O_v rfl (R_assign (v := (.bool (decide (((items.length : Nat) : Int) ≤ 1000)))) rfl ?_)
  refine O_nil (Then_n (W_ret ?_))
  refine ret_1 (v := (.bool (decide (((items.length : Nat) : Int) ≤ 1000)))) Try.results18 rfl ?_
  exact ⟨(dirOk_t (by rwa [show items.length = k from by omega])), H7.gr⟩

end Go.Proofs.Ytiknfldhommmpaa
namespace Go.Proofs.Ytiknfldhommmpaa
open Go
set_option maxRecDepth 100000
set_option linter.unusedVariables false
set_option linter.unusedSimpArgs false
set_option maxHeartbeats 1000000 in
theorem ref12_Find (hxs : SlH) (xs : List RowS) (s : Stamp) (w : World) (Sxs : Sl (Old w) rowCh 8 hxs xs w) :
    Calls Try.prog 16 #[(slV hxs xs), (aggOf (stampCh s))] w (Ret fun v w' => v = (.int .i64 (findRow xs s)) ∧ Ext w w') := by
 refine calls_W Try.func16 rfl Try.ntmps16 rfl ?_
 have H0 := Ctx.start w nob
 have H1 := H0.addSl _ Sxs (fun b hb => ⟨hb, fun _ ho => (nomatch ho)⟩)
 have LSxs := Sxs.len
 refine W_seq (W_reg ?_)
 refine O_v rfl (C_box H1 [[(.int .i64 s.T)], [(.int .i64 s.R)]] rfl ?_)
 intro b2 w3 hb4 hx5 H6
 refine O_v rfl (R_assign (v := (.int .i64 0)) rfl ?_)
 refine O_nil (Then_n (W_seq (W_seq (W_reg ?_))))
 refine O_v rfl (R_assign (v := (.int .i64 0)) rfl ?_)
 refine O_nil (Then_n (W_block ?_))
 refine W_loop (fun m7 e8 w9 => ∃ (k : Nat), m7 = xs.length - k ∧ (k ≤ xs.length) ∧ (noneBelow xs (fun x => x.node = s) k) ∧ ∃ eb10, e8 = envL [(0, (slV hxs xs)), (3, (.pointer (some ⟨b2, 0, none⟩))), (5, (.int .i64 ((k : Nat) : Int)))] eb10 ∧ Ctx w nob w9 [boxR b2 24 [[(.int .i64 s.T)], [(.int .i64 s.R)]]] [slI (Old w) rowCh 8 hxs xs]) _ ⟨0, rfl, (by omega), (noneBelow_zero _ _), _, envL_self ⟨rfl, rfl, rfl, trivial⟩, H6⟩ ?_
 rintro m7 _ w9 ⟨k, rfl, hk, hn, eb10, rfl, H11⟩
 refine W_seq (W_seq (W_reg ?_))
 refine O_v rfl (R_move (v := (.int .i64 ((k : Nat) : Int))) rfl ?_)
 refine O_v rfl (R_move (v := (slV hxs xs)) rfl ?_)
 refine O_v rfl (R_len_slice (a := hxs.a) (n := xs.length) (c := hxs.c) Try.underlying22 rfl ?_)
 refine O_v rfl (R_cmp (a := ((k : Nat) : Int)) (b := ((xs.length : Nat) : Int)) (r := (decide (((k : Nat) : Int) < ((xs.length : Nat) : Int)))) rfl rfl rfl ?_)
 refine O_nil (Then_n ?_)
 refine W_cond (t := (decide (((k : Nat) : Int) < ((xs.length : Nat) : Int)))) rfl (fun hc12 => ?_) (fun hc12 => ?_)
 ·have hc12 : (((k : Nat) : Int) < ((xs.length : Nat) : Int)) := (of_decide_eq_true hc12)
  refine W_skip (Then_n (W_seq (W_block (W_seq ?_))))
  refine W_rgd TryMixed [(0, .q false), (1, .q false), (2, .q false), (3, .q false), (4, .q false), (5, .q false), (6, .q false)] (by kernel_rfl) ?_
  refine Lx_q (i := 0) rfl rfl _ (fun v13 hv14 => R_move (v := (slV hxs xs)) rfl ⟨rfl, Gr.refl _ _⟩) ?_
  refine Lx_q (i := 1) rfl rfl _ (fun v15 hv16 => R_move (v := (.int .i64 ((k : Nat) : Int))) rfl ⟨rfl, Gr.refl _ _⟩) ?_
  refine Lx_q (i := 2) rfl rfl _ (fun v17 hv18 => R_index_pure (H11.sl 0 rfl) (n := xs.length) rfl (j := ((k : Nat) : Int)) (oo := (hxs.o + k * 8)) Try.underlying22 Try.sizeOf44 rfl rfl (by omega) (by omega) rfl ⟨rfl, Gr.refl _ _⟩) ?_
  refine Lx_q (i := 3) rfl rfl _ (fun v19 hv20 => R_fieldAddr (off := 0) (oo := (hxs.o + k * 8)) Try.underlying44 rfl rfl Try.sizeOf24 rfl rfl ⟨rfl, Gr.refl _ _⟩) ?_
  refine Lx_q (i := 4) rfl rfl _ (fun v21 hv22 => R_loadA (cs := [[(.int .i64 (((nth xs k).node).T))], [(.int .i64 (((nth xs k).node).R))]]) Try.isAgg24 Try.sizeOf24 rfl rfl ((Sl.elem ((H11.ext hv22).sl 0 rfl) (i := k) (by omega) rfl).chunks 0 2 0 (hxs.o + k * 8) _ rfl rfl rfl) ⟨rfl, Gr.refl _ _⟩) ?_
  refine Lx_q (i := 5) rfl rfl _ (fun v23 hv24 => R_loadA (cs := [[(.int .i64 s.T)], [(.int .i64 s.R)]]) Try.isAgg24 Try.sizeOf24 rfl rfl ((boxR_at ((H11.ext hv24).getOwn 0 rfl)).chunks 0 2 0 0 _ rfl rfl rfl) ⟨rfl, Gr.refl _ _⟩) ?_
  refine Lx_q (i := 6) rfl rfl _ (fun v25 hv26 => R_eqv (a := ((nth xs k).node)) (b := s) eqv_Stamp24 rfl Try.eqGuardType24 rfl rfl ⟨rfl, Gr.refl _ _⟩) ?_
  refine Lx_nil (fun w27 hw28 => ?_)
  have H29 := H11.ext hw28
  refine Then_n ?_
  refine W_cond (t := (decide (((nth xs k).node) = s))) rfl (fun hc30 => ?_) (fun hc30 => ?_)
  ·have hc30 : (((nth xs k).node) = s) := (of_decide_eq_true hc30)
   refine W_seq (W_reg ?_)
   refine O_v rfl (R_move (v := (.int .i64 ((k : Nat) : Int))) rfl ?_)
   refine O_v rfl (R_assign (v := (.int .i64 ((k : Nat) : Int))) rfl ?_)
   refine O_nil (Then_n (W_ret (Blk_r (Then_r (Then_r (Blk_r (Then_r ?_)))))))
   refine ret_1 (v := (.int .i64 ((k : Nat) : Int))) Try.results16 rfl ?_
   exact ⟨(by rw [findRow_at hn (by omega) (by assumption)]), H29.gr⟩
  ·have hc30 : ¬ (((nth xs k).node) = s) := (of_decide_eq_false hc30)
   refine W_skip (Blk_n (Then_n (W_reg ?_)))
   refine O_v rfl (R_move (v := (.int .i64 ((k : Nat) : Int))) rfl ?_)
   refine O_v rfl (R_arith (a := ((k : Nat) : Int)) (b := 1) (r0 := ((k : Nat) : Int) + 1) (r := ((k + 1 : Nat) : Int)) rfl rfl rfl (wrapN _ (by omega)) ?_)
   refine O_v rfl (R_assign (v := (.int .i64 ((k + 1 : Nat) : Int))) rfl ?_)
   refine O_nil (Then_n ?_)
   refine ⟨_, ?_, (k + 1), rfl, (by omega), (noneBelow_succ hn (by assumption)), _, envL_self ⟨rfl, rfl, rfl, trivial⟩, H29⟩
   omega
 ·have hc12 : ¬ (((k : Nat) : Int) < ((xs.length : Nat) : Int)) := (of_decide_eq_false hc12)
  refine W_exit (Then_x (Then_x (Blk_x (Then_n (W_seq (W_reg ?_))))))
  refine O_v rfl (R_assign (v := (.int .i64 (-1))) rfl ?_)
  refine O_nil (Then_n (W_ret ?_))
  refine ret_1 (v := (.int .i64 (-1))) Try.results16 rfl ?_
  exact ⟨(by rw [findRow_none (by rw [show xs.length = k from by omega]; exact hn)]), H11.gr⟩

end Go.Proofs.Ytiknfldhommmpaa
namespace Go.Proofs.Ytiknfldhommmpaa
open Go
set_option maxRecDepth 100000
set_option linter.unusedVariables false
set_option linter.unusedSimpArgs false
theorem ref12_Lies_c16 : callable Try.prog 16 = true := by kernel_rfl
set_option maxHeartbeats 1000000 in
theorem ref12_Lies (hrows : SlH) (rows : List RowS) (node : Stamp) (over : Stamp) (w : World) (Srows : Sl (Old w) rowCh 8 hrows rows w) :
    Calls Try.prog 22 #[(slV hrows rows), (aggOf (stampCh node)), (aggOf (stampCh over))] w (Ret fun v w' => v = (.bool (liesOf rows node over)) ∧ Ext w w') := by
 refine calls_W Try.func22 rfl Try.ntmps22 rfl ?_
 have H0 := Ctx.start w nob
 have H1 := H0.addSl _ Srows (fun b hb => ⟨hb, fun _ ho => (nomatch ho)⟩)
 have LSrows := Srows.len
 refine W_seq (W_reg ?_)
 refine O_v rfl (C_box H1 [[(.int .i64 node.T)], [(.int .i64 node.R)]] rfl ?_)
 intro b2 w3 hb4 hx5 H6
 refine O_v rfl (C_box H6 [[(.int .i64 over.T)], [(.int .i64 over.R)]] rfl ?_)
 intro b7 w8 hb9 hx10 H11
 refine O_v rfl (R_assign (v := (.bool false)) rfl ?_)
 refine O_nil (Then_n (W_seq (W_seq (W_reg ?_))))
 refine O_v rfl (R_assign (v := (.int .i64 0)) rfl ?_)
 refine O_nil (Then_n (W_block ?_))
 refine W_loop (fun m12 e13 w14 => ∃ (k : Nat), ∃ (nd : Stamp), m12 = rows.length - k ∧ (k ≤ rows.length) ∧ (liesGo rows over (rows.length - k) nd = liesOf rows node over) ∧ ∃ eb15, e13 = envL [(0, (slV hrows rows)), (4, (.pointer (some ⟨b2, 0, none⟩))), (5, (.pointer (some ⟨b7, 0, none⟩))), (7, (.int .i64 ((k : Nat) : Int)))] eb15 ∧ Ctx w nob w14 [boxR b7 24 [[(.int .i64 over.T)], [(.int .i64 over.R)]], boxR b2 24 [[(.int .i64 nd.T)], [(.int .i64 nd.R)]]] [slI (Old w) rowCh 8 hrows rows]) _ ⟨0, node, rfl, (by omega), rfl, _, envL_self ⟨rfl, rfl, rfl, rfl, trivial⟩, H11⟩ ?_
 rintro m12 _ w14 ⟨k, nd, rfl, hk, hp, eb15, rfl, H16⟩
 refine W_seq (W_seq (W_reg ?_))
 refine O_v rfl (R_move (v := (.int .i64 ((k : Nat) : Int))) rfl ?_)
 refine O_v rfl (R_move (v := (slV hrows rows)) rfl ?_)
 refine O_v rfl (R_len_slice (a := hrows.a) (n := rows.length) (c := hrows.c) Try.underlying22 rfl ?_)
 refine O_v rfl (R_cmp (a := ((k : Nat) : Int)) (b := ((rows.length : Nat) : Int)) (r := (decide (((k : Nat) : Int) < ((rows.length : Nat) : Int)))) rfl rfl rfl ?_)
 refine O_nil (Then_n ?_)
 refine W_cond (t := (decide (((k : Nat) : Int) < ((rows.length : Nat) : Int)))) rfl (fun hc17 => ?_) (fun hc17 => ?_)
 ·have hc17 : (((k : Nat) : Int) < ((rows.length : Nat) : Int)) := (of_decide_eq_true hc17)
  refine W_skip (Then_n (W_seq (W_block (W_seq (W_reg ?_)))))
  refine O_v rfl (R_move (v := (slV hrows rows)) rfl ?_)
  refine O_v rfl (R_loadA (cs := [[(.int .i64 nd.T)], [(.int .i64 nd.R)]]) Try.isAgg24 Try.sizeOf24 rfl rfl ((boxR_at (H16.getOwn 1 rfl)).chunks 0 2 0 0 _ rfl rfl rfl) ?_)
  refine O_v rfl (R_callL (vs := [(slV hrows rows), (aggOf (stampCh nd))]) ref12_Lies_c16 rfl rfl ((ref12_Find hrows rows nd w14 (H16.slOld 0 rfl)).ret ?_))
  rintro _ w18 ⟨rfl, hx19⟩
  have H20 := H16.ext hx19
  refine O_v rfl (R_assign (v := (.int .i64 (findRow rows nd))) rfl ?_)
  refine O_nil (Then_n (W_seq (W_seq ?_)))
  refine W_rg [(0, .q false), (1, .q false), (2, .q false), (3, .q false), (4, .q false), (5, .q false), (6, .q false), (7, .q false), (8, .q false), (9, .q false), (10, .q false), (11, .q false), (12, .q false), (13, .q false), (14, .q false), (15, .q false), (16, .q false)] (by kernel_rfl) ?_
  refine Lx_q (i := 0) rfl rfl _ (fun v21 hv22 => R_move (v := (.int .i64 (findRow rows nd))) rfl ⟨rfl, Gr.refl _ _⟩) ?_
  refine Lx_q (i := 1) rfl rfl _ (fun v23 hv24 => R_cmp (a := findRow rows nd) (b := 0) (r := (decide (findRow rows nd < 0))) rfl rfl rfl ⟨rfl, Gr.refl _ _⟩) ?_
  refine Lx_q (i := 2) rfl rfl _ (fun v25 hv26 => R_move (v := (.bool (decide (findRow rows nd < 0)))) rfl ⟨rfl, Gr.refl _ _⟩) ?_
  refine Lx_qg (i := 3) true (decide (findRow rows nd < 0)) rfl rfl rfl rfl rfl (!(decide (findRow rows nd < 0))) ga_f _ (fun hA v27 hv28 => R_fieldAddr (off := 0) (oo := 0) Try.underlying24 rfl rfl Try.sizeOf2 rfl rfl ⟨rfl, Gr.refl _ _⟩) ?_
  refine Lx_qg (i := 4) true (decide (findRow rows nd < 0)) rfl rfl rfl rfl rfl (!(decide (findRow rows nd < 0))) ga_f _ (fun hA v29 hv30 => R_load1 (v := (.int .i64 nd.T)) Try.isAgg2 (gv_t hA) ((boxR_at ((H20.ext hv30).getOwn 1 rfl)).chunks 0 1 0 0 _ rfl rfl rfl) ⟨rfl, Gr.refl _ _⟩) ?_
  refine Lx_qg (i := 5) true (decide (findRow rows nd < 0)) rfl rfl rfl rfl rfl (!(decide (findRow rows nd < 0))) ga_f _ (fun hA v31 hv32 => R_cmp (a := nd.T) (b := 0) (r := (decide (nd.T = 0))) (gv_t hA) rfl rfl ⟨rfl, Gr.refl _ _⟩) ?_
  refine Lx_qg (i := 6) true (decide (findRow rows nd < 0)) rfl rfl rfl rfl rfl (!(decide (findRow rows nd < 0))) ga_f _ (fun hA v33 hv34 => R_move (v := (.bool (decide (nd.T = 0)))) (gv_t hA) ⟨rfl, Gr.refl _ _⟩) ?_
  refine Lx_qg (i := 7) (!(decide (findRow rows nd < 0))) (decide (nd.T = 0)) rfl rfl rfl rfl rfl ((!(decide (findRow rows nd < 0))) && (decide (nd.T = 0))) gb_t _ (fun hA v35 hv36 => R_fieldAddr (off := 1) (oo := 1) Try.underlying24 rfl rfl Try.sizeOf3 rfl rfl ⟨rfl, Gr.refl _ _⟩) ?_
  refine Lx_qg (i := 8) (!(decide (findRow rows nd < 0))) (decide (nd.T = 0)) rfl rfl rfl rfl rfl ((!(decide (findRow rows nd < 0))) && (decide (nd.T = 0))) gb_t _ (fun hA v37 hv38 => R_load1 (v := (.int .i64 nd.R)) Try.isAgg3 (gv_t hA) ((boxR_at ((H20.ext hv38).getOwn 1 rfl)).chunks 1 1 1 1 _ rfl rfl rfl) ⟨rfl, Gr.refl _ _⟩) ?_
  refine Lx_qg (i := 9) (!(decide (findRow rows nd < 0))) (decide (nd.T = 0)) rfl rfl rfl rfl rfl ((!(decide (findRow rows nd < 0))) && (decide (nd.T = 0))) gb_t _ (fun hA v39 hv40 => R_cmp (a := nd.R) (b := 0) (r := (decide (nd.R = 0))) (gv_t hA) rfl rfl ⟨rfl, Gr.refl _ _⟩) ?_
  refine Lx_qg (i := 10) (!(decide (findRow rows nd < 0))) (decide (nd.T = 0)) rfl rfl rfl rfl rfl ((!(decide (findRow rows nd < 0))) && (decide (nd.T = 0))) gb_t _ (fun hA v41 hv42 => R_move (v := (.bool (decide (nd.R = 0)))) (gv_t hA) ⟨rfl, Gr.refl _ _⟩) ?_
  refine Lx_qg (i := 11) ((!(decide (findRow rows nd < 0))) && (decide (nd.T = 0))) (decide (nd.R = 0)) rfl rfl rfl rfl rfl (((!(decide (findRow rows nd < 0))) && (decide (nd.T = 0))) && (!(decide (nd.R = 0)))) gb_f _ (fun hA v43 hv44 => R_fieldAddr (off := 1) (oo := 1) Try.underlying24 rfl rfl Try.sizeOf3 rfl rfl ⟨rfl, Gr.refl _ _⟩) ?_
  refine Lx_qg (i := 12) ((!(decide (findRow rows nd < 0))) && (decide (nd.T = 0))) (decide (nd.R = 0)) rfl rfl rfl rfl rfl (((!(decide (findRow rows nd < 0))) && (decide (nd.T = 0))) && (!(decide (nd.R = 0)))) gb_f _ (fun hA v45 hv46 => R_load1 (v := (.int .i64 nd.R)) Try.isAgg3 (gv_t hA) ((boxR_at ((H20.ext hv46).getOwn 1 rfl)).chunks 1 1 1 1 _ rfl rfl rfl) ⟨rfl, Gr.refl _ _⟩) ?_
  refine Lx_qg (i := 13) ((!(decide (findRow rows nd < 0))) && (decide (nd.T = 0))) (decide (nd.R = 0)) rfl rfl rfl rfl rfl (((!(decide (findRow rows nd < 0))) && (decide (nd.T = 0))) && (!(decide (nd.R = 0)))) gb_f _ (fun hA v47 hv48 => R_cmp (a := nd.R) (b := 1) (r := (decide (nd.R = 1))) (gv_t hA) rfl rfl ⟨rfl, Gr.refl _ _⟩) ?_
  refine Lx_qg (i := 14) (!(decide (findRow rows nd < 0))) (decide (nd.T = 0)) rfl rfl rfl rfl rfl ((!(decide (findRow rows nd < 0))) && (decide (nd.T = 0))) gb_t _ (fun hA v49 hv50 => R_pick (t := (decide (nd.R = 0))) (v := (.bool ((decide (nd.R = 0)) || (decide (nd.R = 1))))) (gv_t hA) (pk_orA hA) ⟨rfl, Gr.refl _ _⟩) ?_
  refine Lx_qg (i := 15) true (decide (findRow rows nd < 0)) rfl rfl rfl rfl rfl (!(decide (findRow rows nd < 0))) ga_f _ (fun hA v51 hv52 => R_pick (t := (decide (nd.T = 0))) (v := (.bool ((decide (nd.T = 0)) && ((decide (nd.R = 0)) || (decide (nd.R = 1)))))) (gv_t hA) (pk_andA hA) ⟨rfl, Gr.refl _ _⟩) ?_
  refine Lx_q (i := 16) rfl rfl _ (fun v53 hv54 => R_pick (t := (decide (findRow rows nd < 0))) (v := (.bool ((decide (findRow rows nd < 0)) || ((decide (nd.T = 0)) && ((decide (nd.R = 0)) || (decide (nd.R = 1))))))) rfl pk_or ⟨rfl, Gr.refl _ _⟩) ?_
  refine Lx_nil (fun w55 hw56 => ?_)
  have H57 := H20.ext hw56
  refine Then_n ?_
  refine W_cond (t := ((decide (findRow rows nd < 0)) || ((decide (nd.T = 0)) && ((decide (nd.R = 0)) || (decide (nd.R = 1)))))) rfl (fun hc58 => ?_) (fun hc58 => ?_)
  ·have hc58 : ((findRow rows nd < 0) ∨ ((nd.T = 0) ∧ ((nd.R = 0) ∨ (nd.R = 1)))) := (Or.imp (fun h => (of_decide_eq_true h)) (fun h => (And.imp (fun h => (of_decide_eq_true h)) (fun h => (Or.imp (fun h => (of_decide_eq_true h)) (fun h => (of_decide_eq_true h)) (orT h))) (andT h))) (orT hc58))
   refine W_seq (W_reg ?_)
   refine O_v rfl (R_assign (v := (.bool false)) rfl ?_)
   refine O_nil (Then_n (W_ret (Then_r (Blk_r (Then_r (Then_r (Blk_r (Then_r ?_))))))))
   refine ret_1 (v := (.bool false)) Try.results22 rfl ?_
   exact ⟨(by rw [← hp, lies_f (by omega) (by omega)]), H57.gr⟩
  ·have hc58 : (¬ (findRow rows nd < 0) ∧ (¬ (nd.T = 0) ∨ (¬ (nd.R = 0) ∧ ¬ (nd.R = 1)))) := (And.imp (fun h => (of_decide_eq_false h)) (fun h => (Or.imp (fun h => (of_decide_eq_false h)) (fun h => (And.imp (fun h => (of_decide_eq_false h)) (fun h => (of_decide_eq_false h)) (orF h))) (andF h))) (orF hc58))
   refine W_skip (Then_n (W_seq (W_reg ?_)))
   refine O_v rfl (R_move (v := (slV hrows rows)) rfl ?_)
   refine O_v rfl (R_move (v := (.int .i64 (findRow rows nd))) rfl ?_)
   refine O_v rfl (R_index_pure (H57.sl 0 rfl) (n := rows.length) rfl (j := findRow rows nd) (oo := (hrows.o + ((findRow rows nd).toNat) * 8)) Try.underlying22 Try.sizeOf44 rfl rfl (by have := findRow_lt (xs := rows) (s := nd); omega) (by have := findRow_lt (xs := rows) (s := nd); omega) rfl ?_)
   refine O_v rfl (R_fieldAddr (off := 2) (oo := ((hrows.o + ((findRow rows nd).toNat) * 8) + 2)) Try.underlying44 rfl rfl Try.sizeOf24 rfl rfl ?_)
   refine O_v rfl (R_loadA (cs := [[(.int .i64 (((nth rows ((findRow rows nd).toNat)).par).T))], [(.int .i64 (((nth rows ((findRow rows nd).toNat)).par).R))]]) Try.isAgg24 Try.sizeOf24 rfl rfl ((Sl.elem (H57.sl 0 rfl) (i := (findRow rows nd).toNat) (by have := findRow_lt (xs := rows) (s := nd); omega) rfl).chunks 2 2 2 ((hrows.o + ((findRow rows nd).toNat) * 8) + 2) _ rfl rfl rfl) ?_)
   refine O_u (C_storeA H57 1 rfl 0 (sub := [[(.int .i64 (((nth rows ((findRow rows nd).toNat)).par).T))], [(.int .i64 (((nth rows ((findRow rows nd).toNat)).par).R))]]) [[(.int .i64 (((nth rows ((findRow rows nd).toNat)).par).T))], [(.int .i64 (((nth rows ((findRow rows nd).toNat)).par).R))]] Try.sizeOf24 rfl rfl rfl rfl ⟨[[(.int .i64 nd.T)], [(.int .i64 nd.R)]], [], rfl, rfl, rfl⟩ rfl ?_)
   intro w59 hg60 H61
   refine O_nil (Then_n (W_seq (W_reg ?_)))
   refine O_v rfl (R_loadA (cs := [[(.int .i64 (((nth rows ((findRow rows nd).toNat)).par).T))], [(.int .i64 (((nth rows ((findRow rows nd).toNat)).par).R))]]) Try.isAgg24 Try.sizeOf24 rfl rfl ((boxR_at (H61.getOwn 1 rfl)).chunks 0 2 0 0 _ rfl rfl rfl) ?_)
   refine O_v rfl (R_loadA (cs := [[(.int .i64 over.T)], [(.int .i64 over.R)]]) Try.isAgg24 Try.sizeOf24 rfl rfl ((boxR_at (H61.getOwn 0 rfl)).chunks 0 2 0 0 _ rfl rfl rfl) ?_)
   refine O_v rfl (R_eqv (a := ((nth rows ((findRow rows nd).toNat)).par)) (b := over) eqv_Stamp24 rfl Try.eqGuardType24 rfl rfl ?_)
   refine O_nil (Then_n ?_)
   refine W_cond (t := (decide (((nth rows ((findRow rows nd).toNat)).par) = over))) rfl (fun hc62 => ?_) (fun hc62 => ?_)
   ·have hc62 : (((nth rows ((findRow rows nd).toNat)).par) = over) := (of_decide_eq_true hc62)
    refine W_seq (W_reg ?_)
    refine O_v rfl (R_assign (v := (.bool true)) rfl ?_)
    refine O_nil (Then_n (W_ret (Blk_r (Then_r (Then_r (Blk_r (Then_r ?_)))))))
    refine ret_1 (v := (.bool true)) Try.results22 rfl ?_
    exact ⟨(by rw [← hp, lies_t (by omega) (by omega) (by assumption)]), H61.gr⟩
   ·have hc62 : ¬ (((nth rows ((findRow rows nd).toNat)).par) = over) := (of_decide_eq_false hc62)
    refine W_skip (Blk_n (Then_n (W_reg ?_)))
    refine O_v rfl (R_move (v := (.int .i64 ((k : Nat) : Int))) rfl ?_)
    refine O_v rfl (R_arith (a := ((k : Nat) : Int)) (b := 1) (r0 := ((k : Nat) : Int) + 1) (r := ((k + 1 : Nat) : Int)) rfl rfl rfl (wrapN _ (by omega)) ?_)
    refine O_v rfl (R_assign (v := (.int .i64 ((k + 1 : Nat) : Int))) rfl ?_)
    refine O_nil (Then_n ?_)
    refine ⟨_, ?_, (k + 1), ((nth rows (findRow rows nd).toNat).par), rfl, (by omega), (lies_next hp (by omega) (by omega) (by assumption)), _, envL_self ⟨rfl, rfl, rfl, rfl, trivial⟩, H61⟩
    omega
 ·have hc17 : ¬ (((k : Nat) : Int) < ((rows.length : Nat) : Int)) := (of_decide_eq_false hc17)
  refine W_exit (Then_x (Then_x (Blk_x (Then_n (W_seq (W_reg ?_))))))
  refine O_v rfl (R_assign (v := (.bool false)) rfl ?_)
  refine O_nil (Then_n (W_ret ?_))
  refine ret_1 (v := (.bool false)) Try.results22 rfl ?_
  exact ⟨(by rw [← hp, show rows.length - k = 0 from by omega, liesGo]), H16.gr⟩

end Go.Proofs.Ytiknfldhommmpaa
namespace Go.Proofs.Ytiknfldhommmpaa
open Go
set_option maxRecDepth 100000
set_option linter.unusedVariables false
set_option linter.unusedSimpArgs false
set_option maxHeartbeats 1000000 in
theorem ref13_Last  (w : World) :
    Calls Try.prog 20 #[] w (Ret fun v w' => v = (aggOf (stampCh lastSt)) ∧ Ext w w') := by
 refine calls_W Try.func20 rfl Try.ntmps20 rfl ?_
 have H0 := Ctx.start w nob
 refine W_seq (W_reg ?_)
 refine O_v rfl (C_alloc H0 [[(.int .i64 0)], [(.int .i64 0)]] Try.zeroValue24 ?_)
 intro b1 w2 hb3 hx4 H5
 refine O_nil (Then_n (W_seq (W_reg ?_)))
 refine O_v rfl (R_buildL (vs := [(0, (.int .i64 1099511627776)), (1, (.int .i64 65536))]) (v := aggOf [[(.int .i64 1099511627776)], [(.int .i64 65536)]]) rfl (fun _ => by kernel_rfl) ?_)
 refine O_u (C_storeA H5 0 rfl 0 (sub := [[(.int .i64 1099511627776)], [(.int .i64 65536)]]) [[(.int .i64 1099511627776)], [(.int .i64 65536)]] Try.sizeOf24 rfl rfl rfl rfl ⟨[[(.int .i64 0)], [(.int .i64 0)]], [], rfl, rfl, rfl⟩ rfl ?_)
 intro w6 hg7 H8
 refine O_nil (Then_n (W_ret ?_))
 refine ret_c Try.results20 (inMem (cs := [[(.int .i64 1099511627776)], [(.int .i64 65536)]]) rfl Try.isAgg24 Try.sizeOf24 rfl (boxR_at (H8.getOwn 0 rfl))) ?_
 exact ⟨rfl, H8.gr⟩

end Go.Proofs.Ytiknfldhommmpaa
namespace Go.Proofs.Ytiknfldhommmpaa
open Go
set_option maxRecDepth 100000
set_option linter.unusedVariables false
set_option linter.unusedSimpArgs false
set_option maxHeartbeats 1000000 in
theorem ref13_item (r : RowS) (sb : ID) (w : World) (Sr_heads : Sl (Old w) headCh 34 r.hh r.heads w) :
    Calls Try.prog 19 #[(aggOf (rowCh r)), (aggOf (idCh sb))] w (Ret fun v w' => v = (aggOf (itemCh ({ node := r.node, tm := r.tm, name := r.name, sub := sb, heads := r.heads, hh := r.hh } : ItemS))) ∧ Ext w w') := by
 refine calls_W Try.func19 rfl Try.ntmps19 rfl ?_
 have H0 := Ctx.start w nob
 have H1 := H0.addSl _ Sr_heads (fun b hb => ⟨hb, fun _ ho => (nomatch ho)⟩)
 have LSr_heads := Sr_heads.len
 refine W_seq (W_reg ?_)
 refine O_v rfl (C_box H1 [[(.int .i64 r.node.T)], [(.int .i64 r.node.R)], [(.int .i64 r.par.T)], [(.int .i64 r.par.R)], [(.int .i64 r.tm.T)], [(.int .i64 r.tm.R)], [(.string r.name)], [(slV r.hh r.heads)]] rfl ?_)
 intro b2 w3 hb4 hx5 H6
 refine O_v rfl (C_box H6 [(idCells sb)] rfl ?_)
 intro b7 w8 hb9 hx10 H11
 refine O_v rfl (C_alloc H11 [[(.int .i64 0)], [(.int .i64 0)], [(.int .i64 0)], [(.int .i64 0)], [(.string ByteArray.empty)], (idCells zeroId), [(.slice none 0 0)]] Try.zeroValue48 ?_)
 intro b12 w13 hb14 hx15 H16
 refine O_nil (Then_n (W_seq (W_reg ?_)))
 refine O_v rfl (R_fieldAddr (off := 0) (oo := 0) Try.underlying44 rfl rfl Try.sizeOf24 rfl rfl ?_)
 refine O_v rfl (R_loadA (cs := [[(.int .i64 r.node.T)], [(.int .i64 r.node.R)]]) Try.isAgg24 Try.sizeOf24 rfl rfl ((boxR_at (H16.getOwn 2 rfl)).chunks 0 2 0 0 _ rfl rfl rfl) ?_)
 refine O_v rfl (R_fieldAddr (off := 4) (oo := 4) Try.underlying44 rfl rfl Try.sizeOf24 rfl rfl ?_)
 refine O_v rfl (R_loadA (cs := [[(.int .i64 r.tm.T)], [(.int .i64 r.tm.R)]]) Try.isAgg24 Try.sizeOf24 rfl rfl ((boxR_at (H16.getOwn 2 rfl)).chunks 4 2 4 4 _ rfl rfl rfl) ?_)
 refine O_v rfl (R_fieldAddr (off := 6) (oo := 6) Try.underlying44 rfl rfl Try.sizeOf9 rfl rfl ?_)
 refine O_v rfl (R_load1 (v := (.string r.name)) Try.isAgg9 rfl ((boxR_at (H16.getOwn 2 rfl)).chunks 6 1 6 6 _ rfl rfl rfl) ?_)
 refine O_v rfl (R_loadA (cs := [(idCells sb)]) Try.isAgg35 Try.sizeOf35 rfl rfl ((boxR_at (H16.getOwn 1 rfl)).chunks 0 1 0 0 _ rfl rfl rfl) ?_)
 refine O_v rfl (R_fieldAddr (off := 7) (oo := 7) Try.underlying44 rfl rfl Try.sizeOf42 rfl rfl ?_)
 refine O_v rfl (R_load1 (v := (slV r.hh r.heads)) Try.isAgg42 rfl ((boxR_at (H16.getOwn 2 rfl)).chunks 7 1 7 7 _ rfl rfl rfl) ?_)
 refine O_v rfl (R_buildL (vs := [(0, (aggOf (stampCh r.node))), (1, (aggOf (stampCh r.tm))), (2, (.string r.name)), (3, (aggOf (idCh sb))), (4, (slV r.hh r.heads))]) (v := aggOf [[(.int .i64 r.node.T)], [(.int .i64 r.node.R)], [(.int .i64 r.tm.T)], [(.int .i64 r.tm.R)], [(.string r.name)], (idCells sb), [(slV r.hh r.heads)]]) rfl (fun _ => by kernel_rfl) ?_)
 refine O_u (C_storeA H16 0 rfl 0 (sub := [[(.int .i64 r.node.T)], [(.int .i64 r.node.R)], [(.int .i64 r.tm.T)], [(.int .i64 r.tm.R)], [(.string r.name)], (idCells sb), [(slV r.hh r.heads)]]) [[(.int .i64 r.node.T)], [(.int .i64 r.node.R)], [(.int .i64 r.tm.T)], [(.int .i64 r.tm.R)], [(.string r.name)], (idCells sb), [(slV r.hh r.heads)]] Try.sizeOf48 rfl rfl rfl rfl ⟨[[(.int .i64 0)], [(.int .i64 0)], [(.int .i64 0)], [(.int .i64 0)], [(.string ByteArray.empty)], (idCells zeroId), [(.slice none 0 0)]], [], rfl, rfl, rfl⟩ rfl ?_)
 intro w17 hg18 H19
 refine O_nil (Then_n (W_ret ?_))
 refine ret_c Try.results19 (inMem (cs := [[(.int .i64 r.node.T)], [(.int .i64 r.node.R)], [(.int .i64 r.tm.T)], [(.int .i64 r.tm.R)], [(.string r.name)], (idCells sb), [(slV r.hh r.heads)]]) rfl Try.isAgg48 Try.sizeOf48 rfl (boxR_at (H19.getOwn 0 rfl))) ?_
 exact ⟨rfl, H19.gr⟩

end Go.Proofs.Ytiknfldhommmpaa
namespace Go.Proofs.Ytiknfldhommmpaa
open Go
set_option maxRecDepth 100000
set_option linter.unusedVariables false
set_option linter.unusedSimpArgs false
theorem ref13_Right_c18 : callable Try.prog 18 = true := by kernel_rfl
theorem ref13_Right_c19 : callable Try.prog 19 = true := by kernel_rfl
theorem ref13_Right_c20 : callable Try.prog 20 = true := by kernel_rfl
theorem ref13_Right_c21 : callable Try.prog 21 = true := by kernel_rfl
theorem ref13_Right_c22 : callable Try.prog 22 = true := by kernel_rfl
set_option maxHeartbeats 1000000 in
theorem ref13_Right (hrows : SlH) (rows : List RowS) (w : World) (Srows : Sl (Old w) rowCh 8 hrows rows w) (Drows_heads : ∀ x ∈ rows, Sl (Old w) headCh 34 x.hh x.heads w) (hl : ∀ x ∈ rows, x.name.size ≤ 9223372036854775807) :
    Calls Try.prog 6 #[(slV hrows rows)] w (Ret fun v w' => v = (.bool (treeOk rows)) ∧ Ext w w') := by
 refine calls_W Try.func6 rfl Try.ntmps6 rfl ?_
 have H0 := Ctx.start w nob
 have H1 := H0.addSl _ Srows (fun b hb => ⟨hb, fun _ ho => (nomatch ho)⟩)
 have LSrows := Srows.len
 have H2 := H1.addImm' (deepI (Old w) headCh 34 (fun x : RowS => x.hh) (fun x : RowS => x.heads) rows) Drows_heads (fun b hb => ⟨hb, fun _ ho => (nomatch ho)⟩)
 refine W_seq (W_reg ?_)
 refine O_v rfl (R_assign (v := (.bool false)) rfl ?_)
 refine O_nil (Then_n (W_seq (W_seq (W_reg ?_))))
 refine O_v rfl (R_move (v := (slV hrows rows)) rfl ?_)
 refine O_v rfl (R_len_slice (a := hrows.a) (n := rows.length) (c := hrows.c) Try.underlying22 rfl ?_)
 refine O_v rfl (R_cmp (a := ((rows.length : Nat) : Int)) (b := 5000) (r := (decide (5000 < ((rows.length : Nat) : Int)))) rfl rfl rfl ?_)
 refine O_nil (Then_n ?_)
 refine W_cond (t := (decide (5000 < ((rows.length : Nat) : Int)))) rfl (fun hc3 => ?_) (fun hc3 => ?_)
 ·have hc3 : (5000 < ((rows.length : Nat) : Int)) := (of_decide_eq_true hc3)
  refine W_seq (W_reg ?_)
  refine O_v rfl (R_assign (v := (.bool false)) rfl ?_)
  refine O_nil (Then_n (W_ret (Then_r ?_)))
  refine ret_1 (v := (.bool false)) Try.results6 rfl ?_
  exact ⟨(treeOk_f0 (by assumption)), H2.gr⟩
 ·have hc3 : ¬ (5000 < ((rows.length : Nat) : Int)) := (of_decide_eq_false hc3)
  refine W_skip (Then_n (W_seq (W_seq (W_reg ?_))))
  refine O_v rfl (R_assign (v := (.int .i64 0)) rfl ?_)
  refine O_nil (Then_n (W_block ?_))
  refine W_loop (fun m4 e5 w6 => ∃ (k : Nat), m4 = rows.length - k ∧ (k ≤ rows.length) ∧ (∀ i, i < k → rowOkAt rows i) ∧ ∃ eb7, e5 = envL [(0, (slV hrows rows)), (3, (.int .i64 ((k : Nat) : Int)))] eb7 ∧ Ctx w nob w6 [] [deepI (Old w) headCh 34 (fun x : RowS => x.hh) (fun x : RowS => x.heads) rows, slI (Old w) rowCh 8 hrows rows]) _ ⟨0, rfl, (by omega), (all_zero _), _, envL_self ⟨rfl, rfl, trivial⟩, H2⟩ ?_
  rintro m4 _ w6 ⟨k, rfl, hk, hn, eb7, rfl, H8⟩
  refine W_seq (W_seq (W_reg ?_))
  refine O_v rfl (R_move (v := (.int .i64 ((k : Nat) : Int))) rfl ?_)
  refine O_v rfl (R_move (v := (slV hrows rows)) rfl ?_)
  refine O_v rfl (R_len_slice (a := hrows.a) (n := rows.length) (c := hrows.c) Try.underlying22 rfl ?_)
  refine O_v rfl (R_cmp (a := ((k : Nat) : Int)) (b := ((rows.length : Nat) : Int)) (r := (decide (((k : Nat) : Int) < ((rows.length : Nat) : Int)))) rfl rfl rfl ?_)
  refine O_nil (Then_n ?_)
  refine W_cond (t := (decide (((k : Nat) : Int) < ((rows.length : Nat) : Int)))) rfl (fun hc9 => ?_) (fun hc9 => ?_)
  ·have hc9 : (((k : Nat) : Int) < ((rows.length : Nat) : Int)) := (of_decide_eq_true hc9)
   refine W_skip (Then_n (W_seq (W_block (W_seq (W_reg ?_)))))
   refine O_v rfl (R_move (v := (slV hrows rows)) rfl ?_)
   refine O_v rfl (R_move (v := (.int .i64 ((k : Nat) : Int))) rfl ?_)
   refine O_v rfl (R_index_pure (H8.sl 1 rfl) (n := rows.length) rfl (j := ((k : Nat) : Int)) (oo := (hrows.o + k * 8)) Try.underlying22 Try.sizeOf44 rfl rfl (by omega) (by omega) rfl ?_)
   refine O_v rfl (R_loadA (cs := [[(.int .i64 (((nth rows k).node).T))], [(.int .i64 (((nth rows k).node).R))], [(.int .i64 (((nth rows k).par).T))], [(.int .i64 (((nth rows k).par).R))], [(.int .i64 (((nth rows k).tm).T))], [(.int .i64 (((nth rows k).tm).R))], [(.string ((nth rows k).name))], [(slV ((nth rows k).hh) ((nth rows k).heads))]]) Try.isAgg44 Try.sizeOf44 rfl rfl ((Sl.elem (H8.sl 1 rfl) (i := k) (by omega) rfl).chunks 0 8 0 (hrows.o + k * 8) _ rfl rfl rfl) ?_)
   refine O_v rfl (C_alloc H8 [[(.int .i64 0)], [(.int .i64 0)], [(.int .i64 0)], [(.int .i64 0)], [(.int .i64 0)], [(.int .i64 0)], [(.string ByteArray.empty)], [(.slice none 0 0)]] Try.zeroValue44 ?_)
   intro b10 w11 hb12 hx13 H14
   refine O_u (C_storeA H14 0 rfl 0 (sub := [[(.int .i64 (((nth rows k).node).T))], [(.int .i64 (((nth rows k).node).R))], [(.int .i64 (((nth rows k).par).T))], [(.int .i64 (((nth rows k).par).R))], [(.int .i64 (((nth rows k).tm).T))], [(.int .i64 (((nth rows k).tm).R))], [(.string ((nth rows k).name))], [(slV ((nth rows k).hh) ((nth rows k).heads))]]) [[(.int .i64 (((nth rows k).node).T))], [(.int .i64 (((nth rows k).node).R))], [(.int .i64 (((nth rows k).par).T))], [(.int .i64 (((nth rows k).par).R))], [(.int .i64 (((nth rows k).tm).T))], [(.int .i64 (((nth rows k).tm).R))], [(.string ((nth rows k).name))], [(slV ((nth rows k).hh) ((nth rows k).heads))]] Try.sizeOf44 rfl rfl rfl rfl ⟨[[(.int .i64 0)], [(.int .i64 0)], [(.int .i64 0)], [(.int .i64 0)], [(.int .i64 0)], [(.int .i64 0)], [(.string ByteArray.empty)], [(.slice none 0 0)]], [], rfl, rfl, rfl⟩ rfl ?_)
   intro w15 hg16 H17
   refine O_nil (Then_n (W_seq (W_seq ?_)))
   refine W_rgd TryMixed [(0, .q false), (1, .q false), (2, .q false), (3, .c false), (4, .q false), (5, .q false), (6, .q false), (7, .q false), (8, .q false), (9, .q false), (10, .q false), (11, .q false), (12, .q false), (13, .q false), (14, .q false), (15, .q false), (16, .q false), (17, .q false), (18, .q false), (19, .q false), (20, .q false), (21, .q false), (22, .q false), (23, .q false), (24, .q false), (25, .q false), (26, .q false), (27, .q false)] (by kernel_rfl) ?_
   refine Lx_q (i := 0) rfl rfl _ (fun v18 hv19 => R_loadA (cs := [[(.int .i64 (((nth rows k).node).T))], [(.int .i64 (((nth rows k).node).R))], [(.int .i64 (((nth rows k).par).T))], [(.int .i64 (((nth rows k).par).R))], [(.int .i64 (((nth rows k).tm).T))], [(.int .i64 (((nth rows k).tm).R))], [(.string ((nth rows k).name))], [(slV ((nth rows k).hh) ((nth rows k).heads))]]) Try.isAgg44 Try.sizeOf44 rfl rfl ((boxR_at ((H17.ext hv19).getOwn 0 rfl)).chunks 0 8 0 0 _ rfl rfl rfl) ⟨rfl, Gr.refl _ _⟩) ?_
   refine Lx_q (i := 1) rfl rfl _ (fun v20 hv21 => R_buildL (vs := []) (v := aggOf [(idCells zeroId)]) rfl (fun _ => by kernel_rfl) ⟨rfl, Gr.refl _ _⟩) ?_
   refine Lx_q (i := 2) rfl rfl (aggOf (itemCh ({ node := (nth rows k).node, tm := (nth rows k).tm, name := (nth rows k).name, sub := zeroId, heads := (nth rows k).heads, hh := (nth rows k).hh } : ItemS))) (fun v22 hv23 => R_callL (vs := [(aggOf (rowCh (nth rows k))), (aggOf (idCh zeroId))]) ref13_Right_c19 rfl rfl (ref13_item (nth rows k) zeroId v22 ((H17.ext hv23).deepOld 0 rfl _ (nth_mem (by omega))))) ?_
   refine Lx_c (i := 3) rfl rfl (fun w24 hw25 => ?_)
   have H26 := H17.ext hw25
   refine (C_buildSliceL H26 (enc := itemCh) (val := itemV) ([({ node := (nth rows k).node, tm := (nth rows k).tm, name := (nth rows k).name, sub := zeroId, heads := (nth rows k).heads, hh := (nth rows k).hh } : ItemS)] : List ItemS) Try.underlying50 Try.sizeOf48 Try.zeroValue48 rfl (by decide) (fun _ => rfl) (fun _ => rfl) rfl rfl (by decide) ?_)
   intro b27 w28 hb29 hx30 H31
   refine ⟨GrF.ofExt hx30, ?_⟩
   refine Lx_q (i := 4) rfl rfl (.bool (dirOk ([({ node := (nth rows k).node, tm := (nth rows k).tm, name := (nth rows k).name, sub := zeroId, heads := (nth rows k).heads, hh := (nth rows k).hh } : ItemS)] : List ItemS))) (fun v32 hv33 => R_callL (vs := [(slV ⟨some ⟨b27, 0, none⟩, b27, 0, 1⟩ ([({ node := (nth rows k).node, tm := (nth rows k).tm, name := (nth rows k).name, sub := zeroId, heads := (nth rows k).heads, hh := (nth rows k).hh } : ItemS)] : List ItemS))]) ref13_Right_c18 rfl rfl (ref04_RightDir ⟨some ⟨b27, 0, none⟩, b27, 0, 1⟩ ([({ node := (nth rows k).node, tm := (nth rows k).tm, name := (nth rows k).name, sub := zeroId, heads := (nth rows k).heads, hh := (nth rows k).hh } : ItemS)] : List ItemS) v32 ((H31.ext hv33).rowSl 0 rfl (fun _ => rfl)) (deep1 ((H31.ext hv33).deepOld 0 rfl _ (nth_mem (by omega)))) (deep1 (hl _ (nth_mem (by omega)))))) ?_
   refine Lx_q (i := 5) rfl rfl _ (fun v34 hv35 => R_not rfl ⟨rfl, Gr.refl _ _⟩) ?_
   refine Lx_q (i := 6) rfl rfl _ (fun v36 hv37 => R_move (v := (.bool (!(dirOk ([({ node := (nth rows k).node, tm := (nth rows k).tm, name := (nth rows k).name, sub := zeroId, heads := (nth rows k).heads, hh := (nth rows k).hh } : ItemS)] : List ItemS))))) rfl ⟨rfl, Gr.refl _ _⟩) ?_
   refine Lx_qg (i := 7) true (!(dirOk ([({ node := (nth rows k).node, tm := (nth rows k).tm, name := (nth rows k).name, sub := zeroId, heads := (nth rows k).heads, hh := (nth rows k).hh } : ItemS)] : List ItemS))) rfl rfl rfl rfl rfl (!(!(dirOk ([({ node := (nth rows k).node, tm := (nth rows k).tm, name := (nth rows k).name, sub := zeroId, heads := (nth rows k).heads, hh := (nth rows k).hh } : ItemS)] : List ItemS)))) ga_f _ (fun hA v38 hv39 => R_fieldAddr (off := 0) (oo := 0) Try.underlying44 rfl rfl Try.sizeOf24 rfl rfl ⟨rfl, Gr.refl _ _⟩) ?_
   refine Lx_qg (i := 8) true (!(dirOk ([({ node := (nth rows k).node, tm := (nth rows k).tm, name := (nth rows k).name, sub := zeroId, heads := (nth rows k).heads, hh := (nth rows k).hh } : ItemS)] : List ItemS))) rfl rfl rfl rfl rfl (!(!(dirOk ([({ node := (nth rows k).node, tm := (nth rows k).tm, name := (nth rows k).name, sub := zeroId, heads := (nth rows k).heads, hh := (nth rows k).hh } : ItemS)] : List ItemS)))) ga_f _ (fun hA v40 hv41 => R_loadA (cs := [[(.int .i64 (((nth rows k).node).T))], [(.int .i64 (((nth rows k).node).R))]]) Try.isAgg24 Try.sizeOf24 rfl (gv_t hA) ((boxR_at ((H31.ext hv41).getOwn 1 rfl)).chunks 0 2 0 0 _ rfl rfl rfl) ⟨rfl, Gr.refl _ _⟩) ?_
   refine Lx_qg (i := 9) true (!(dirOk ([({ node := (nth rows k).node, tm := (nth rows k).tm, name := (nth rows k).name, sub := zeroId, heads := (nth rows k).heads, hh := (nth rows k).hh } : ItemS)] : List ItemS))) rfl rfl rfl rfl rfl (!(!(dirOk ([({ node := (nth rows k).node, tm := (nth rows k).tm, name := (nth rows k).name, sub := zeroId, heads := (nth rows k).heads, hh := (nth rows k).hh } : ItemS)] : List ItemS)))) ga_f (aggOf (stampCh lastSt)) (fun hA v42 hv43 => R_callL (vs := []) ref13_Right_c20 rfl rfl (ref13_Last  v42 )) ?_
   refine Lx_qg (i := 10) true (!(dirOk ([({ node := (nth rows k).node, tm := (nth rows k).tm, name := (nth rows k).name, sub := zeroId, heads := (nth rows k).heads, hh := (nth rows k).hh } : ItemS)] : List ItemS))) rfl rfl rfl rfl rfl (!(!(dirOk ([({ node := (nth rows k).node, tm := (nth rows k).tm, name := (nth rows k).name, sub := zeroId, heads := (nth rows k).heads, hh := (nth rows k).hh } : ItemS)] : List ItemS)))) ga_f _ (fun hA v44 hv45 => R_eqv (a := ((nth rows k).node)) (b := lastSt) eqv_Stamp24 rfl Try.eqGuardType24 (gv_t hA) (gv_t hA) ⟨rfl, Gr.refl _ _⟩) ?_
   refine Lx_q (i := 11) rfl rfl _ (fun v46 hv47 => R_pick (t := (!(dirOk ([({ node := (nth rows k).node, tm := (nth rows k).tm, name := (nth rows k).name, sub := zeroId, heads := (nth rows k).heads, hh := (nth rows k).hh } : ItemS)] : List ItemS)))) (v := (.bool ((!(dirOk ([({ node := (nth rows k).node, tm := (nth rows k).tm, name := (nth rows k).name, sub := zeroId, heads := (nth rows k).heads, hh := (nth rows k).hh } : ItemS)] : List ItemS))) || (decide (((nth rows k).node) = lastSt))))) rfl pk_or ⟨rfl, Gr.refl _ _⟩) ?_
   refine Lx_q (i := 12) rfl rfl _ (fun v48 hv49 => R_move (v := (.bool ((!(dirOk ([({ node := (nth rows k).node, tm := (nth rows k).tm, name := (nth rows k).name, sub := zeroId, heads := (nth rows k).heads, hh := (nth rows k).hh } : ItemS)] : List ItemS))) || (decide (((nth rows k).node) = lastSt))))) rfl ⟨rfl, Gr.refl _ _⟩) ?_
   refine Lx_qg (i := 13) true ((!(dirOk ([({ node := (nth rows k).node, tm := (nth rows k).tm, name := (nth rows k).name, sub := zeroId, heads := (nth rows k).heads, hh := (nth rows k).hh } : ItemS)] : List ItemS))) || (decide (((nth rows k).node) = lastSt))) rfl rfl rfl rfl rfl (!((!(dirOk ([({ node := (nth rows k).node, tm := (nth rows k).tm, name := (nth rows k).name, sub := zeroId, heads := (nth rows k).heads, hh := (nth rows k).hh } : ItemS)] : List ItemS))) || (decide (((nth rows k).node) = lastSt)))) ga_f _ (fun hA v50 hv51 => R_move (v := (.int .i64 ((k : Nat) : Int))) rfl ⟨rfl, Gr.refl _ _⟩) ?_
   refine Lx_qg (i := 14) true ((!(dirOk ([({ node := (nth rows k).node, tm := (nth rows k).tm, name := (nth rows k).name, sub := zeroId, heads := (nth rows k).heads, hh := (nth rows k).hh } : ItemS)] : List ItemS))) || (decide (((nth rows k).node) = lastSt))) rfl rfl rfl rfl rfl (!((!(dirOk ([({ node := (nth rows k).node, tm := (nth rows k).tm, name := (nth rows k).name, sub := zeroId, heads := (nth rows k).heads, hh := (nth rows k).hh } : ItemS)] : List ItemS))) || (decide (((nth rows k).node) = lastSt)))) ga_f _ (fun hA v52 hv53 => R_cmp (a := ((k : Nat) : Int)) (b := 0) (r := (decide (0 < ((k : Nat) : Int)))) (gv_t hA) rfl rfl ⟨rfl, Gr.refl _ _⟩) ?_
   refine Lx_qg (i := 15) true ((!(dirOk ([({ node := (nth rows k).node, tm := (nth rows k).tm, name := (nth rows k).name, sub := zeroId, heads := (nth rows k).heads, hh := (nth rows k).hh } : ItemS)] : List ItemS))) || (decide (((nth rows k).node) = lastSt))) rfl rfl rfl rfl rfl (!((!(dirOk ([({ node := (nth rows k).node, tm := (nth rows k).tm, name := (nth rows k).name, sub := zeroId, heads := (nth rows k).heads, hh := (nth rows k).hh } : ItemS)] : List ItemS))) || (decide (((nth rows k).node) = lastSt)))) ga_f _ (fun hA v54 hv55 => R_move (v := (.bool (decide (0 < ((k : Nat) : Int))))) (gv_t hA) ⟨rfl, Gr.refl _ _⟩) ?_
   refine Lx_qg (i := 16) (!((!(dirOk ([({ node := (nth rows k).node, tm := (nth rows k).tm, name := (nth rows k).name, sub := zeroId, heads := (nth rows k).heads, hh := (nth rows k).hh } : ItemS)] : List ItemS))) || (decide (((nth rows k).node) = lastSt)))) (decide (0 < ((k : Nat) : Int))) rfl rfl rfl rfl rfl ((!((!(dirOk ([({ node := (nth rows k).node, tm := (nth rows k).tm, name := (nth rows k).name, sub := zeroId, heads := (nth rows k).heads, hh := (nth rows k).hh } : ItemS)] : List ItemS))) || (decide (((nth rows k).node) = lastSt)))) && (decide (0 < ((k : Nat) : Int)))) gb_t _ (fun hA v56 hv57 => R_move (v := (slV hrows rows)) rfl ⟨rfl, Gr.refl _ _⟩) ?_
   refine Lx_qg (i := 17) (!((!(dirOk ([({ node := (nth rows k).node, tm := (nth rows k).tm, name := (nth rows k).name, sub := zeroId, heads := (nth rows k).heads, hh := (nth rows k).hh } : ItemS)] : List ItemS))) || (decide (((nth rows k).node) = lastSt)))) (decide (0 < ((k : Nat) : Int))) rfl rfl rfl rfl rfl ((!((!(dirOk ([({ node := (nth rows k).node, tm := (nth rows k).tm, name := (nth rows k).name, sub := zeroId, heads := (nth rows k).heads, hh := (nth rows k).hh } : ItemS)] : List ItemS))) || (decide (((nth rows k).node) = lastSt)))) && (decide (0 < ((k : Nat) : Int)))) gb_t _ (fun hA v58 hv59 => R_move (v := (.int .i64 ((k : Nat) : Int))) rfl ⟨rfl, Gr.refl _ _⟩) ?_
   refine Lx_qg (i := 18) (!((!(dirOk ([({ node := (nth rows k).node, tm := (nth rows k).tm, name := (nth rows k).name, sub := zeroId, heads := (nth rows k).heads, hh := (nth rows k).hh } : ItemS)] : List ItemS))) || (decide (((nth rows k).node) = lastSt)))) (decide (0 < ((k : Nat) : Int))) rfl rfl rfl rfl rfl ((!((!(dirOk ([({ node := (nth rows k).node, tm := (nth rows k).tm, name := (nth rows k).name, sub := zeroId, heads := (nth rows k).heads, hh := (nth rows k).hh } : ItemS)] : List ItemS))) || (decide (((nth rows k).node) = lastSt)))) && (decide (0 < ((k : Nat) : Int)))) gb_t _ (fun hA v60 hv61 => by
          have hP : (((dirOk ([({ node := (nth rows k).node, tm := (nth rows k).tm, name := (nth rows k).name, sub := zeroId, heads := (nth rows k).heads, hh := (nth rows k).hh } : ItemS)] : List ItemS)) = true ∧ ¬ (((nth rows k).node) = lastSt)) ∧ (0 < ((k : Nat) : Int))) := (And.imp (fun h => (And.imp (fun h => (notF h)) (fun h => (of_decide_eq_false h)) (orF (notT h)))) (fun h => (of_decide_eq_true h)) (andT hA))
          exact R_arith (a := ((k : Nat) : Int)) (b := 1) (r0 := ((k : Nat) : Int) - 1) (r := ((k - 1 : Nat) : Int)) (gv_t hA) rfl rfl (wrapP _ (by omega) (by omega)) ⟨rfl, Gr.refl _ _⟩) ?_
   refine Lx_qg (i := 19) (!((!(dirOk ([({ node := (nth rows k).node, tm := (nth rows k).tm, name := (nth rows k).name, sub := zeroId, heads := (nth rows k).heads, hh := (nth rows k).hh } : ItemS)] : List ItemS))) || (decide (((nth rows k).node) = lastSt)))) (decide (0 < ((k : Nat) : Int))) rfl rfl rfl rfl rfl ((!((!(dirOk ([({ node := (nth rows k).node, tm := (nth rows k).tm, name := (nth rows k).name, sub := zeroId, heads := (nth rows k).heads, hh := (nth rows k).hh } : ItemS)] : List ItemS))) || (decide (((nth rows k).node) = lastSt)))) && (decide (0 < ((k : Nat) : Int)))) gb_t _ (fun hA v62 hv63 => by
          have hP : (((dirOk ([({ node := (nth rows k).node, tm := (nth rows k).tm, name := (nth rows k).name, sub := zeroId, heads := (nth rows k).heads, hh := (nth rows k).hh } : ItemS)] : List ItemS)) = true ∧ ¬ (((nth rows k).node) = lastSt)) ∧ (0 < ((k : Nat) : Int))) := (And.imp (fun h => (And.imp (fun h => (notF h)) (fun h => (of_decide_eq_false h)) (orF (notT h)))) (fun h => (of_decide_eq_true h)) (andT hA))
          exact R_index_pure (H31.sl 1 rfl) (n := rows.length) rfl (j := ((k - 1 : Nat) : Int)) (oo := (hrows.o + (k - 1) * 8)) Try.underlying22 Try.sizeOf44 (gv_t hA) (gv_t hA) (by omega) (by omega) rfl ⟨rfl, Gr.refl _ _⟩) ?_
   refine Lx_qg (i := 20) (!((!(dirOk ([({ node := (nth rows k).node, tm := (nth rows k).tm, name := (nth rows k).name, sub := zeroId, heads := (nth rows k).heads, hh := (nth rows k).hh } : ItemS)] : List ItemS))) || (decide (((nth rows k).node) = lastSt)))) (decide (0 < ((k : Nat) : Int))) rfl rfl rfl rfl rfl ((!((!(dirOk ([({ node := (nth rows k).node, tm := (nth rows k).tm, name := (nth rows k).name, sub := zeroId, heads := (nth rows k).heads, hh := (nth rows k).hh } : ItemS)] : List ItemS))) || (decide (((nth rows k).node) = lastSt)))) && (decide (0 < ((k : Nat) : Int)))) gb_t _ (fun hA v64 hv65 => R_fieldAddr (off := 0) (oo := (hrows.o + (k - 1) * 8)) Try.underlying44 rfl rfl Try.sizeOf24 (gv_t hA) rfl ⟨rfl, Gr.refl _ _⟩) ?_
   refine Lx_qg (i := 21) (!((!(dirOk ([({ node := (nth rows k).node, tm := (nth rows k).tm, name := (nth rows k).name, sub := zeroId, heads := (nth rows k).heads, hh := (nth rows k).hh } : ItemS)] : List ItemS))) || (decide (((nth rows k).node) = lastSt)))) (decide (0 < ((k : Nat) : Int))) rfl rfl rfl rfl rfl ((!((!(dirOk ([({ node := (nth rows k).node, tm := (nth rows k).tm, name := (nth rows k).name, sub := zeroId, heads := (nth rows k).heads, hh := (nth rows k).hh } : ItemS)] : List ItemS))) || (decide (((nth rows k).node) = lastSt)))) && (decide (0 < ((k : Nat) : Int)))) gb_t _ (fun hA v66 hv67 => by
          have hP : (((dirOk ([({ node := (nth rows k).node, tm := (nth rows k).tm, name := (nth rows k).name, sub := zeroId, heads := (nth rows k).heads, hh := (nth rows k).hh } : ItemS)] : List ItemS)) = true ∧ ¬ (((nth rows k).node) = lastSt)) ∧ (0 < ((k : Nat) : Int))) := (And.imp (fun h => (And.imp (fun h => (notF h)) (fun h => (of_decide_eq_false h)) (orF (notT h)))) (fun h => (of_decide_eq_true h)) (andT hA))
          exact R_loadA (cs := [[(.int .i64 (((nth rows (k - 1)).node).T))], [(.int .i64 (((nth rows (k - 1)).node).R))]]) Try.isAgg24 Try.sizeOf24 rfl (gv_t hA) ((Sl.elem ((H31.ext hv67).sl 1 rfl) (i := (k - 1)) (by omega) rfl).chunks 0 2 0 (hrows.o + (k - 1) * 8) _ rfl rfl rfl) ⟨rfl, Gr.refl _ _⟩) ?_
   refine Lx_qg (i := 22) (!((!(dirOk ([({ node := (nth rows k).node, tm := (nth rows k).tm, name := (nth rows k).name, sub := zeroId, heads := (nth rows k).heads, hh := (nth rows k).hh } : ItemS)] : List ItemS))) || (decide (((nth rows k).node) = lastSt)))) (decide (0 < ((k : Nat) : Int))) rfl rfl rfl rfl rfl ((!((!(dirOk ([({ node := (nth rows k).node, tm := (nth rows k).tm, name := (nth rows k).name, sub := zeroId, heads := (nth rows k).heads, hh := (nth rows k).hh } : ItemS)] : List ItemS))) || (decide (((nth rows k).node) = lastSt)))) && (decide (0 < ((k : Nat) : Int)))) gb_t _ (fun hA v68 hv69 => R_fieldAddr (off := 0) (oo := 0) Try.underlying44 rfl rfl Try.sizeOf24 rfl rfl ⟨rfl, Gr.refl _ _⟩) ?_
   refine Lx_qg (i := 23) (!((!(dirOk ([({ node := (nth rows k).node, tm := (nth rows k).tm, name := (nth rows k).name, sub := zeroId, heads := (nth rows k).heads, hh := (nth rows k).hh } : ItemS)] : List ItemS))) || (decide (((nth rows k).node) = lastSt)))) (decide (0 < ((k : Nat) : Int))) rfl rfl rfl rfl rfl ((!((!(dirOk ([({ node := (nth rows k).node, tm := (nth rows k).tm, name := (nth rows k).name, sub := zeroId, heads := (nth rows k).heads, hh := (nth rows k).hh } : ItemS)] : List ItemS))) || (decide (((nth rows k).node) = lastSt)))) && (decide (0 < ((k : Nat) : Int)))) gb_t _ (fun hA v70 hv71 => R_loadA (cs := [[(.int .i64 (((nth rows k).node).T))], [(.int .i64 (((nth rows k).node).R))]]) Try.isAgg24 Try.sizeOf24 rfl (gv_t hA) ((boxR_at ((H31.ext hv71).getOwn 1 rfl)).chunks 0 2 0 0 _ rfl rfl rfl) ⟨rfl, Gr.refl _ _⟩) ?_
   refine Lx_qg (i := 24) (!((!(dirOk ([({ node := (nth rows k).node, tm := (nth rows k).tm, name := (nth rows k).name, sub := zeroId, heads := (nth rows k).heads, hh := (nth rows k).hh } : ItemS)] : List ItemS))) || (decide (((nth rows k).node) = lastSt)))) (decide (0 < ((k : Nat) : Int))) rfl rfl rfl rfl rfl ((!((!(dirOk ([({ node := (nth rows k).node, tm := (nth rows k).tm, name := (nth rows k).name, sub := zeroId, heads := (nth rows k).heads, hh := (nth rows k).hh } : ItemS)] : List ItemS))) || (decide (((nth rows k).node) = lastSt)))) && (decide (0 < ((k : Nat) : Int)))) gb_t (.int .i64 (cmpSt ((nth rows (k - 1)).node) ((nth rows k).node))) (fun hA v72 hv73 => R_callL (vs := [(aggOf (stampCh ((nth rows (k - 1)).node))), (aggOf (stampCh ((nth rows k).node)))]) ref13_Right_c21 rfl (lst2 (gv_t hA) (gv_t hA)) (ref03_Cmp ((nth rows (k - 1)).node) ((nth rows k).node) v72 )) ?_
   refine Lx_qg (i := 25) (!((!(dirOk ([({ node := (nth rows k).node, tm := (nth rows k).tm, name := (nth rows k).name, sub := zeroId, heads := (nth rows k).heads, hh := (nth rows k).hh } : ItemS)] : List ItemS))) || (decide (((nth rows k).node) = lastSt)))) (decide (0 < ((k : Nat) : Int))) rfl rfl rfl rfl rfl ((!((!(dirOk ([({ node := (nth rows k).node, tm := (nth rows k).tm, name := (nth rows k).name, sub := zeroId, heads := (nth rows k).heads, hh := (nth rows k).hh } : ItemS)] : List ItemS))) || (decide (((nth rows k).node) = lastSt)))) && (decide (0 < ((k : Nat) : Int)))) gb_t _ (fun hA v74 hv75 => R_cmp (a := cmpSt ((nth rows (k - 1)).node) ((nth rows k).node)) (b := (-1)) (r := (!(decide (cmpSt ((nth rows (k - 1)).node) ((nth rows k).node) = (-1))))) (gv_t hA) rfl rfl ⟨rfl, Gr.refl _ _⟩) ?_
   refine Lx_qg (i := 26) true ((!(dirOk ([({ node := (nth rows k).node, tm := (nth rows k).tm, name := (nth rows k).name, sub := zeroId, heads := (nth rows k).heads, hh := (nth rows k).hh } : ItemS)] : List ItemS))) || (decide (((nth rows k).node) = lastSt))) rfl rfl rfl rfl rfl (!((!(dirOk ([({ node := (nth rows k).node, tm := (nth rows k).tm, name := (nth rows k).name, sub := zeroId, heads := (nth rows k).heads, hh := (nth rows k).hh } : ItemS)] : List ItemS))) || (decide (((nth rows k).node) = lastSt)))) ga_f _ (fun hA v76 hv77 => R_pick (t := (decide (0 < ((k : Nat) : Int)))) (v := (.bool ((decide (0 < ((k : Nat) : Int))) && (!(decide (cmpSt ((nth rows (k - 1)).node) ((nth rows k).node) = (-1))))))) (gv_t hA) (pk_andA hA) ⟨rfl, Gr.refl _ _⟩) ?_
   refine Lx_q (i := 27) rfl rfl _ (fun v78 hv79 => R_pick (t := ((!(dirOk ([({ node := (nth rows k).node, tm := (nth rows k).tm, name := (nth rows k).name, sub := zeroId, heads := (nth rows k).heads, hh := (nth rows k).hh } : ItemS)] : List ItemS))) || (decide (((nth rows k).node) = lastSt)))) (v := (.bool (((!(dirOk ([({ node := (nth rows k).node, tm := (nth rows k).tm, name := (nth rows k).name, sub := zeroId, heads := (nth rows k).heads, hh := (nth rows k).hh } : ItemS)] : List ItemS))) || (decide (((nth rows k).node) = lastSt))) || ((decide (0 < ((k : Nat) : Int))) && (!(decide (cmpSt ((nth rows (k - 1)).node) ((nth rows k).node) = (-1)))))))) rfl pk_or ⟨rfl, Gr.refl _ _⟩) ?_
   refine Lx_nil (fun w80 hw81 => ?_)
   have H82 := H31.ext hw81
   refine Then_n ?_
   refine W_cond (t := (((!(dirOk ([({ node := (nth rows k).node, tm := (nth rows k).tm, name := (nth rows k).name, sub := zeroId, heads := (nth rows k).heads, hh := (nth rows k).hh } : ItemS)] : List ItemS))) || (decide (((nth rows k).node) = lastSt))) || ((decide (0 < ((k : Nat) : Int))) && (!(decide (cmpSt ((nth rows (k - 1)).node) ((nth rows k).node) = (-1))))))) rfl (fun hc83 => ?_) (fun hc83 => ?_)
   ·have hc83 : (((dirOk ([({ node := (nth rows k).node, tm := (nth rows k).tm, name := (nth rows k).name, sub := zeroId, heads := (nth rows k).heads, hh := (nth rows k).hh } : ItemS)] : List ItemS)) = false ∨ (((nth rows k).node) = lastSt)) ∨ ((0 < ((k : Nat) : Int)) ∧ ¬ (cmpSt ((nth rows (k - 1)).node) ((nth rows k).node) = (-1)))) := (Or.imp (fun h => (Or.imp (fun h => (notT h)) (fun h => (of_decide_eq_true h)) (orT h))) (fun h => (And.imp (fun h => (of_decide_eq_true h)) (fun h => (of_decide_eq_false (notT h))) (andT h))) (orT hc83))
    refine W_seq (W_reg ?_)
    refine O_v rfl (R_assign (v := (.bool false)) rfl ?_)
    refine O_nil (Then_n (W_ret (Then_r (Blk_r (Then_r (Then_r (Blk_r (Then_r ?_))))))))
    refine ret_1 (v := (.bool false)) Try.results6 rfl ?_
    exact ⟨(treeOk_f1 (k := k) rfl (by omega) (by assumption)), H82.gr⟩
   ·have hc83 : (((dirOk ([({ node := (nth rows k).node, tm := (nth rows k).tm, name := (nth rows k).name, sub := zeroId, heads := (nth rows k).heads, hh := (nth rows k).hh } : ItemS)] : List ItemS)) = true ∧ ¬ (((nth rows k).node) = lastSt)) ∧ (¬ (0 < ((k : Nat) : Int)) ∨ (cmpSt ((nth rows (k - 1)).node) ((nth rows k).node) = (-1)))) := (And.imp (fun h => (And.imp (fun h => (notF h)) (fun h => (of_decide_eq_false h)) (orF h))) (fun h => (Or.imp (fun h => (of_decide_eq_false h)) (fun h => (of_decide_eq_true (notF h))) (andF h))) (orF hc83))
    refine W_skip (Then_n (W_seq ?_))
    refine W_rg [(0, .q false), (1, .q false), (2, .q false), (3, .q false), (4, .q false), (5, .q false), (6, .q false), (7, .q false), (8, .q false), (9, .q false), (10, .q false), (11, .q false), (12, .q false), (13, .q false)] (by kernel_rfl) ?_
    refine Lx_q (i := 0) rfl rfl _ (fun v84 hv85 => R_move (v := (slV hrows rows)) rfl ⟨rfl, Gr.refl _ _⟩) ?_
    refine Lx_q (i := 1) rfl rfl _ (fun v86 hv87 => R_fieldAddr (off := 0) (oo := 0) Try.underlying44 rfl rfl Try.sizeOf24 rfl rfl ⟨rfl, Gr.refl _ _⟩) ?_
    refine Lx_q (i := 2) rfl rfl _ (fun v88 hv89 => R_loadA (cs := [[(.int .i64 (((nth rows k).node).T))], [(.int .i64 (((nth rows k).node).R))]]) Try.isAgg24 Try.sizeOf24 rfl rfl ((boxR_at ((H82.ext hv89).getOwn 1 rfl)).chunks 0 2 0 0 _ rfl rfl rfl) ⟨rfl, Gr.refl _ _⟩) ?_
    refine Lx_q (i := 3) rfl rfl _ (fun v90 hv91 => R_buildL (vs := []) (v := aggOf [[(.int .i64 0)], [(.int .i64 0)]]) rfl (fun _ => by kernel_rfl) ⟨rfl, Gr.refl _ _⟩) ?_
    refine Lx_q (i := 4) rfl rfl (.bool (liesOf rows ((nth rows k).node) ({ T := 0, R := 0 } : Stamp))) (fun v92 hv93 => R_callL (vs := [(slV hrows rows), (aggOf (stampCh ((nth rows k).node))), (aggOf [[(.int .i64 0)], [(.int .i64 0)]])]) ref13_Right_c22 rfl rfl (ref12_Lies hrows rows ((nth rows k).node) ({ T := 0, R := 0 } : Stamp) v92 ((H82.ext hv93).slOld 1 rfl))) ?_
    refine Lx_q (i := 5) rfl rfl _ (fun v94 hv95 => R_not rfl ⟨rfl, Gr.refl _ _⟩) ?_
    refine Lx_q (i := 6) rfl rfl _ (fun v96 hv97 => R_move (v := (.bool (!(liesOf rows ((nth rows k).node) ({ T := 0, R := 0 } : Stamp))))) rfl ⟨rfl, Gr.refl _ _⟩) ?_
    refine Lx_qg (i := 7) true (!(liesOf rows ((nth rows k).node) ({ T := 0, R := 0 } : Stamp))) rfl rfl rfl rfl rfl (!(liesOf rows ((nth rows k).node) ({ T := 0, R := 0 } : Stamp))) ga_t _ (fun hA v98 hv99 => R_move (v := (slV hrows rows)) rfl ⟨rfl, Gr.refl _ _⟩) ?_
    refine Lx_qg (i := 8) true (!(liesOf rows ((nth rows k).node) ({ T := 0, R := 0 } : Stamp))) rfl rfl rfl rfl rfl (!(liesOf rows ((nth rows k).node) ({ T := 0, R := 0 } : Stamp))) ga_t _ (fun hA v100 hv101 => R_fieldAddr (off := 0) (oo := 0) Try.underlying44 rfl rfl Try.sizeOf24 rfl rfl ⟨rfl, Gr.refl _ _⟩) ?_
    refine Lx_qg (i := 9) true (!(liesOf rows ((nth rows k).node) ({ T := 0, R := 0 } : Stamp))) rfl rfl rfl rfl rfl (!(liesOf rows ((nth rows k).node) ({ T := 0, R := 0 } : Stamp))) ga_t _ (fun hA v102 hv103 => R_loadA (cs := [[(.int .i64 (((nth rows k).node).T))], [(.int .i64 (((nth rows k).node).R))]]) Try.isAgg24 Try.sizeOf24 rfl (gv_t hA) ((boxR_at ((H82.ext hv103).getOwn 1 rfl)).chunks 0 2 0 0 _ rfl rfl rfl) ⟨rfl, Gr.refl _ _⟩) ?_
    refine Lx_qg (i := 10) true (!(liesOf rows ((nth rows k).node) ({ T := 0, R := 0 } : Stamp))) rfl rfl rfl rfl rfl (!(liesOf rows ((nth rows k).node) ({ T := 0, R := 0 } : Stamp))) ga_t _ (fun hA v104 hv105 => R_buildL (vs := [(1, (.int .i64 1))]) (v := aggOf [[(.int .i64 0)], [(.int .i64 1)]]) rfl (fun _ => by kernel_rfl) ⟨rfl, Gr.refl _ _⟩) ?_
    refine Lx_qg (i := 11) true (!(liesOf rows ((nth rows k).node) ({ T := 0, R := 0 } : Stamp))) rfl rfl rfl rfl rfl (!(liesOf rows ((nth rows k).node) ({ T := 0, R := 0 } : Stamp))) ga_t (.bool (liesOf rows ((nth rows k).node) ({ T := 0, R := 1 } : Stamp))) (fun hA v106 hv107 => R_callL (vs := [(slV hrows rows), (aggOf (stampCh ((nth rows k).node))), (aggOf [[(.int .i64 0)], [(.int .i64 1)]])]) ref13_Right_c22 rfl (lst3 (gv_t hA) (gv_t hA) (gv_t hA)) (ref12_Lies hrows rows ((nth rows k).node) ({ T := 0, R := 1 } : Stamp) v106 ((H82.ext hv107).slOld 1 rfl))) ?_
    refine Lx_qg (i := 12) true (!(liesOf rows ((nth rows k).node) ({ T := 0, R := 0 } : Stamp))) rfl rfl rfl rfl rfl (!(liesOf rows ((nth rows k).node) ({ T := 0, R := 0 } : Stamp))) ga_t _ (fun hA v108 hv109 => R_not (gv_t hA) ⟨rfl, Gr.refl _ _⟩) ?_
    refine Lx_q (i := 13) rfl rfl _ (fun v110 hv111 => R_pick (t := (!(liesOf rows ((nth rows k).node) ({ T := 0, R := 0 } : Stamp)))) (v := (.bool ((!(liesOf rows ((nth rows k).node) ({ T := 0, R := 0 } : Stamp))) && (!(liesOf rows ((nth rows k).node) ({ T := 0, R := 1 } : Stamp)))))) rfl pk_and ⟨rfl, Gr.refl _ _⟩) ?_
    refine Lx_nil (fun w112 hw113 => ?_)
    have H114 := H82.ext hw113
    refine Then_n ?_
    refine W_cond (t := ((!(liesOf rows ((nth rows k).node) ({ T := 0, R := 0 } : Stamp))) && (!(liesOf rows ((nth rows k).node) ({ T := 0, R := 1 } : Stamp))))) rfl (fun hc115 => ?_) (fun hc115 => ?_)
    ·have hc115 : ((liesOf rows ((nth rows k).node) ({ T := 0, R := 0 } : Stamp)) = false ∧ (liesOf rows ((nth rows k).node) ({ T := 0, R := 1 } : Stamp)) = false) := (And.imp (fun h => (notT h)) (fun h => (notT h)) (andT hc115))
     refine W_seq (W_reg ?_)
     refine O_v rfl (R_assign (v := (.bool false)) rfl ?_)
     refine O_nil (Then_n (W_ret (Blk_r (Then_r (Then_r (Blk_r (Then_r ?_)))))))
     refine ret_1 (v := (.bool false)) Try.results6 rfl ?_
     exact ⟨(treeOk_f2 (k := k) (by omega) (by assumption)), H114.gr⟩
    ·have hc115 : ((liesOf rows ((nth rows k).node) ({ T := 0, R := 0 } : Stamp)) = true ∨ (liesOf rows ((nth rows k).node) ({ T := 0, R := 1 } : Stamp)) = true) := (Or.imp (fun h => (notF h)) (fun h => (notF h)) (andF hc115))
     refine W_skip (Blk_n (Then_n (W_reg ?_)))
     refine O_v rfl (R_move (v := (.int .i64 ((k : Nat) : Int))) rfl ?_)
     refine O_v rfl (R_arith (a := ((k : Nat) : Int)) (b := 1) (r0 := ((k : Nat) : Int) + 1) (r := ((k + 1 : Nat) : Int)) rfl rfl rfl (wrapN _ (by omega)) ?_)
     refine O_v rfl (R_assign (v := (.int .i64 ((k + 1 : Nat) : Int))) rfl ?_)
     refine O_nil (Then_n ?_)
     have H116 := H114.sub (B' := []) (I' := [deepI (Old w) headCh 34 (fun x : RowS => x.hh) (fun x : RowS => x.heads) rows, slI (Old w) rowCh 8 hrows rows]) (List.Sublist.cons _ (List.Sublist.cons _ List.Sublist.slnil)) (List.forall_mem_cons.2 ⟨List.mem_of_getElem? (i := 0) rfl, List.forall_mem_cons.2 ⟨List.mem_of_getElem? (i := 1) rfl, fun _ h => (nomatch h)⟩⟩)
     refine ⟨_, ?_, (k + 1), rfl, (by omega), (all_succ hn (rowAt_t rfl (by assumption) (by assumption))), _, envL_self ⟨rfl, rfl, trivial⟩, H116⟩
     omega
  ·have hc9 : ¬ (((k : Nat) : Int) < ((rows.length : Nat) : Int)) := (of_decide_eq_false hc9)
   refine W_exit (Then_x (Then_x (Blk_x (Then_n (W_seq (W_reg ?_))))))
   refine O_v rfl (R_assign (v := (.bool true)) rfl ?_)
   refine O_nil (Then_n (W_ret ?_))
   refine ret_1 (v := (.bool true)) Try.results6 rfl ?_
   exact ⟨(treeOk_t (by assumption) (by rwa [show rows.length = k from by omega])), H8.gr⟩

end Go.Proofs.Ytiknfldhommmpaa
namespace Go.Proofs.Ytiknfldhommmpaa
open Go
set_option maxRecDepth 100000
set_option linter.unusedVariables false
set_option linter.unusedSimpArgs false
theorem ref14_Alive_c22 : callable Try.prog 22 = true := by kernel_rfl
set_option maxHeartbeats 1000000 in
theorem ref14_Alive (hrows : SlH) (rows : List RowS) (w : World) (Srows : Sl (Old w) rowCh 8 hrows rows w) (hl : rows.length ≤ 1048576) :
    Calls Try.prog 9 #[(slV hrows rows)] w (Ret fun v w' => ∃ h, v = slV h (aliveRef rows) ∧ Ext w w' ∧ OwnS w.heap.size 44 8 rowCh h (aliveRef rows) w') := by
 refine calls_W Try.func9 rfl Try.ntmps9 rfl ?_
 have H0 := Ctx.start w nob
 have H1 := H0.addSl _ Srows (fun b hb => ⟨hb, fun _ ho => (nomatch ho)⟩)
 have LSrows := Srows.len
 refine W_seq (W_reg ?_)
 refine O_v rfl (R_assign (v := (.slice none 0 0)) rfl ?_)
 refine O_nil (Then_n (W_seq (W_reg ?_)))
 refine O_v rfl (C_buildSliceL H1 (enc := rowCh) (val := rowV) ([] : List RowS) Try.underlying22 Try.sizeOf44 Try.zeroValue44 rfl (by decide) (fun _ => rfl) (fun _ => rfl) rfl rfl (by decide) ?_)
 intro b2 w3 hb4 hx5 H6
 refine O_v rfl (R_assign (v := (slV ⟨some ⟨b2, 0, none⟩, b2, 0, 0⟩ ([] : List RowS))) rfl ?_)
 refine O_nil (Then_n (W_seq (W_seq (W_reg ?_))))
 refine O_v rfl (R_assign (v := (.int .i64 0)) rfl ?_)
 refine O_nil (Then_n (W_block ?_))
 refine W_loop (fun m8 e9 w10 => ∃ (k : Nat), ∃ (acc : List RowS), ∃ (h7 : SlH), m8 = rows.length - k ∧ (k ≤ rows.length) ∧ (acc = aliveTo rows k) ∧ (acc.length ≤ k) ∧ ∃ eb11, e9 = envL [(0, (slV hrows rows)), (2, (.slice none 0 0)), (3, (slV h7 acc)), (4, (.int .i64 ((k : Nat) : Int)))] eb11 ∧ Ctx w nob w10 [rowR 44 8 rowCh h7 acc] [slI (Old w) rowCh 8 hrows rows]) _ ⟨0, [], ⟨some ⟨b2, 0, none⟩, b2, 0, 0⟩, rfl, (by omega), rfl, (by simp), _, envL_self ⟨rfl, rfl, rfl, rfl, trivial⟩, H6⟩ ?_
 rintro m8 _ w10 ⟨k, acc, h7, rfl, hk, ha, hal, eb11, rfl, H12⟩
 refine W_seq (W_seq (W_reg ?_))
 refine O_v rfl (R_move (v := (.int .i64 ((k : Nat) : Int))) rfl ?_)
 refine O_v rfl (R_move (v := (slV hrows rows)) rfl ?_)
 refine O_v rfl (R_len_slice (a := hrows.a) (n := rows.length) (c := hrows.c) Try.underlying22 rfl ?_)
 refine O_v rfl (R_cmp (a := ((k : Nat) : Int)) (b := ((rows.length : Nat) : Int)) (r := (decide (((k : Nat) : Int) < ((rows.length : Nat) : Int)))) rfl rfl rfl ?_)
 refine O_nil (Then_n ?_)
 refine W_cond (t := (decide (((k : Nat) : Int) < ((rows.length : Nat) : Int)))) rfl (fun hc13 => ?_) (fun hc13 => ?_)
 ·have hc13 : (((k : Nat) : Int) < ((rows.length : Nat) : Int)) := (of_decide_eq_true hc13)
  refine W_skip (Then_n (W_seq (W_block (W_seq (W_reg ?_)))))
  refine O_v rfl (R_move (v := (slV hrows rows)) rfl ?_)
  refine O_v rfl (R_move (v := (slV hrows rows)) rfl ?_)
  refine O_v rfl (R_move (v := (.int .i64 ((k : Nat) : Int))) rfl ?_)
  refine O_v rfl (R_index_pure (H12.sl 0 rfl) (n := rows.length) rfl (j := ((k : Nat) : Int)) (oo := (hrows.o + k * 8)) Try.underlying22 Try.sizeOf44 rfl rfl (by omega) (by omega) rfl ?_)
  refine O_v rfl (R_fieldAddr (off := 0) (oo := (hrows.o + k * 8)) Try.underlying44 rfl rfl Try.sizeOf24 rfl rfl ?_)
  refine O_v rfl (R_loadA (cs := [[(.int .i64 (((nth rows k).node).T))], [(.int .i64 (((nth rows k).node).R))]]) Try.isAgg24 Try.sizeOf24 rfl rfl ((Sl.elem (H12.sl 0 rfl) (i := k) (by omega) rfl).chunks 0 2 0 (hrows.o + k * 8) _ rfl rfl rfl) ?_)
  refine O_v rfl (R_buildL (vs := [(1, (.int .i64 1))]) (v := aggOf [[(.int .i64 0)], [(.int .i64 1)]]) rfl (fun _ => by kernel_rfl) ?_)
  refine O_v rfl (R_callL (vs := [(slV hrows rows), (aggOf (stampCh ((nth rows k).node))), (aggOf [[(.int .i64 0)], [(.int .i64 1)]])]) ref14_Alive_c22 rfl rfl ((ref12_Lies hrows rows ((nth rows k).node) ({ T := 0, R := 1 } : Stamp) w10 (H12.slOld 0 rfl)).ret ?_))
  rintro _ w14 ⟨rfl, hx15⟩
  have H16 := H12.ext hx15
  refine O_v rfl (R_not rfl ?_)
  refine O_nil (Then_n ?_)
  refine W_cond (t := (!(liesOf rows ((nth rows k).node) ({ T := 0, R := 1 } : Stamp)))) rfl (fun hc17 => ?_) (fun hc17 => ?_)
  ·have hc17 : (liesOf rows ((nth rows k).node) ({ T := 0, R := 1 } : Stamp)) = false := (notT hc17)
   refine W_reg ?_
   refine O_v rfl (R_move (v := (slV h7 acc)) rfl ?_)
   refine O_v rfl (R_move (v := (slV hrows rows)) rfl ?_)
   refine O_v rfl (R_move (v := (.int .i64 ((k : Nat) : Int))) rfl ?_)
   refine O_v rfl (R_index_pure (H16.sl 0 rfl) (n := rows.length) rfl (j := ((k : Nat) : Int)) (oo := (hrows.o + k * 8)) Try.underlying22 Try.sizeOf44 rfl rfl (by omega) (by omega) rfl ?_)
   refine O_v rfl (R_loadA (cs := [[(.int .i64 (((nth rows k).node).T))], [(.int .i64 (((nth rows k).node).R))], [(.int .i64 (((nth rows k).par).T))], [(.int .i64 (((nth rows k).par).R))], [(.int .i64 (((nth rows k).tm).T))], [(.int .i64 (((nth rows k).tm).R))], [(.string ((nth rows k).name))], [(slV ((nth rows k).hh) ((nth rows k).heads))]]) Try.isAgg44 Try.sizeOf44 rfl rfl ((Sl.elem (H16.sl 0 rfl) (i := k) (by omega) rfl).chunks 0 8 0 (hrows.o + k * 8) _ rfl rfl rfl) ?_)
   refine O_v rfl (C_buildSliceL H16 (enc := rowCh) (val := rowV) ([(nth rows k)] : List RowS) Try.underlying22 Try.sizeOf44 Try.zeroValue44 rfl (by decide) (fun _ => rfl) (fun _ => rfl) rfl rfl (by decide) ?_)
   intro b18 w19 hb20 hx21 H22
   refine O_v rfl (C_append H22 1 rfl (bytes := 88) (l := acc) (ys := ([(nth rows k)] : List RowS)) Try.underlying22 rfl rfl rfl rfl rfl (by decide) rfl rfl (OwnS.sl (H22.getOwn 0 rfl) (fun _ => rfl)) (fun _ => rfl) (fun _ => rfl) (by simp only [List.length_append, List.length_cons, List.length_nil]; omega) (by decide) ?_)
   intro h23 w24 hg25 H26
   refine O_v rfl (R_assign (v := (slV h23 (acc ++ ([(nth rows k)] : List RowS)))) rfl ?_)
   refine O_nil (Blk_n (Then_n (W_reg ?_)))
   refine O_v rfl (R_move (v := (.int .i64 ((k : Nat) : Int))) rfl ?_)
   refine O_v rfl (R_arith (a := ((k : Nat) : Int)) (b := 1) (r0 := ((k : Nat) : Int) + 1) (r := ((k + 1 : Nat) : Int)) rfl rfl rfl (wrapN _ (by omega)) ?_)
   refine O_v rfl (R_assign (v := (.int .i64 ((k + 1 : Nat) : Int))) rfl ?_)
   refine O_nil (Then_n ?_)
   have H27 := H26.sub (B' := [rowR 44 8 rowCh h23 (acc ++ ([(nth rows k)] : List RowS))]) (I' := [slI (Old w) rowCh 8 hrows rows]) (List.Sublist.cons _ (List.Sublist.cons_cons _ List.Sublist.slnil)) (List.forall_mem_cons.2 ⟨List.mem_of_getElem? (i := 0) rfl, fun _ h => (nomatch h)⟩)
   refine ⟨_, ?_, (k + 1), (acc ++ ([(nth rows k)] : List RowS)), h23, rfl, (by omega), (aliveTo_in ha (by omega) (by assumption)), (by simp only [List.length_append, List.length_cons, List.length_nil]; omega), _, envL_self ⟨rfl, rfl, rfl, rfl, trivial⟩, H27⟩
   omega
  ·have hc17 : (liesOf rows ((nth rows k).node) ({ T := 0, R := 1 } : Stamp)) = true := (notF hc17)
   refine W_skip (Blk_n (Then_n (W_reg ?_)))
   refine O_v rfl (R_move (v := (.int .i64 ((k : Nat) : Int))) rfl ?_)
   refine O_v rfl (R_arith (a := ((k : Nat) : Int)) (b := 1) (r0 := ((k : Nat) : Int) + 1) (r := ((k + 1 : Nat) : Int)) rfl rfl rfl (wrapN _ (by omega)) ?_)
   refine O_v rfl (R_assign (v := (.int .i64 ((k + 1 : Nat) : Int))) rfl ?_)
   refine O_nil (Then_n ?_)
   refine ⟨_, ?_, (k + 1), acc, h7, rfl, (by omega), (aliveTo_out ha (by omega) (by assumption)), (by omega), _, envL_self ⟨rfl, rfl, rfl, rfl, trivial⟩, H16⟩
   omega
 ·have hc13 : ¬ (((k : Nat) : Int) < ((rows.length : Nat) : Int)) := (of_decide_eq_false hc13)
  refine W_exit (Then_x (Then_x (Blk_x (Then_n (W_seq (W_reg ?_))))))
  refine O_v rfl (R_move (v := (slV h7 acc)) rfl ?_)
  refine O_v rfl (R_assign (v := (slV h7 acc)) rfl ?_)
  refine O_nil (Then_n (W_ret ?_))
  refine ret_1 (v := (slV h7 acc)) Try.results9 rfl ?_
  have hE : acc = aliveRef rows := (by rw [ha, show k = rows.length from by omega]; exact aliveTo_all rows)
  refine ⟨h7, ?_, H12.gr, ?_⟩
  · exact congrArg (fun l => slV h7 l) hE
  · have hO := H12.retRow 0 rfl
    exact hE ▸ hO

end Go.Proofs.Ytiknfldhommmpaa
namespace Go.Proofs.Ytiknfldhommmpaa
open Go
set_option maxRecDepth 100000
set_option linter.unusedVariables false
set_option linter.unusedSimpArgs false
set_option maxHeartbeats 1000000 in
theorem ref14_sameData (ha : SlH) (a : List Head) (hb : SlH) (b : List Head) (w : World) (Sa : Sl (Old w) headCh 34 ha a w) (Sb : Sl (Old w) headCh 34 hb b w) :
    Calls Try.prog 31 #[(slV ha a), (slV hb b)] w (Ret fun v w' => v = (.bool (decide (datas a = datas b))) ∧ Ext w w') := by
 refine calls_W Try.func31 rfl Try.ntmps31 rfl ?_
 have H0 := Ctx.start w nob
 have H1 := H0.addSl _ Sa (fun b hb => ⟨hb, fun _ ho => (nomatch ho)⟩)
 have LSa := Sa.len
 have H2 := H1.addSl _ Sb (fun b hb => ⟨hb, fun _ ho => (nomatch ho)⟩)
 have LSb := Sb.len
 refine W_seq (W_reg ?_)
 refine O_v rfl (R_assign (v := (.bool false)) rfl ?_)
 refine O_nil (Then_n (W_seq (W_seq (W_reg ?_))))
 refine O_v rfl (R_move (v := (slV ha a)) rfl ?_)
 refine O_v rfl (R_len_slice (a := ha.a) (n := a.length) (c := ha.c) Try.underlying42 rfl ?_)
 refine O_v rfl (R_move (v := (slV hb b)) rfl ?_)
 refine O_v rfl (R_len_slice (a := hb.a) (n := b.length) (c := hb.c) Try.underlying42 rfl ?_)
 refine O_v rfl (R_cmp (a := ((a.length : Nat) : Int)) (b := ((b.length : Nat) : Int)) (r := (!(decide (((a.length : Nat) : Int) = ((b.length : Nat) : Int))))) rfl rfl rfl ?_)
 refine O_nil (Then_n ?_)
 refine W_cond (t := (!(decide (((a.length : Nat) : Int) = ((b.length : Nat) : Int))))) rfl (fun hc3 => ?_) (fun hc3 => ?_)
 ·have hc3 : ¬ (((a.length : Nat) : Int) = ((b.length : Nat) : Int)) := (of_decide_eq_false (notT hc3))
  refine W_seq (W_reg ?_)
  refine O_v rfl (R_assign (v := (.bool false)) rfl ?_)
  refine O_nil (Then_n (W_ret (Then_r ?_)))
  refine ret_1 (v := (.bool false)) Try.results31 rfl ?_
  exact ⟨(boolF (fun h => by have := (map_eq_nth.1 h).1; omega)), H2.gr⟩
 ·have hc3 : (((a.length : Nat) : Int) = ((b.length : Nat) : Int)) := (of_decide_eq_true (notF hc3))
  refine W_skip (Then_n (W_seq (W_seq (W_reg ?_))))
  refine O_v rfl (R_assign (v := (.int .i64 0)) rfl ?_)
  refine O_nil (Then_n (W_block ?_))
  refine W_loop (fun m4 e5 w6 => ∃ (k : Nat), m4 = a.length - k ∧ (k ≤ a.length) ∧ (∀ i, i < k → (nth a i).data = (nth b i).data) ∧ ∃ eb7, e5 = envL [(0, (slV ha a)), (1, (slV hb b)), (5, (.int .i64 ((k : Nat) : Int)))] eb7 ∧ Ctx w nob w6 [] [slI (Old w) headCh 34 hb b, slI (Old w) headCh 34 ha a]) _ ⟨0, rfl, (by omega), (all_zero _), _, envL_self ⟨rfl, rfl, rfl, trivial⟩, H2⟩ ?_
  rintro m4 _ w6 ⟨k, rfl, hk, hn, eb7, rfl, H8⟩
  refine W_seq (W_seq (W_reg ?_))
  refine O_v rfl (R_move (v := (.int .i64 ((k : Nat) : Int))) rfl ?_)
  refine O_v rfl (R_move (v := (slV ha a)) rfl ?_)
  refine O_v rfl (R_len_slice (a := ha.a) (n := a.length) (c := ha.c) Try.underlying42 rfl ?_)
  refine O_v rfl (R_cmp (a := ((k : Nat) : Int)) (b := ((a.length : Nat) : Int)) (r := (decide (((k : Nat) : Int) < ((a.length : Nat) : Int)))) rfl rfl rfl ?_)
  refine O_nil (Then_n ?_)
  refine W_cond (t := (decide (((k : Nat) : Int) < ((a.length : Nat) : Int)))) rfl (fun hc9 => ?_) (fun hc9 => ?_)
  ·have hc9 : (((k : Nat) : Int) < ((a.length : Nat) : Int)) := (of_decide_eq_true hc9)
   refine W_skip (Then_n (W_seq (W_block (W_seq ?_))))
   refine W_rgd TryMixed [(0, .q false), (1, .q false), (2, .q false), (3, .q false), (4, .q false), (5, .q false), (6, .q false), (7, .q false), (8, .q false), (9, .q false), (10, .q false)] (by kernel_rfl) ?_
   refine Lx_q (i := 0) rfl rfl _ (fun v10 hv11 => R_move (v := (slV ha a)) rfl ⟨rfl, Gr.refl _ _⟩) ?_
   refine Lx_q (i := 1) rfl rfl _ (fun v12 hv13 => R_move (v := (.int .i64 ((k : Nat) : Int))) rfl ⟨rfl, Gr.refl _ _⟩) ?_
   refine Lx_q (i := 2) rfl rfl _ (fun v14 hv15 => R_index_pure (H8.sl 1 rfl) (n := a.length) rfl (j := ((k : Nat) : Int)) (oo := (ha.o + k * 34)) Try.underlying42 Try.sizeOf62 rfl rfl (by omega) (by omega) rfl ⟨rfl, Gr.refl _ _⟩) ?_
   refine Lx_q (i := 3) rfl rfl _ (fun v16 hv17 => R_fieldAddr (off := 2) (oo := ((ha.o + k * 34) + 2)) Try.underlying62 rfl rfl Try.sizeOf36 rfl rfl ⟨rfl, Gr.refl _ _⟩) ?_
   refine Lx_q (i := 4) rfl rfl _ (fun v18 hv19 => R_loadA (cs := [(idCells ((nth a k).data))]) Try.isAgg36 Try.sizeOf36 rfl rfl ((Sl.elem ((H8.ext hv19).sl 1 rfl) (i := k) (by omega) rfl).chunks 2 1 2 ((ha.o + k * 34) + 2) _ rfl rfl rfl) ⟨rfl, Gr.refl _ _⟩) ?_
   refine Lx_q (i := 5) rfl rfl _ (fun v20 hv21 => R_move (v := (slV hb b)) rfl ⟨rfl, Gr.refl _ _⟩) ?_
   refine Lx_q (i := 6) rfl rfl _ (fun v22 hv23 => R_move (v := (.int .i64 ((k : Nat) : Int))) rfl ⟨rfl, Gr.refl _ _⟩) ?_
   refine Lx_q (i := 7) rfl rfl _ (fun v24 hv25 => R_index_pure (H8.sl 0 rfl) (n := b.length) rfl (j := ((k : Nat) : Int)) (oo := (hb.o + k * 34)) Try.underlying42 Try.sizeOf62 rfl rfl (by omega) (by omega) rfl ⟨rfl, Gr.refl _ _⟩) ?_
   refine Lx_q (i := 8) rfl rfl _ (fun v26 hv27 => R_fieldAddr (off := 2) (oo := ((hb.o + k * 34) + 2)) Try.underlying62 rfl rfl Try.sizeOf36 rfl rfl ⟨rfl, Gr.refl _ _⟩) ?_
   refine Lx_q (i := 9) rfl rfl _ (fun v28 hv29 => R_loadA (cs := [(idCells ((nth b k).data))]) Try.isAgg36 Try.sizeOf36 rfl rfl ((Sl.elem ((H8.ext hv29).sl 0 rfl) (i := k) (by omega) rfl).chunks 2 1 2 ((hb.o + k * 34) + 2) _ rfl rfl rfl) ⟨rfl, Gr.refl _ _⟩) ?_
   refine Lx_q (i := 10) rfl rfl _ (fun v30 hv31 => R_nev (a := (nth a k).data) (b := (nth b k).data) eqv_ID36 rfl Try.eqGuardType36 rfl rfl ⟨rfl, Gr.refl _ _⟩) ?_
   refine Lx_nil (fun w32 hw33 => ?_)
   have H34 := H8.ext hw33
   refine Then_n ?_
   refine W_cond (t := (!(decide ((nth a k).data = (nth b k).data)))) rfl (fun hc35 => ?_) (fun hc35 => ?_)
   ·have hc35 : ¬ ((nth a k).data = (nth b k).data) := (of_decide_eq_false (notT hc35))
    refine W_seq (W_reg ?_)
    refine O_v rfl (R_assign (v := (.bool false)) rfl ?_)
    refine O_nil (Then_n (W_ret (Blk_r (Then_r (Then_r (Blk_r (Then_r ?_)))))))
    refine ret_1 (v := (.bool false)) Try.results31 rfl ?_
    exact ⟨(boolF (fun h => absurd ((map_eq_nth.1 h).2 k (by omega)) (by assumption))), H34.gr⟩
   ·have hc35 : ((nth a k).data = (nth b k).data) := (of_decide_eq_true (notF hc35))
    refine W_skip (Blk_n (Then_n (W_reg ?_)))
    refine O_v rfl (R_move (v := (.int .i64 ((k : Nat) : Int))) rfl ?_)
    refine O_v rfl (R_arith (a := ((k : Nat) : Int)) (b := 1) (r0 := ((k : Nat) : Int) + 1) (r := ((k + 1 : Nat) : Int)) rfl rfl rfl (wrapN _ (by omega)) ?_)
    refine O_v rfl (R_assign (v := (.int .i64 ((k + 1 : Nat) : Int))) rfl ?_)
    refine O_nil (Then_n ?_)
    refine ⟨_, ?_, (k + 1), rfl, (by omega), (all_succ hn (by assumption)), _, envL_self ⟨rfl, rfl, rfl, trivial⟩, H34⟩
    omega
  ·have hc9 : ¬ (((k : Nat) : Int) < ((a.length : Nat) : Int)) := (of_decide_eq_false hc9)
   refine W_exit (Then_x (Then_x (Blk_x (Then_n (W_seq (W_reg ?_))))))
   refine O_v rfl (R_assign (v := (.bool true)) rfl ?_)
   refine O_nil (Then_n (W_ret ?_))
   refine ret_1 (v := (.bool true)) Try.results31 rfl ?_
   exact ⟨(boolT (map_eq_nth.2 ⟨by omega, by rwa [show a.length = k from by omega]⟩)), H8.gr⟩

end Go.Proofs.Ytiknfldhommmpaa
namespace Go.Proofs.Ytiknfldhommmpaa
open Go
set_option maxRecDepth 100000
set_option linter.unusedVariables false
set_option linter.unusedSimpArgs false
theorem ref14_Alike_c9 : callable Try.prog 9 = true := by kernel_rfl
theorem ref14_Alike_c31 : callable Try.prog 31 = true := by kernel_rfl
set_option maxHeartbeats 1000000 in
theorem ref14_Alike (ha : SlH) (a : List RowS) (hb : SlH) (b : List RowS) (w : World) (Sa : Sl (Old w) rowCh 8 ha a w) (Da_heads : ∀ x ∈ a, Sl (Old w) headCh 34 x.hh x.heads w) (Sb : Sl (Old w) rowCh 8 hb b w) (Db_heads : ∀ x ∈ b, Sl (Old w) headCh 34 x.hh x.heads w) (hla : a.length ≤ 1048576) (hlb : b.length ≤ 1048576) :
    Calls Try.prog 11 #[(slV ha a), (slV hb b)] w (Ret fun v w' => v = (.bool (alikeRef a b)) ∧ Ext w w') := by
 refine calls_W Try.func11 rfl Try.ntmps11 rfl ?_
 have H0 := Ctx.start w nob
 have H1 := H0.addSl _ Sa (fun b hb => ⟨hb, fun _ ho => (nomatch ho)⟩)
 have LSa := Sa.len
 have H2 := H1.addImm' (deepI (Old w) headCh 34 (fun x : RowS => x.hh) (fun x : RowS => x.heads) a) Da_heads (fun b hb => ⟨hb, fun _ ho => (nomatch ho)⟩)
 have H3 := H2.addSl _ Sb (fun b hb => ⟨hb, fun _ ho => (nomatch ho)⟩)
 have LSb := Sb.len
 have H4 := H3.addImm' (deepI (Old w) headCh 34 (fun x : RowS => x.hh) (fun x : RowS => x.heads) b) Db_heads (fun b hb => ⟨hb, fun _ ho => (nomatch ho)⟩)
 have hfa := aliveRef_le a
 have hfb := aliveRef_le b
 refine W_seq (W_reg ?_)
 refine O_v rfl (R_assign (v := (.bool false)) rfl ?_)
 refine O_nil (Then_n (W_seq (W_reg ?_)))
 refine O_v rfl (R_move (v := (slV ha a)) rfl ?_)
 refine O_v rfl (R_callL (vs := [(slV ha a)]) ref14_Alike_c9 rfl rfl ((ref14_Alive ha a w (H4.slOld 3 rfl) (by omega)).ret ?_))
 rintro _ w6 ⟨h5, rfl, hx7, ho8⟩
 have H9 := H4.addRow hx7 ho8
 refine O_v rfl (R_move (v := (slV hb b)) rfl ?_)
 refine O_v rfl (R_callL (vs := [(slV hb b)]) ref14_Alike_c9 rfl rfl ((ref14_Alive hb b w6 (H9.slOld 1 rfl) (by omega)).ret ?_))
 rintro _ w11 ⟨h10, rfl, hx12, ho13⟩
 have H14 := H9.addRow hx12 ho13
 refine O_v rfl (R_assign (v := (slV h5 (aliveRef a))) rfl ?_)
 refine O_v rfl (R_assign (v := (slV h10 (aliveRef b))) rfl ?_)
 refine O_nil (Then_n (W_seq (W_seq (W_reg ?_))))
 refine O_v rfl (R_move (v := (slV h5 (aliveRef a))) rfl ?_)
 refine O_v rfl (R_len_slice (a := h5.a) (n := (aliveRef a).length) (c := h5.c) Try.underlying22 rfl ?_)
 refine O_v rfl (R_move (v := (slV h10 (aliveRef b))) rfl ?_)
 refine O_v rfl (R_len_slice (a := h10.a) (n := (aliveRef b).length) (c := h10.c) Try.underlying22 rfl ?_)
 refine O_v rfl (R_cmp (a := (((aliveRef a).length : Nat) : Int)) (b := (((aliveRef b).length : Nat) : Int)) (r := (!(decide ((((aliveRef a).length : Nat) : Int) = (((aliveRef b).length : Nat) : Int))))) rfl rfl rfl ?_)
 refine O_nil (Then_n ?_)
 refine W_cond (t := (!(decide ((((aliveRef a).length : Nat) : Int) = (((aliveRef b).length : Nat) : Int))))) rfl (fun hc15 => ?_) (fun hc15 => ?_)
 ·have hc15 : ¬ ((((aliveRef a).length : Nat) : Int) = (((aliveRef b).length : Nat) : Int)) := (of_decide_eq_false (notT hc15))
  refine W_seq (W_reg ?_)
  refine O_v rfl (R_assign (v := (.bool false)) rfl ?_)
  refine O_nil (Then_n (W_ret (Then_r ?_)))
  refine ret_1 (v := (.bool false)) Try.results11 rfl ?_
  exact ⟨(boolF (fun h => by have := (map_eq_nth.1 h).1; omega)), H14.gr⟩
 ·have hc15 : ((((aliveRef a).length : Nat) : Int) = (((aliveRef b).length : Nat) : Int)) := (of_decide_eq_true (notF hc15))
  refine W_skip (Then_n (W_seq (W_seq (W_reg ?_))))
  refine O_v rfl (R_assign (v := (.int .i64 0)) rfl ?_)
  refine O_nil (Then_n (W_block ?_))
  refine W_loop (fun m16 e17 w18 => ∃ (k : Nat), m16 = (aliveRef a).length - k ∧ (k ≤ (aliveRef a).length) ∧ (∀ i, i < k → rowD (nth (aliveRef a) i) = rowD (nth (aliveRef b) i)) ∧ ∃ eb19, e17 = envL [(5, (slV h5 (aliveRef a))), (6, (slV h10 (aliveRef b))), (7, (.int .i64 ((k : Nat) : Int)))] eb19 ∧ Ctx w nob w18 [rowR 44 8 rowCh h10 (aliveRef b), rowR 44 8 rowCh h5 (aliveRef a)] [deepI (Old w) headCh 34 (fun x : RowS => x.hh) (fun x : RowS => x.heads) b, slI (Old w) rowCh 8 hb b, deepI (Old w) headCh 34 (fun x : RowS => x.hh) (fun x : RowS => x.heads) a, slI (Old w) rowCh 8 ha a]) _ ⟨0, rfl, (by omega), (all_zero _), _, envL_self ⟨rfl, rfl, rfl, trivial⟩, H14⟩ ?_
  rintro m16 _ w18 ⟨k, rfl, hk, hn, eb19, rfl, H20⟩
  refine W_seq (W_seq (W_reg ?_))
  refine O_v rfl (R_move (v := (.int .i64 ((k : Nat) : Int))) rfl ?_)
  refine O_v rfl (R_move (v := (slV h5 (aliveRef a))) rfl ?_)
  refine O_v rfl (R_len_slice (a := h5.a) (n := (aliveRef a).length) (c := h5.c) Try.underlying22 rfl ?_)
  refine O_v rfl (R_cmp (a := ((k : Nat) : Int)) (b := (((aliveRef a).length : Nat) : Int)) (r := (decide (((k : Nat) : Int) < (((aliveRef a).length : Nat) : Int)))) rfl rfl rfl ?_)
  refine O_nil (Then_n ?_)
  refine W_cond (t := (decide (((k : Nat) : Int) < (((aliveRef a).length : Nat) : Int)))) rfl (fun hc21 => ?_) (fun hc21 => ?_)
  ·have hc21 : (((k : Nat) : Int) < (((aliveRef a).length : Nat) : Int)) := (of_decide_eq_true hc21)
   refine W_skip (Then_n (W_seq (W_block (W_seq ?_))))
   refine W_rgd TryMixed [(0, .q false), (1, .q false), (2, .q false), (3, .q false), (4, .q false), (5, .q false), (6, .q false), (7, .q false), (8, .q false), (9, .q false), (10, .q false), (11, .q false), (12, .q false), (13, .q false), (14, .q false), (15, .q false), (16, .q false), (17, .q false), (18, .q false), (19, .q false), (20, .q false), (21, .q false), (22, .q false), (23, .q false), (24, .q false), (25, .q false), (26, .q false), (27, .q false), (28, .q false), (29, .q false), (30, .q false), (31, .q false), (32, .q false), (33, .q false), (34, .q false), (35, .q false), (36, .q false), (37, .q false), (38, .q false), (39, .q false), (40, .q false), (41, .q false), (42, .q false), (43, .q false), (44, .q false), (45, .q false), (46, .q false), (47, .q false), (48, .q false), (49, .q false), (50, .q false)] (by kernel_rfl) ?_
   refine Lx_q (i := 0) rfl rfl _ (fun v22 hv23 => R_move (v := (slV h5 (aliveRef a))) rfl ⟨rfl, Gr.refl _ _⟩) ?_
   refine Lx_q (i := 1) rfl rfl _ (fun v24 hv25 => R_move (v := (.int .i64 ((k : Nat) : Int))) rfl ⟨rfl, Gr.refl _ _⟩) ?_
   refine Lx_q (i := 2) rfl rfl _ (fun v26 hv27 => R_index_pure (OwnS.sl (H20.getOwn 1 rfl) (fun _ => rfl)) (n := (aliveRef a).length) rfl (j := ((k : Nat) : Int)) (oo := (h5.o + k * 8)) Try.underlying22 Try.sizeOf44 rfl rfl (by omega) (by omega) rfl ⟨rfl, Gr.refl _ _⟩) ?_
   refine Lx_q (i := 3) rfl rfl _ (fun v28 hv29 => R_fieldAddr (off := 0) (oo := (h5.o + k * 8)) Try.underlying44 rfl rfl Try.sizeOf24 rfl rfl ⟨rfl, Gr.refl _ _⟩) ?_
   refine Lx_q (i := 4) rfl rfl _ (fun v30 hv31 => R_loadA (cs := [[(.int .i64 (((nth (aliveRef a) k).node).T))], [(.int .i64 (((nth (aliveRef a) k).node).R))]]) Try.isAgg24 Try.sizeOf24 rfl rfl ((Sl.elem (OwnS.sl ((H20.ext hv31).getOwn 1 rfl) (fun _ => rfl)) (i := k) (by omega) rfl).chunks 0 2 0 (h5.o + k * 8) _ rfl rfl rfl) ⟨rfl, Gr.refl _ _⟩) ?_
   refine Lx_q (i := 5) rfl rfl _ (fun v32 hv33 => R_move (v := (slV h10 (aliveRef b))) rfl ⟨rfl, Gr.refl _ _⟩) ?_
   refine Lx_q (i := 6) rfl rfl _ (fun v34 hv35 => R_move (v := (.int .i64 ((k : Nat) : Int))) rfl ⟨rfl, Gr.refl _ _⟩) ?_
   refine Lx_q (i := 7) rfl rfl _ (fun v36 hv37 => R_index_pure (OwnS.sl (H20.getOwn 0 rfl) (fun _ => rfl)) (n := (aliveRef b).length) rfl (j := ((k : Nat) : Int)) (oo := (h10.o + k * 8)) Try.underlying22 Try.sizeOf44 rfl rfl (by omega) (by omega) rfl ⟨rfl, Gr.refl _ _⟩) ?_
   refine Lx_q (i := 8) rfl rfl _ (fun v38 hv39 => R_fieldAddr (off := 0) (oo := (h10.o + k * 8)) Try.underlying44 rfl rfl Try.sizeOf24 rfl rfl ⟨rfl, Gr.refl _ _⟩) ?_
   refine Lx_q (i := 9) rfl rfl _ (fun v40 hv41 => R_loadA (cs := [[(.int .i64 (((nth (aliveRef b) k).node).T))], [(.int .i64 (((nth (aliveRef b) k).node).R))]]) Try.isAgg24 Try.sizeOf24 rfl rfl ((Sl.elem (OwnS.sl ((H20.ext hv41).getOwn 0 rfl) (fun _ => rfl)) (i := k) (by omega) rfl).chunks 0 2 0 (h10.o + k * 8) _ rfl rfl rfl) ⟨rfl, Gr.refl _ _⟩) ?_
   refine Lx_q (i := 10) rfl rfl _ (fun v42 hv43 => R_nev (a := ((nth (aliveRef a) k).node)) (b := ((nth (aliveRef b) k).node)) eqv_Stamp24 rfl Try.eqGuardType24 rfl rfl ⟨rfl, Gr.refl _ _⟩) ?_
   refine Lx_q (i := 11) rfl rfl _ (fun v44 hv45 => R_move (v := (.bool (!(decide (((nth (aliveRef a) k).node) = ((nth (aliveRef b) k).node)))))) rfl ⟨rfl, Gr.refl _ _⟩) ?_
   refine Lx_qg (i := 12) true (!(decide (((nth (aliveRef a) k).node) = ((nth (aliveRef b) k).node)))) rfl rfl rfl rfl rfl (!(!(decide (((nth (aliveRef a) k).node) = ((nth (aliveRef b) k).node))))) ga_f _ (fun hA v46 hv47 => R_move (v := (slV h5 (aliveRef a))) rfl ⟨rfl, Gr.refl _ _⟩) ?_
   refine Lx_qg (i := 13) true (!(decide (((nth (aliveRef a) k).node) = ((nth (aliveRef b) k).node)))) rfl rfl rfl rfl rfl (!(!(decide (((nth (aliveRef a) k).node) = ((nth (aliveRef b) k).node))))) ga_f _ (fun hA v48 hv49 => R_move (v := (.int .i64 ((k : Nat) : Int))) rfl ⟨rfl, Gr.refl _ _⟩) ?_
   refine Lx_qg (i := 14) true (!(decide (((nth (aliveRef a) k).node) = ((nth (aliveRef b) k).node)))) rfl rfl rfl rfl rfl (!(!(decide (((nth (aliveRef a) k).node) = ((nth (aliveRef b) k).node))))) ga_f _ (fun hA v50 hv51 => by
          have hP : (((nth (aliveRef a) k).node) = ((nth (aliveRef b) k).node)) := (of_decide_eq_true (notF (notT hA)))
          exact R_index_pure (OwnS.sl (H20.getOwn 1 rfl) (fun _ => rfl)) (n := (aliveRef a).length) rfl (j := ((k : Nat) : Int)) (oo := (h5.o + k * 8)) Try.underlying22 Try.sizeOf44 (gv_t hA) (gv_t hA) (by omega) (by omega) rfl ⟨rfl, Gr.refl _ _⟩) ?_
   refine Lx_qg (i := 15) true (!(decide (((nth (aliveRef a) k).node) = ((nth (aliveRef b) k).node)))) rfl rfl rfl rfl rfl (!(!(decide (((nth (aliveRef a) k).node) = ((nth (aliveRef b) k).node))))) ga_f _ (fun hA v52 hv53 => R_fieldAddr (off := 2) (oo := ((h5.o + k * 8) + 2)) Try.underlying44 rfl rfl Try.sizeOf24 (gv_t hA) rfl ⟨rfl, Gr.refl _ _⟩) ?_
   refine Lx_qg (i := 16) true (!(decide (((nth (aliveRef a) k).node) = ((nth (aliveRef b) k).node)))) rfl rfl rfl rfl rfl (!(!(decide (((nth (aliveRef a) k).node) = ((nth (aliveRef b) k).node))))) ga_f _ (fun hA v54 hv55 => by
          have hP : (((nth (aliveRef a) k).node) = ((nth (aliveRef b) k).node)) := (of_decide_eq_true (notF (notT hA)))
          exact R_loadA (cs := [[(.int .i64 (((nth (aliveRef a) k).par).T))], [(.int .i64 (((nth (aliveRef a) k).par).R))]]) Try.isAgg24 Try.sizeOf24 rfl (gv_t hA) ((Sl.elem (OwnS.sl ((H20.ext hv55).getOwn 1 rfl) (fun _ => rfl)) (i := k) (by omega) rfl).chunks 2 2 2 ((h5.o + k * 8) + 2) _ rfl rfl rfl) ⟨rfl, Gr.refl _ _⟩) ?_
   refine Lx_qg (i := 17) true (!(decide (((nth (aliveRef a) k).node) = ((nth (aliveRef b) k).node)))) rfl rfl rfl rfl rfl (!(!(decide (((nth (aliveRef a) k).node) = ((nth (aliveRef b) k).node))))) ga_f _ (fun hA v56 hv57 => R_move (v := (slV h10 (aliveRef b))) rfl ⟨rfl, Gr.refl _ _⟩) ?_
   refine Lx_qg (i := 18) true (!(decide (((nth (aliveRef a) k).node) = ((nth (aliveRef b) k).node)))) rfl rfl rfl rfl rfl (!(!(decide (((nth (aliveRef a) k).node) = ((nth (aliveRef b) k).node))))) ga_f _ (fun hA v58 hv59 => R_move (v := (.int .i64 ((k : Nat) : Int))) rfl ⟨rfl, Gr.refl _ _⟩) ?_
   refine Lx_qg (i := 19) true (!(decide (((nth (aliveRef a) k).node) = ((nth (aliveRef b) k).node)))) rfl rfl rfl rfl rfl (!(!(decide (((nth (aliveRef a) k).node) = ((nth (aliveRef b) k).node))))) ga_f _ (fun hA v60 hv61 => by
          have hP : (((nth (aliveRef a) k).node) = ((nth (aliveRef b) k).node)) := (of_decide_eq_true (notF (notT hA)))
          exact R_index_pure (OwnS.sl (H20.getOwn 0 rfl) (fun _ => rfl)) (n := (aliveRef b).length) rfl (j := ((k : Nat) : Int)) (oo := (h10.o + k * 8)) Try.underlying22 Try.sizeOf44 (gv_t hA) (gv_t hA) (by omega) (by omega) rfl ⟨rfl, Gr.refl _ _⟩) ?_
   refine Lx_qg (i := 20) true (!(decide (((nth (aliveRef a) k).node) = ((nth (aliveRef b) k).node)))) rfl rfl rfl rfl rfl (!(!(decide (((nth (aliveRef a) k).node) = ((nth (aliveRef b) k).node))))) ga_f _ (fun hA v62 hv63 => R_fieldAddr (off := 2) (oo := ((h10.o + k * 8) + 2)) Try.underlying44 rfl rfl Try.sizeOf24 (gv_t hA) rfl ⟨rfl, Gr.refl _ _⟩) ?_
   refine Lx_qg (i := 21) true (!(decide (((nth (aliveRef a) k).node) = ((nth (aliveRef b) k).node)))) rfl rfl rfl rfl rfl (!(!(decide (((nth (aliveRef a) k).node) = ((nth (aliveRef b) k).node))))) ga_f _ (fun hA v64 hv65 => by
          have hP : (((nth (aliveRef a) k).node) = ((nth (aliveRef b) k).node)) := (of_decide_eq_true (notF (notT hA)))
          exact R_loadA (cs := [[(.int .i64 (((nth (aliveRef b) k).par).T))], [(.int .i64 (((nth (aliveRef b) k).par).R))]]) Try.isAgg24 Try.sizeOf24 rfl (gv_t hA) ((Sl.elem (OwnS.sl ((H20.ext hv65).getOwn 0 rfl) (fun _ => rfl)) (i := k) (by omega) rfl).chunks 2 2 2 ((h10.o + k * 8) + 2) _ rfl rfl rfl) ⟨rfl, Gr.refl _ _⟩) ?_
   refine Lx_qg (i := 22) true (!(decide (((nth (aliveRef a) k).node) = ((nth (aliveRef b) k).node)))) rfl rfl rfl rfl rfl (!(!(decide (((nth (aliveRef a) k).node) = ((nth (aliveRef b) k).node))))) ga_f _ (fun hA v66 hv67 => R_nev (a := ((nth (aliveRef a) k).par)) (b := ((nth (aliveRef b) k).par)) eqv_Stamp24 rfl Try.eqGuardType24 (gv_t hA) (gv_t hA) ⟨rfl, Gr.refl _ _⟩) ?_
   refine Lx_q (i := 23) rfl rfl _ (fun v68 hv69 => R_pick (t := (!(decide (((nth (aliveRef a) k).node) = ((nth (aliveRef b) k).node))))) (v := (.bool ((!(decide (((nth (aliveRef a) k).node) = ((nth (aliveRef b) k).node)))) || (!(decide (((nth (aliveRef a) k).par) = ((nth (aliveRef b) k).par))))))) rfl pk_or ⟨rfl, Gr.refl _ _⟩) ?_
   refine Lx_q (i := 24) rfl rfl _ (fun v70 hv71 => R_move (v := (.bool ((!(decide (((nth (aliveRef a) k).node) = ((nth (aliveRef b) k).node)))) || (!(decide (((nth (aliveRef a) k).par) = ((nth (aliveRef b) k).par))))))) rfl ⟨rfl, Gr.refl _ _⟩) ?_
   refine Lx_qg (i := 25) true ((!(decide (((nth (aliveRef a) k).node) = ((nth (aliveRef b) k).node)))) || (!(decide (((nth (aliveRef a) k).par) = ((nth (aliveRef b) k).par))))) rfl rfl rfl rfl rfl (!((!(decide (((nth (aliveRef a) k).node) = ((nth (aliveRef b) k).node)))) || (!(decide (((nth (aliveRef a) k).par) = ((nth (aliveRef b) k).par)))))) ga_f _ (fun hA v72 hv73 => R_move (v := (slV h5 (aliveRef a))) rfl ⟨rfl, Gr.refl _ _⟩) ?_
   refine Lx_qg (i := 26) true ((!(decide (((nth (aliveRef a) k).node) = ((nth (aliveRef b) k).node)))) || (!(decide (((nth (aliveRef a) k).par) = ((nth (aliveRef b) k).par))))) rfl rfl rfl rfl rfl (!((!(decide (((nth (aliveRef a) k).node) = ((nth (aliveRef b) k).node)))) || (!(decide (((nth (aliveRef a) k).par) = ((nth (aliveRef b) k).par)))))) ga_f _ (fun hA v74 hv75 => R_move (v := (.int .i64 ((k : Nat) : Int))) rfl ⟨rfl, Gr.refl _ _⟩) ?_
   refine Lx_qg (i := 27) true ((!(decide (((nth (aliveRef a) k).node) = ((nth (aliveRef b) k).node)))) || (!(decide (((nth (aliveRef a) k).par) = ((nth (aliveRef b) k).par))))) rfl rfl rfl rfl rfl (!((!(decide (((nth (aliveRef a) k).node) = ((nth (aliveRef b) k).node)))) || (!(decide (((nth (aliveRef a) k).par) = ((nth (aliveRef b) k).par)))))) ga_f _ (fun hA v76 hv77 => by
          have hP : ((((nth (aliveRef a) k).node) = ((nth (aliveRef b) k).node)) ∧ (((nth (aliveRef a) k).par) = ((nth (aliveRef b) k).par))) := (And.imp (fun h => (of_decide_eq_true (notF h))) (fun h => (of_decide_eq_true (notF h))) (orF (notT hA)))
          exact R_index_pure (OwnS.sl (H20.getOwn 1 rfl) (fun _ => rfl)) (n := (aliveRef a).length) rfl (j := ((k : Nat) : Int)) (oo := (h5.o + k * 8)) Try.underlying22 Try.sizeOf44 (gv_t hA) (gv_t hA) (by omega) (by omega) rfl ⟨rfl, Gr.refl _ _⟩) ?_
   refine Lx_qg (i := 28) true ((!(decide (((nth (aliveRef a) k).node) = ((nth (aliveRef b) k).node)))) || (!(decide (((nth (aliveRef a) k).par) = ((nth (aliveRef b) k).par))))) rfl rfl rfl rfl rfl (!((!(decide (((nth (aliveRef a) k).node) = ((nth (aliveRef b) k).node)))) || (!(decide (((nth (aliveRef a) k).par) = ((nth (aliveRef b) k).par)))))) ga_f _ (fun hA v78 hv79 => R_fieldAddr (off := 6) (oo := ((h5.o + k * 8) + 6)) Try.underlying44 rfl rfl Try.sizeOf9 (gv_t hA) rfl ⟨rfl, Gr.refl _ _⟩) ?_
   refine Lx_qg (i := 29) true ((!(decide (((nth (aliveRef a) k).node) = ((nth (aliveRef b) k).node)))) || (!(decide (((nth (aliveRef a) k).par) = ((nth (aliveRef b) k).par))))) rfl rfl rfl rfl rfl (!((!(decide (((nth (aliveRef a) k).node) = ((nth (aliveRef b) k).node)))) || (!(decide (((nth (aliveRef a) k).par) = ((nth (aliveRef b) k).par)))))) ga_f _ (fun hA v80 hv81 => by
          have hP : ((((nth (aliveRef a) k).node) = ((nth (aliveRef b) k).node)) ∧ (((nth (aliveRef a) k).par) = ((nth (aliveRef b) k).par))) := (And.imp (fun h => (of_decide_eq_true (notF h))) (fun h => (of_decide_eq_true (notF h))) (orF (notT hA)))
          exact R_load1 (v := (.string ((nth (aliveRef a) k).name))) Try.isAgg9 (gv_t hA) ((Sl.elem (OwnS.sl ((H20.ext hv81).getOwn 1 rfl) (fun _ => rfl)) (i := k) (by omega) rfl).chunks 6 1 6 ((h5.o + k * 8) + 6) _ rfl rfl rfl) ⟨rfl, Gr.refl _ _⟩) ?_
   refine Lx_qg (i := 30) true ((!(decide (((nth (aliveRef a) k).node) = ((nth (aliveRef b) k).node)))) || (!(decide (((nth (aliveRef a) k).par) = ((nth (aliveRef b) k).par))))) rfl rfl rfl rfl rfl (!((!(decide (((nth (aliveRef a) k).node) = ((nth (aliveRef b) k).node)))) || (!(decide (((nth (aliveRef a) k).par) = ((nth (aliveRef b) k).par)))))) ga_f _ (fun hA v82 hv83 => R_move (v := (slV h10 (aliveRef b))) rfl ⟨rfl, Gr.refl _ _⟩) ?_
   refine Lx_qg (i := 31) true ((!(decide (((nth (aliveRef a) k).node) = ((nth (aliveRef b) k).node)))) || (!(decide (((nth (aliveRef a) k).par) = ((nth (aliveRef b) k).par))))) rfl rfl rfl rfl rfl (!((!(decide (((nth (aliveRef a) k).node) = ((nth (aliveRef b) k).node)))) || (!(decide (((nth (aliveRef a) k).par) = ((nth (aliveRef b) k).par)))))) ga_f _ (fun hA v84 hv85 => R_move (v := (.int .i64 ((k : Nat) : Int))) rfl ⟨rfl, Gr.refl _ _⟩) ?_
   refine Lx_qg (i := 32) true ((!(decide (((nth (aliveRef a) k).node) = ((nth (aliveRef b) k).node)))) || (!(decide (((nth (aliveRef a) k).par) = ((nth (aliveRef b) k).par))))) rfl rfl rfl rfl rfl (!((!(decide (((nth (aliveRef a) k).node) = ((nth (aliveRef b) k).node)))) || (!(decide (((nth (aliveRef a) k).par) = ((nth (aliveRef b) k).par)))))) ga_f _ (fun hA v86 hv87 => by
          have hP : ((((nth (aliveRef a) k).node) = ((nth (aliveRef b) k).node)) ∧ (((nth (aliveRef a) k).par) = ((nth (aliveRef b) k).par))) := (And.imp (fun h => (of_decide_eq_true (notF h))) (fun h => (of_decide_eq_true (notF h))) (orF (notT hA)))
          exact R_index_pure (OwnS.sl (H20.getOwn 0 rfl) (fun _ => rfl)) (n := (aliveRef b).length) rfl (j := ((k : Nat) : Int)) (oo := (h10.o + k * 8)) Try.underlying22 Try.sizeOf44 (gv_t hA) (gv_t hA) (by omega) (by omega) rfl ⟨rfl, Gr.refl _ _⟩) ?_
   refine Lx_qg (i := 33) true ((!(decide (((nth (aliveRef a) k).node) = ((nth (aliveRef b) k).node)))) || (!(decide (((nth (aliveRef a) k).par) = ((nth (aliveRef b) k).par))))) rfl rfl rfl rfl rfl (!((!(decide (((nth (aliveRef a) k).node) = ((nth (aliveRef b) k).node)))) || (!(decide (((nth (aliveRef a) k).par) = ((nth (aliveRef b) k).par)))))) ga_f _ (fun hA v88 hv89 => R_fieldAddr (off := 6) (oo := ((h10.o + k * 8) + 6)) Try.underlying44 rfl rfl Try.sizeOf9 (gv_t hA) rfl ⟨rfl, Gr.refl _ _⟩) ?_
   refine Lx_qg (i := 34) true ((!(decide (((nth (aliveRef a) k).node) = ((nth (aliveRef b) k).node)))) || (!(decide (((nth (aliveRef a) k).par) = ((nth (aliveRef b) k).par))))) rfl rfl rfl rfl rfl (!((!(decide (((nth (aliveRef a) k).node) = ((nth (aliveRef b) k).node)))) || (!(decide (((nth (aliveRef a) k).par) = ((nth (aliveRef b) k).par)))))) ga_f _ (fun hA v90 hv91 => by
          have hP : ((((nth (aliveRef a) k).node) = ((nth (aliveRef b) k).node)) ∧ (((nth (aliveRef a) k).par) = ((nth (aliveRef b) k).par))) := (And.imp (fun h => (of_decide_eq_true (notF h))) (fun h => (of_decide_eq_true (notF h))) (orF (notT hA)))
          exact R_load1 (v := (.string ((nth (aliveRef b) k).name))) Try.isAgg9 (gv_t hA) ((Sl.elem (OwnS.sl ((H20.ext hv91).getOwn 0 rfl) (fun _ => rfl)) (i := k) (by omega) rfl).chunks 6 1 6 ((h10.o + k * 8) + 6) _ rfl rfl rfl) ⟨rfl, Gr.refl _ _⟩) ?_
   refine Lx_qg (i := 35) true ((!(decide (((nth (aliveRef a) k).node) = ((nth (aliveRef b) k).node)))) || (!(decide (((nth (aliveRef a) k).par) = ((nth (aliveRef b) k).par))))) rfl rfl rfl rfl rfl (!((!(decide (((nth (aliveRef a) k).node) = ((nth (aliveRef b) k).node)))) || (!(decide (((nth (aliveRef a) k).par) = ((nth (aliveRef b) k).par)))))) ga_f _ (fun hA v92 hv93 => R_cmpS (a := (nth (aliveRef a) k).name) (b := (nth (aliveRef b) k).name) (r := (!(decide ((nth (aliveRef a) k).name = (nth (aliveRef b) k).name)))) (gv_t hA) (gv_t hA) rfl ⟨rfl, Gr.refl _ _⟩) ?_
   refine Lx_q (i := 36) rfl rfl _ (fun v94 hv95 => R_pick (t := ((!(decide (((nth (aliveRef a) k).node) = ((nth (aliveRef b) k).node)))) || (!(decide (((nth (aliveRef a) k).par) = ((nth (aliveRef b) k).par)))))) (v := (.bool (((!(decide (((nth (aliveRef a) k).node) = ((nth (aliveRef b) k).node)))) || (!(decide (((nth (aliveRef a) k).par) = ((nth (aliveRef b) k).par))))) || (!(decide ((nth (aliveRef a) k).name = (nth (aliveRef b) k).name)))))) rfl pk_or ⟨rfl, Gr.refl _ _⟩) ?_
   refine Lx_q (i := 37) rfl rfl _ (fun v96 hv97 => R_move (v := (.bool (((!(decide (((nth (aliveRef a) k).node) = ((nth (aliveRef b) k).node)))) || (!(decide (((nth (aliveRef a) k).par) = ((nth (aliveRef b) k).par))))) || (!(decide ((nth (aliveRef a) k).name = (nth (aliveRef b) k).name)))))) rfl ⟨rfl, Gr.refl _ _⟩) ?_
   refine Lx_qg (i := 38) true (((!(decide (((nth (aliveRef a) k).node) = ((nth (aliveRef b) k).node)))) || (!(decide (((nth (aliveRef a) k).par) = ((nth (aliveRef b) k).par))))) || (!(decide ((nth (aliveRef a) k).name = (nth (aliveRef b) k).name)))) rfl rfl rfl rfl rfl (!(((!(decide (((nth (aliveRef a) k).node) = ((nth (aliveRef b) k).node)))) || (!(decide (((nth (aliveRef a) k).par) = ((nth (aliveRef b) k).par))))) || (!(decide ((nth (aliveRef a) k).name = (nth (aliveRef b) k).name))))) ga_f _ (fun hA v98 hv99 => R_move (v := (slV h5 (aliveRef a))) rfl ⟨rfl, Gr.refl _ _⟩) ?_
   refine Lx_qg (i := 39) true (((!(decide (((nth (aliveRef a) k).node) = ((nth (aliveRef b) k).node)))) || (!(decide (((nth (aliveRef a) k).par) = ((nth (aliveRef b) k).par))))) || (!(decide ((nth (aliveRef a) k).name = (nth (aliveRef b) k).name)))) rfl rfl rfl rfl rfl (!(((!(decide (((nth (aliveRef a) k).node) = ((nth (aliveRef b) k).node)))) || (!(decide (((nth (aliveRef a) k).par) = ((nth (aliveRef b) k).par))))) || (!(decide ((nth (aliveRef a) k).name = (nth (aliveRef b) k).name))))) ga_f _ (fun hA v100 hv101 => R_move (v := (.int .i64 ((k : Nat) : Int))) rfl ⟨rfl, Gr.refl _ _⟩) ?_
   refine Lx_qg (i := 40) true (((!(decide (((nth (aliveRef a) k).node) = ((nth (aliveRef b) k).node)))) || (!(decide (((nth (aliveRef a) k).par) = ((nth (aliveRef b) k).par))))) || (!(decide ((nth (aliveRef a) k).name = (nth (aliveRef b) k).name)))) rfl rfl rfl rfl rfl (!(((!(decide (((nth (aliveRef a) k).node) = ((nth (aliveRef b) k).node)))) || (!(decide (((nth (aliveRef a) k).par) = ((nth (aliveRef b) k).par))))) || (!(decide ((nth (aliveRef a) k).name = (nth (aliveRef b) k).name))))) ga_f _ (fun hA v102 hv103 => by
          have hP : (((((nth (aliveRef a) k).node) = ((nth (aliveRef b) k).node)) ∧ (((nth (aliveRef a) k).par) = ((nth (aliveRef b) k).par))) ∧ ((nth (aliveRef a) k).name = (nth (aliveRef b) k).name)) := (And.imp (fun h => (And.imp (fun h => (of_decide_eq_true (notF h))) (fun h => (of_decide_eq_true (notF h))) (orF h))) (fun h => (of_decide_eq_true (notF h))) (orF (notT hA)))
          exact R_index_pure (OwnS.sl (H20.getOwn 1 rfl) (fun _ => rfl)) (n := (aliveRef a).length) rfl (j := ((k : Nat) : Int)) (oo := (h5.o + k * 8)) Try.underlying22 Try.sizeOf44 (gv_t hA) (gv_t hA) (by omega) (by omega) rfl ⟨rfl, Gr.refl _ _⟩) ?_
   refine Lx_qg (i := 41) true (((!(decide (((nth (aliveRef a) k).node) = ((nth (aliveRef b) k).node)))) || (!(decide (((nth (aliveRef a) k).par) = ((nth (aliveRef b) k).par))))) || (!(decide ((nth (aliveRef a) k).name = (nth (aliveRef b) k).name)))) rfl rfl rfl rfl rfl (!(((!(decide (((nth (aliveRef a) k).node) = ((nth (aliveRef b) k).node)))) || (!(decide (((nth (aliveRef a) k).par) = ((nth (aliveRef b) k).par))))) || (!(decide ((nth (aliveRef a) k).name = (nth (aliveRef b) k).name))))) ga_f _ (fun hA v104 hv105 => R_fieldAddr (off := 7) (oo := ((h5.o + k * 8) + 7)) Try.underlying44 rfl rfl Try.sizeOf42 (gv_t hA) rfl ⟨rfl, Gr.refl _ _⟩) ?_
   refine Lx_qg (i := 42) true (((!(decide (((nth (aliveRef a) k).node) = ((nth (aliveRef b) k).node)))) || (!(decide (((nth (aliveRef a) k).par) = ((nth (aliveRef b) k).par))))) || (!(decide ((nth (aliveRef a) k).name = (nth (aliveRef b) k).name)))) rfl rfl rfl rfl rfl (!(((!(decide (((nth (aliveRef a) k).node) = ((nth (aliveRef b) k).node)))) || (!(decide (((nth (aliveRef a) k).par) = ((nth (aliveRef b) k).par))))) || (!(decide ((nth (aliveRef a) k).name = (nth (aliveRef b) k).name))))) ga_f _ (fun hA v106 hv107 => by
          have hP : (((((nth (aliveRef a) k).node) = ((nth (aliveRef b) k).node)) ∧ (((nth (aliveRef a) k).par) = ((nth (aliveRef b) k).par))) ∧ ((nth (aliveRef a) k).name = (nth (aliveRef b) k).name)) := (And.imp (fun h => (And.imp (fun h => (of_decide_eq_true (notF h))) (fun h => (of_decide_eq_true (notF h))) (orF h))) (fun h => (of_decide_eq_true (notF h))) (orF (notT hA)))
          exact R_load1 (v := (slV ((nth (aliveRef a) k).hh) ((nth (aliveRef a) k).heads))) Try.isAgg42 (gv_t hA) ((Sl.elem (OwnS.sl ((H20.ext hv107).getOwn 1 rfl) (fun _ => rfl)) (i := k) (by omega) rfl).chunks 7 1 7 ((h5.o + k * 8) + 7) _ rfl rfl rfl) ⟨rfl, Gr.refl _ _⟩) ?_
   refine Lx_qg (i := 43) true (((!(decide (((nth (aliveRef a) k).node) = ((nth (aliveRef b) k).node)))) || (!(decide (((nth (aliveRef a) k).par) = ((nth (aliveRef b) k).par))))) || (!(decide ((nth (aliveRef a) k).name = (nth (aliveRef b) k).name)))) rfl rfl rfl rfl rfl (!(((!(decide (((nth (aliveRef a) k).node) = ((nth (aliveRef b) k).node)))) || (!(decide (((nth (aliveRef a) k).par) = ((nth (aliveRef b) k).par))))) || (!(decide ((nth (aliveRef a) k).name = (nth (aliveRef b) k).name))))) ga_f _ (fun hA v108 hv109 => R_move (v := (slV h10 (aliveRef b))) rfl ⟨rfl, Gr.refl _ _⟩) ?_
   refine Lx_qg (i := 44) true (((!(decide (((nth (aliveRef a) k).node) = ((nth (aliveRef b) k).node)))) || (!(decide (((nth (aliveRef a) k).par) = ((nth (aliveRef b) k).par))))) || (!(decide ((nth (aliveRef a) k).name = (nth (aliveRef b) k).name)))) rfl rfl rfl rfl rfl (!(((!(decide (((nth (aliveRef a) k).node) = ((nth (aliveRef b) k).node)))) || (!(decide (((nth (aliveRef a) k).par) = ((nth (aliveRef b) k).par))))) || (!(decide ((nth (aliveRef a) k).name = (nth (aliveRef b) k).name))))) ga_f _ (fun hA v110 hv111 => R_move (v := (.int .i64 ((k : Nat) : Int))) rfl ⟨rfl, Gr.refl _ _⟩) ?_
   refine Lx_qg (i := 45) true (((!(decide (((nth (aliveRef a) k).node) = ((nth (aliveRef b) k).node)))) || (!(decide (((nth (aliveRef a) k).par) = ((nth (aliveRef b) k).par))))) || (!(decide ((nth (aliveRef a) k).name = (nth (aliveRef b) k).name)))) rfl rfl rfl rfl rfl (!(((!(decide (((nth (aliveRef a) k).node) = ((nth (aliveRef b) k).node)))) || (!(decide (((nth (aliveRef a) k).par) = ((nth (aliveRef b) k).par))))) || (!(decide ((nth (aliveRef a) k).name = (nth (aliveRef b) k).name))))) ga_f _ (fun hA v112 hv113 => by
          have hP : (((((nth (aliveRef a) k).node) = ((nth (aliveRef b) k).node)) ∧ (((nth (aliveRef a) k).par) = ((nth (aliveRef b) k).par))) ∧ ((nth (aliveRef a) k).name = (nth (aliveRef b) k).name)) := (And.imp (fun h => (And.imp (fun h => (of_decide_eq_true (notF h))) (fun h => (of_decide_eq_true (notF h))) (orF h))) (fun h => (of_decide_eq_true (notF h))) (orF (notT hA)))
          exact R_index_pure (OwnS.sl (H20.getOwn 0 rfl) (fun _ => rfl)) (n := (aliveRef b).length) rfl (j := ((k : Nat) : Int)) (oo := (h10.o + k * 8)) Try.underlying22 Try.sizeOf44 (gv_t hA) (gv_t hA) (by omega) (by omega) rfl ⟨rfl, Gr.refl _ _⟩) ?_
   refine Lx_qg (i := 46) true (((!(decide (((nth (aliveRef a) k).node) = ((nth (aliveRef b) k).node)))) || (!(decide (((nth (aliveRef a) k).par) = ((nth (aliveRef b) k).par))))) || (!(decide ((nth (aliveRef a) k).name = (nth (aliveRef b) k).name)))) rfl rfl rfl rfl rfl (!(((!(decide (((nth (aliveRef a) k).node) = ((nth (aliveRef b) k).node)))) || (!(decide (((nth (aliveRef a) k).par) = ((nth (aliveRef b) k).par))))) || (!(decide ((nth (aliveRef a) k).name = (nth (aliveRef b) k).name))))) ga_f _ (fun hA v114 hv115 => R_fieldAddr (off := 7) (oo := ((h10.o + k * 8) + 7)) Try.underlying44 rfl rfl Try.sizeOf42 (gv_t hA) rfl ⟨rfl, Gr.refl _ _⟩) ?_
   refine Lx_qg (i := 47) true (((!(decide (((nth (aliveRef a) k).node) = ((nth (aliveRef b) k).node)))) || (!(decide (((nth (aliveRef a) k).par) = ((nth (aliveRef b) k).par))))) || (!(decide ((nth (aliveRef a) k).name = (nth (aliveRef b) k).name)))) rfl rfl rfl rfl rfl (!(((!(decide (((nth (aliveRef a) k).node) = ((nth (aliveRef b) k).node)))) || (!(decide (((nth (aliveRef a) k).par) = ((nth (aliveRef b) k).par))))) || (!(decide ((nth (aliveRef a) k).name = (nth (aliveRef b) k).name))))) ga_f _ (fun hA v116 hv117 => by
          have hP : (((((nth (aliveRef a) k).node) = ((nth (aliveRef b) k).node)) ∧ (((nth (aliveRef a) k).par) = ((nth (aliveRef b) k).par))) ∧ ((nth (aliveRef a) k).name = (nth (aliveRef b) k).name)) := (And.imp (fun h => (And.imp (fun h => (of_decide_eq_true (notF h))) (fun h => (of_decide_eq_true (notF h))) (orF h))) (fun h => (of_decide_eq_true (notF h))) (orF (notT hA)))
          exact R_load1 (v := (slV ((nth (aliveRef b) k).hh) ((nth (aliveRef b) k).heads))) Try.isAgg42 (gv_t hA) ((Sl.elem (OwnS.sl ((H20.ext hv117).getOwn 0 rfl) (fun _ => rfl)) (i := k) (by omega) rfl).chunks 7 1 7 ((h10.o + k * 8) + 7) _ rfl rfl rfl) ⟨rfl, Gr.refl _ _⟩) ?_
   refine Lx_qg (i := 48) true (((!(decide (((nth (aliveRef a) k).node) = ((nth (aliveRef b) k).node)))) || (!(decide (((nth (aliveRef a) k).par) = ((nth (aliveRef b) k).par))))) || (!(decide ((nth (aliveRef a) k).name = (nth (aliveRef b) k).name)))) rfl rfl rfl rfl rfl (!(((!(decide (((nth (aliveRef a) k).node) = ((nth (aliveRef b) k).node)))) || (!(decide (((nth (aliveRef a) k).par) = ((nth (aliveRef b) k).par))))) || (!(decide ((nth (aliveRef a) k).name = (nth (aliveRef b) k).name))))) ga_f (.bool (decide (datas ((nth (aliveRef a) k).heads) = datas ((nth (aliveRef b) k).heads)))) (fun hA v118 hv119 => by
          have hP : (((((nth (aliveRef a) k).node) = ((nth (aliveRef b) k).node)) ∧ (((nth (aliveRef a) k).par) = ((nth (aliveRef b) k).par))) ∧ ((nth (aliveRef a) k).name = (nth (aliveRef b) k).name)) := (And.imp (fun h => (And.imp (fun h => (of_decide_eq_true (notF h))) (fun h => (of_decide_eq_true (notF h))) (orF h))) (fun h => (of_decide_eq_true (notF h))) (orF (notT hA)))
          exact R_callL (vs := [(slV ((nth (aliveRef a) k).hh) ((nth (aliveRef a) k).heads)), (slV ((nth (aliveRef b) k).hh) ((nth (aliveRef b) k).heads))]) ref14_Alike_c31 rfl (lst2 (gv_t hA) (gv_t hA)) (ref14_sameData ((nth (aliveRef a) k).hh) ((nth (aliveRef a) k).heads) ((nth (aliveRef b) k).hh) ((nth (aliveRef b) k).heads) v118 ((H20.ext hv119).deepOld 2 rfl _ (aliveRef_mem (nth_mem (by omega)))) ((H20.ext hv119).deepOld 0 rfl _ (aliveRef_mem (nth_mem (by omega)))))) ?_
   refine Lx_qg (i := 49) true (((!(decide (((nth (aliveRef a) k).node) = ((nth (aliveRef b) k).node)))) || (!(decide (((nth (aliveRef a) k).par) = ((nth (aliveRef b) k).par))))) || (!(decide ((nth (aliveRef a) k).name = (nth (aliveRef b) k).name)))) rfl rfl rfl rfl rfl (!(((!(decide (((nth (aliveRef a) k).node) = ((nth (aliveRef b) k).node)))) || (!(decide (((nth (aliveRef a) k).par) = ((nth (aliveRef b) k).par))))) || (!(decide ((nth (aliveRef a) k).name = (nth (aliveRef b) k).name))))) ga_f _ (fun hA v120 hv121 => R_not (gv_t hA) ⟨rfl, Gr.refl _ _⟩) ?_
   refine Lx_q (i := 50) rfl rfl _ (fun v122 hv123 => R_pick (t := (((!(decide (((nth (aliveRef a) k).node) = ((nth (aliveRef b) k).node)))) || (!(decide (((nth (aliveRef a) k).par) = ((nth (aliveRef b) k).par))))) || (!(decide ((nth (aliveRef a) k).name = (nth (aliveRef b) k).name))))) (v := (.bool ((((!(decide (((nth (aliveRef a) k).node) = ((nth (aliveRef b) k).node)))) || (!(decide (((nth (aliveRef a) k).par) = ((nth (aliveRef b) k).par))))) || (!(decide ((nth (aliveRef a) k).name = (nth (aliveRef b) k).name)))) || (!(decide (datas ((nth (aliveRef a) k).heads) = datas ((nth (aliveRef b) k).heads))))))) rfl pk_or ⟨rfl, Gr.refl _ _⟩) ?_
   refine Lx_nil (fun w124 hw125 => ?_)
   have H126 := H20.ext hw125
   refine Then_n ?_
   refine W_cond (t := ((((!(decide (((nth (aliveRef a) k).node) = ((nth (aliveRef b) k).node)))) || (!(decide (((nth (aliveRef a) k).par) = ((nth (aliveRef b) k).par))))) || (!(decide ((nth (aliveRef a) k).name = (nth (aliveRef b) k).name)))) || (!(decide (datas ((nth (aliveRef a) k).heads) = datas ((nth (aliveRef b) k).heads)))))) rfl (fun hc127 => ?_) (fun hc127 => ?_)
   ·have hc127 : (((¬ (((nth (aliveRef a) k).node) = ((nth (aliveRef b) k).node)) ∨ ¬ (((nth (aliveRef a) k).par) = ((nth (aliveRef b) k).par))) ∨ ¬ ((nth (aliveRef a) k).name = (nth (aliveRef b) k).name)) ∨ ¬ (datas ((nth (aliveRef a) k).heads) = datas ((nth (aliveRef b) k).heads))) := (Or.imp (fun h => (Or.imp (fun h => (Or.imp (fun h => (of_decide_eq_false (notT h))) (fun h => (of_decide_eq_false (notT h))) (orT h))) (fun h => (of_decide_eq_false (notT h))) (orT h))) (fun h => (of_decide_eq_false (notT h))) (orT hc127))
    refine W_seq (W_reg ?_)
    refine O_v rfl (R_assign (v := (.bool false)) rfl ?_)
    refine O_nil (Then_n (W_ret (Blk_r (Then_r (Then_r (Blk_r (Then_r ?_)))))))
    refine ret_1 (v := (.bool false)) Try.results11 rfl ?_
    exact ⟨(boolF (fun h => rowD_ne (by assumption) ((map_eq_nth.1 h).2 k (by omega)))), H126.gr⟩
   ·have hc127 : ((((((nth (aliveRef a) k).node) = ((nth (aliveRef b) k).node)) ∧ (((nth (aliveRef a) k).par) = ((nth (aliveRef b) k).par))) ∧ ((nth (aliveRef a) k).name = (nth (aliveRef b) k).name)) ∧ (datas ((nth (aliveRef a) k).heads) = datas ((nth (aliveRef b) k).heads))) := (And.imp (fun h => (And.imp (fun h => (And.imp (fun h => (of_decide_eq_true (notF h))) (fun h => (of_decide_eq_true (notF h))) (orF h))) (fun h => (of_decide_eq_true (notF h))) (orF h))) (fun h => (of_decide_eq_true (notF h))) (orF hc127))
    refine W_skip (Blk_n (Then_n (W_reg ?_)))
    refine O_v rfl (R_move (v := (.int .i64 ((k : Nat) : Int))) rfl ?_)
    refine O_v rfl (R_arith (a := ((k : Nat) : Int)) (b := 1) (r0 := ((k : Nat) : Int) + 1) (r := ((k + 1 : Nat) : Int)) rfl rfl rfl (wrapN _ (by omega)) ?_)
    refine O_v rfl (R_assign (v := (.int .i64 ((k + 1 : Nat) : Int))) rfl ?_)
    refine O_nil (Then_n ?_)
    refine ⟨_, ?_, (k + 1), rfl, (by omega), (all_succ hn (rowD_eq (by assumption))), _, envL_self ⟨rfl, rfl, rfl, trivial⟩, H126⟩
    omega
  ·have hc21 : ¬ (((k : Nat) : Int) < (((aliveRef a).length : Nat) : Int)) := (of_decide_eq_false hc21)
   refine W_exit (Then_x (Then_x (Blk_x (Then_n (W_seq (W_reg ?_))))))
   refine O_v rfl (R_assign (v := (.bool true)) rfl ?_)
   refine O_nil (Then_n (W_ret ?_))
   refine ret_1 (v := (.bool true)) Try.results11 rfl ?_
   exact ⟨(boolT (map_eq_nth.2 ⟨by omega, by rwa [show (aliveRef a).length = k from by omega]⟩)), H20.gr⟩

end Go.Proofs.Ytiknfldhommmpaa
namespace Go.Proofs.Ytiknfldhommmpaa
open Go
set_option maxRecDepth 100000
set_option linter.unusedVariables false
set_option linter.unusedSimpArgs false
theorem ref14_Path_c16 : callable Try.prog 16 = true := by kernel_rfl
theorem ref14_Path_c22 : callable Try.prog 22 = true := by kernel_rfl
set_option maxHeartbeats 1000000 in
theorem ref14_Path (hrows : SlH) (rows : List RowS) (node : Stamp) (w : World) (Srows : Sl (Old w) rowCh 8 hrows rows w) (hl : rows.length ≤ 1048576) (hnm : ∀ x ∈ rows, x.name.size ≤ 60) :
    Calls Try.prog 13 #[(slV hrows rows), (aggOf (stampCh node))] w (Ret fun v w' => v = (.string (pathRef rows node)) ∧ Ext w w') := by
 refine calls_W Try.func13 rfl Try.ntmps13 rfl ?_
 have H0 := Ctx.start w nob
 have H1 := H0.addSl _ Srows (fun b hb => ⟨hb, fun _ ho => (nomatch ho)⟩)
 have LSrows := Srows.len
 refine W_seq (W_reg ?_)
 refine O_v rfl (C_box H1 [[(.int .i64 node.T)], [(.int .i64 node.R)]] rfl ?_)
 intro b2 w3 hb4 hx5 H6
 refine O_v rfl (R_assign (v := (.string ByteArray.empty)) rfl ?_)
 refine O_nil (Then_n (W_seq (W_seq (W_reg ?_))))
 refine O_v rfl (R_move (v := (slV hrows rows)) rfl ?_)
 refine O_v rfl (R_loadA (cs := [[(.int .i64 node.T)], [(.int .i64 node.R)]]) Try.isAgg24 Try.sizeOf24 rfl rfl ((boxR_at (H6.getOwn 0 rfl)).chunks 0 2 0 0 _ rfl rfl rfl) ?_)
 refine O_v rfl (R_buildL (vs := []) (v := aggOf [[(.int .i64 0)], [(.int .i64 0)]]) rfl (fun _ => by kernel_rfl) ?_)
 refine O_v rfl (R_callL (vs := [(slV hrows rows), (aggOf (stampCh node)), (aggOf [[(.int .i64 0)], [(.int .i64 0)]])]) ref14_Path_c22 rfl rfl ((ref12_Lies hrows rows node ({ T := 0, R := 0 } : Stamp) w3 (H6.slOld 0 rfl)).ret ?_))
 rintro _ w7 ⟨rfl, hx8⟩
 have H9 := H6.ext hx8
 refine O_v rfl (R_not rfl ?_)
 refine O_nil (Then_n ?_)
 refine W_cond (t := (!(liesOf rows node ({ T := 0, R := 0 } : Stamp)))) rfl (fun hc10 => ?_) (fun hc10 => ?_)
 ·have hc10 : (liesOf rows node ({ T := 0, R := 0 } : Stamp)) = false := (notT hc10)
  refine W_seq (W_reg ?_)
  refine O_v rfl (R_assign (v := (.string ByteArray.empty)) rfl ?_)
  refine O_nil (Then_n (W_ret (Then_r ?_)))
  refine ret_1 (v := (.string ByteArray.empty)) Try.results13 rfl ?_
  exact ⟨(by rw [pathRef_none (by assumption)]), H9.gr⟩
 ·have hc10 : (liesOf rows node ({ T := 0, R := 0 } : Stamp)) = true := (notF hc10)
  refine W_skip (Then_n (W_seq (W_reg ?_)))
  refine O_v rfl (R_assign (v := (.string ByteArray.empty)) rfl ?_)
  refine O_nil (Then_n (W_block ?_))
  refine W_loop (fun m11 e12 w13 => ∃ (n : Nat), ∃ (nd : Stamp), ∃ (out : ByteArray), m11 = n + 1 ∧ (n ≤ rows.length) ∧ (liesGo rows ⟨0, 0⟩ n nd = true) ∧ (pathGo rows n nd out = pathRef rows node) ∧ (out.size ≤ (rows.length - n) * 61) ∧ ∃ eb14, e12 = envL [(0, (slV hrows rows)), (3, (.pointer (some ⟨b2, 0, none⟩))), (5, (.string out))] eb14 ∧ Ctx w nob w13 [boxR b2 24 [[(.int .i64 nd.T)], [(.int .i64 nd.R)]]] [slI (Old w) rowCh 8 hrows rows]) _ ⟨rows.length, node, ByteArray.empty, rfl, (Nat.le_refl _), (by assumption), (pathRef_of (by assumption)).symm, (by simp), _, envL_self ⟨rfl, rfl, rfl, trivial⟩, H9⟩ ?_
  rintro m11 _ w13 ⟨n, nd, out, rfl, hn, hli, hp, hs, eb14, rfl, H15⟩
  refine W_block (W_seq (W_reg ?_))
  refine O_v rfl (R_move (v := (slV hrows rows)) rfl ?_)
  refine O_v rfl (R_move (v := (slV hrows rows)) rfl ?_)
  refine O_v rfl (R_loadA (cs := [[(.int .i64 nd.T)], [(.int .i64 nd.R)]]) Try.isAgg24 Try.sizeOf24 rfl rfl ((boxR_at (H15.getOwn 0 rfl)).chunks 0 2 0 0 _ rfl rfl rfl) ?_)
  refine O_v rfl (R_callL (vs := [(slV hrows rows), (aggOf (stampCh nd))]) ref14_Path_c16 rfl rfl ((ref12_Find hrows rows nd w13 (H15.slOld 0 rfl)).ret ?_))
  rintro _ w16 ⟨rfl, hx17⟩
  have H18 := H15.ext hx17
  refine O_v rfl (R_index_pure (H18.sl 0 rfl) (n := rows.length) rfl (j := findRow rows nd) (oo := (hrows.o + ((findRow rows nd).toNat) * 8)) Try.underlying22 Try.sizeOf44 rfl rfl (by have := lies_at hli; omega) (by have := lies_at hli; omega) rfl ?_)
  refine O_v rfl (R_loadA (cs := [[(.int .i64 (((nth rows ((findRow rows nd).toNat)).node).T))], [(.int .i64 (((nth rows ((findRow rows nd).toNat)).node).R))], [(.int .i64 (((nth rows ((findRow rows nd).toNat)).par).T))], [(.int .i64 (((nth rows ((findRow rows nd).toNat)).par).R))], [(.int .i64 (((nth rows ((findRow rows nd).toNat)).tm).T))], [(.int .i64 (((nth rows ((findRow rows nd).toNat)).tm).R))], [(.string ((nth rows ((findRow rows nd).toNat)).name))], [(slV ((nth rows ((findRow rows nd).toNat)).hh) ((nth rows ((findRow rows nd).toNat)).heads))]]) Try.isAgg44 Try.sizeOf44 rfl rfl ((Sl.elem (H18.sl 0 rfl) (i := (findRow rows nd).toNat) (by have := lies_at hli; omega) rfl).chunks 0 8 0 (hrows.o + ((findRow rows nd).toNat) * 8) _ rfl rfl rfl) ?_)
  refine O_v rfl (C_alloc H18 [[(.int .i64 0)], [(.int .i64 0)], [(.int .i64 0)], [(.int .i64 0)], [(.int .i64 0)], [(.int .i64 0)], [(.string ByteArray.empty)], [(.slice none 0 0)]] Try.zeroValue44 ?_)
  intro b19 w20 hb21 hx22 H23
  refine O_u (C_storeA H23 0 rfl 0 (sub := [[(.int .i64 (((nth rows ((findRow rows nd).toNat)).node).T))], [(.int .i64 (((nth rows ((findRow rows nd).toNat)).node).R))], [(.int .i64 (((nth rows ((findRow rows nd).toNat)).par).T))], [(.int .i64 (((nth rows ((findRow rows nd).toNat)).par).R))], [(.int .i64 (((nth rows ((findRow rows nd).toNat)).tm).T))], [(.int .i64 (((nth rows ((findRow rows nd).toNat)).tm).R))], [(.string ((nth rows ((findRow rows nd).toNat)).name))], [(slV ((nth rows ((findRow rows nd).toNat)).hh) ((nth rows ((findRow rows nd).toNat)).heads))]]) [[(.int .i64 (((nth rows ((findRow rows nd).toNat)).node).T))], [(.int .i64 (((nth rows ((findRow rows nd).toNat)).node).R))], [(.int .i64 (((nth rows ((findRow rows nd).toNat)).par).T))], [(.int .i64 (((nth rows ((findRow rows nd).toNat)).par).R))], [(.int .i64 (((nth rows ((findRow rows nd).toNat)).tm).T))], [(.int .i64 (((nth rows ((findRow rows nd).toNat)).tm).R))], [(.string ((nth rows ((findRow rows nd).toNat)).name))], [(slV ((nth rows ((findRow rows nd).toNat)).hh) ((nth rows ((findRow rows nd).toNat)).heads))]] Try.sizeOf44 rfl rfl rfl rfl ⟨[[(.int .i64 0)], [(.int .i64 0)], [(.int .i64 0)], [(.int .i64 0)], [(.int .i64 0)], [(.int .i64 0)], [(.string ByteArray.empty)], [(.slice none 0 0)]], [], rfl, rfl, rfl⟩ rfl ?_)
  intro w24 hg25 H26
  refine O_nil (Then_n (W_seq (W_reg ?_)))
  refine O_v rfl (R_fieldAddr (off := 6) (oo := 6) Try.underlying44 rfl rfl Try.sizeOf9 rfl rfl ?_)
  refine O_v rfl (R_load1 (v := (.string ((nth rows ((findRow rows nd).toNat)).name))) Try.isAgg9 rfl ((boxR_at (H26.getOwn 0 rfl)).chunks 6 1 6 6 _ rfl rfl rfl) ?_)
  refine O_v rfl (R_move (v := (.string out)) rfl ?_)
  refine O_v rfl (R_cat (a := (nth rows ((findRow rows nd).toNat)).name) (b := out) rfl rfl (path_cat hli hn hs hl (hnm (nth rows (findRow rows nd).toNat) (nth_mem (by have := lies_at hli; omega))) (by first | omega | (simp only [ByteArray.size_append]; show 1 + _ ≤ _; omega))) ?_)
  refine O_v rfl (R_assign (v := (.string (((nth rows ((findRow rows nd).toNat)).name) ++ out))) rfl ?_)
  refine O_nil (Then_n (W_seq (W_seq (W_reg ?_))))
  refine O_v rfl (R_fieldAddr (off := 2) (oo := 2) Try.underlying44 rfl rfl Try.sizeOf24 rfl rfl ?_)
  refine O_v rfl (R_loadA (cs := [[(.int .i64 (((nth rows ((findRow rows nd).toNat)).par).T))], [(.int .i64 (((nth rows ((findRow rows nd).toNat)).par).R))]]) Try.isAgg24 Try.sizeOf24 rfl rfl ((boxR_at (H26.getOwn 0 rfl)).chunks 2 2 2 2 _ rfl rfl rfl) ?_)
  refine O_v rfl (R_buildL (vs := []) (v := aggOf [[(.int .i64 0)], [(.int .i64 0)]]) rfl (fun _ => by kernel_rfl) ?_)
  refine O_v rfl (R_eqv (a := ((nth rows ((findRow rows nd).toNat)).par)) (b := ({ T := 0, R := 0 } : Stamp)) eqv_Stamp24 rfl Try.eqGuardType24 rfl rfl ?_)
  refine O_nil (Then_n ?_)
  refine W_cond (t := (decide (((nth rows ((findRow rows nd).toNat)).par) = ({ T := 0, R := 0 } : Stamp)))) rfl (fun hc27 => ?_) (fun hc27 => ?_)
  ·have hc27 : (((nth rows ((findRow rows nd).toNat)).par) = ({ T := 0, R := 0 } : Stamp)) := (of_decide_eq_true hc27)
   refine W_seq (W_reg ?_)
   refine O_v rfl (R_move (v := (.string (((nth rows ((findRow rows nd).toNat)).name) ++ out))) rfl ?_)
   refine O_v rfl (R_assign (v := (.string (((nth rows ((findRow rows nd).toNat)).name) ++ out))) rfl ?_)
   refine O_nil (Then_n (W_ret (Then_r (Blk_r (Then_r (Blk_r ?_))))))
   refine ret_1 (v := (.string (((nth rows ((findRow rows nd).toNat)).name) ++ out))) Try.results13 rfl ?_
   exact ⟨(by rw [← hp, pathGo_end hli (by assumption)]), H26.gr⟩
  ·have hc27 : ¬ (((nth rows ((findRow rows nd).toNat)).par) = ({ T := 0, R := 0 } : Stamp)) := (of_decide_eq_false hc27)
   refine W_skip (Then_n (W_seq (W_reg ?_)))
   refine O_v rfl (R_move (v := (.string (((nth rows ((findRow rows nd).toNat)).name) ++ out))) rfl ?_)
   refine O_v rfl (R_cat (a := (⟨#[47]⟩ : ByteArray)) (b := ((nth rows ((findRow rows nd).toNat)).name) ++ out) rfl rfl (path_cat hli hn hs hl (hnm (nth rows (findRow rows nd).toNat) (nth_mem (by have := lies_at hli; omega))) (by first | omega | (simp only [ByteArray.size_append]; show 1 + _ ≤ _; omega))) ?_)
   refine O_v rfl (R_assign (v := (.string ((⟨#[47]⟩ : ByteArray) ++ (((nth rows ((findRow rows nd).toNat)).name) ++ out)))) rfl ?_)
   refine O_nil (Then_n (W_reg ?_))
   refine O_v rfl (R_fieldAddr (off := 2) (oo := 2) Try.underlying44 rfl rfl Try.sizeOf24 rfl rfl ?_)
   refine O_v rfl (R_loadA (cs := [[(.int .i64 (((nth rows ((findRow rows nd).toNat)).par).T))], [(.int .i64 (((nth rows ((findRow rows nd).toNat)).par).R))]]) Try.isAgg24 Try.sizeOf24 rfl rfl ((boxR_at (H26.getOwn 0 rfl)).chunks 2 2 2 2 _ rfl rfl rfl) ?_)
   refine O_u (C_storeA H26 1 rfl 0 (sub := [[(.int .i64 (((nth rows ((findRow rows nd).toNat)).par).T))], [(.int .i64 (((nth rows ((findRow rows nd).toNat)).par).R))]]) [[(.int .i64 (((nth rows ((findRow rows nd).toNat)).par).T))], [(.int .i64 (((nth rows ((findRow rows nd).toNat)).par).R))]] Try.sizeOf24 rfl rfl rfl rfl ⟨[[(.int .i64 nd.T)], [(.int .i64 nd.R)]], [], rfl, rfl, rfl⟩ rfl ?_)
   intro w28 hg29 H30
   refine O_nil (Blk_n (Then_n ?_))
   have H31 := H30.sub (B' := [boxR b2 24 [[(.int .i64 (((nth rows ((findRow rows nd).toNat)).par).T))], [(.int .i64 (((nth rows ((findRow rows nd).toNat)).par).R))]]]) (I' := [slI (Old w) rowCh 8 hrows rows]) (List.Sublist.cons _ (List.Sublist.cons_cons _ List.Sublist.slnil)) (List.forall_mem_cons.2 ⟨List.mem_of_getElem? (i := 0) rfl, fun _ h => (nomatch h)⟩)
   refine ⟨_, ?_, (n - 1), ((nth rows (findRow rows nd).toNat).par), ((⟨#[47]⟩ : ByteArray) ++ (((nth rows ((findRow rows nd).toNat)).name) ++ out)), rfl, (by omega), (lies_step hli (by assumption)), (by rw [← hp]; exact (pathGo_step hli (by assumption)).symm), (path_size hli hn hs (hnm _ (nth_mem (by have := lies_at hli; omega)))), _, envL_self ⟨rfl, rfl, rfl, trivial⟩, H31⟩
   have := lies_at hli; omega

end Go.Proofs.Ytiknfldhommmpaa
namespace Go.Proofs.Ytiknfldhommmpaa
open Go
set_option maxRecDepth 100000
set_option linter.unusedVariables false
set_option linter.unusedSimpArgs false
theorem law14_DifferRows_c5 : callable Try.prog 5 = true := by kernel_rfl
theorem law14_DifferRows_c6 : callable Try.prog 6 = true := by kernel_rfl
theorem law14_DifferRows_c7 : callable Try.prog 7 = true := by kernel_rfl
theorem law14_DifferRows_c8 : callable Try.prog 8 = true := by kernel_rfl
theorem law14_DifferRows_c9 : callable Try.prog 9 = true := by kernel_rfl
theorem law14_DifferRows_c10 : callable Try.prog 10 = true := by kernel_rfl
theorem law14_DifferRows_c11 : callable Try.prog 11 = true := by kernel_rfl
theorem law14_DifferRows_c12 : callable Try.prog 12 = true := by kernel_rfl
theorem law14_DifferRows_c13 : callable Try.prog 13 = true := by kernel_rfl
set_option maxHeartbeats 4000000 in
theorem law14_DifferRows (ha : SlH) (a : List RowS) (hb : SlH) (b : List RowS) (node : Stamp) (w : World) (Sa : Sl (Old w) rowCh 8 ha a w) (Da_heads : ∀ x ∈ a, Sl (Old w) headCh 34 x.hh x.heads w) (Sb : Sl (Old w) rowCh 8 hb b w) (Db_heads : ∀ x ∈ b, Sl (Old w) headCh 34 x.hh x.heads w) (hna : ∀ x ∈ a, x.name.size ≤ 9223372036854775807) (hnb : ∀ x ∈ b, x.name.size ≤ 9223372036854775807) :
    Calls Try.prog 3 #[(slV ha a), (slV hb b), (aggOf (stampCh node))] w (Ret fun v w' => v = (.bool true) ∧ Ext w w') := by
 refine calls_W Try.func3 rfl Try.ntmps3 rfl ?_
 have H0 := Ctx.start w nob
 have H1 := H0.addSl _ Sa (fun b hb => ⟨hb, fun _ ho => (nomatch ho)⟩)
 have LSa := Sa.len
 have H2 := H1.addImm' (deepI (Old w) headCh 34 (fun x : RowS => x.hh) (fun x : RowS => x.heads) a) Da_heads (fun b hb => ⟨hb, fun _ ho => (nomatch ho)⟩)
 have H3 := H2.addSl _ Sb (fun b hb => ⟨hb, fun _ ho => (nomatch ho)⟩)
 have LSb := Sb.len
 have H4 := H3.addImm' (deepI (Old w) headCh 34 (fun x : RowS => x.hh) (fun x : RowS => x.heads) b) Db_heads (fun b hb => ⟨hb, fun _ ho => (nomatch ho)⟩)
 refine W_seq (W_reg ?_)
 refine O_v rfl (C_box H4 [[(.int .i64 node.T)], [(.int .i64 node.R)]] rfl ?_)
 intro b5 w6 hb7 hx8 H9
 refine O_v rfl (R_assign (v := (.bool false)) rfl ?_)
 refine O_nil (Then_n (W_seq (W_seq (W_reg ?_))))
 refine O_v rfl (R_callL (vs := []) law14_DifferRows_c5 rfl rfl ((law14_alive  w6 ).ret ?_))
 rintro _ w10 ⟨rfl, hx11⟩
 have H12 := H9.ext hx11
 refine O_v rfl (R_not rfl ?_)
 refine O_nil (Then_n ?_)
 refine W_cond_f rfl ?_
 refine W_skip (Then_n (W_seq (W_seq ?_)))
 refine W_rg [(0, .q false), (1, .q false), (2, .q false), (3, .q false), (4, .q false), (5, .q false), (6, .q false), (7, .q false), (8, .q false), (9, .q false), (10, .q false), (11, .q false), (12, .q false), (13, .q false), (14, .q false), (15, .q false), (16, .q false), (17, .q false)] (by kernel_rfl) ?_
 refine Lx_q (i := 0) rfl rfl _ (fun v13 hv14 => R_move (v := (slV ha a)) rfl ⟨rfl, Gr.refl _ _⟩) ?_
 refine Lx_q (i := 1) rfl rfl _ (fun v15 hv16 => R_len_slice (a := ha.a) (n := a.length) (c := ha.c) Try.underlying22 rfl ⟨rfl, Gr.refl _ _⟩) ?_
 refine Lx_q (i := 2) rfl rfl _ (fun v17 hv18 => R_cmp (a := ((a.length : Nat) : Int)) (b := 40) (r := (decide (40 < ((a.length : Nat) : Int)))) rfl rfl rfl ⟨rfl, Gr.refl _ _⟩) ?_
 refine Lx_q (i := 3) rfl rfl _ (fun v19 hv20 => R_move (v := (.bool (decide (40 < ((a.length : Nat) : Int))))) rfl ⟨rfl, Gr.refl _ _⟩) ?_
 refine Lx_qg (i := 4) true (decide (40 < ((a.length : Nat) : Int))) rfl rfl rfl rfl rfl (!(decide (40 < ((a.length : Nat) : Int)))) ga_f _ (fun hA v21 hv22 => R_move (v := (slV hb b)) rfl ⟨rfl, Gr.refl _ _⟩) ?_
 refine Lx_qg (i := 5) true (decide (40 < ((a.length : Nat) : Int))) rfl rfl rfl rfl rfl (!(decide (40 < ((a.length : Nat) : Int)))) ga_f _ (fun hA v23 hv24 => R_len_slice (a := hb.a) (n := b.length) (c := hb.c) Try.underlying22 (gv_t hA) ⟨rfl, Gr.refl _ _⟩) ?_
 refine Lx_qg (i := 6) true (decide (40 < ((a.length : Nat) : Int))) rfl rfl rfl rfl rfl (!(decide (40 < ((a.length : Nat) : Int)))) ga_f _ (fun hA v25 hv26 => R_cmp (a := ((b.length : Nat) : Int)) (b := 40) (r := (decide (40 < ((b.length : Nat) : Int)))) (gv_t hA) rfl rfl ⟨rfl, Gr.refl _ _⟩) ?_
 refine Lx_q (i := 7) rfl rfl _ (fun v27 hv28 => R_pick (t := (decide (40 < ((a.length : Nat) : Int)))) (v := (.bool ((decide (40 < ((a.length : Nat) : Int))) || (decide (40 < ((b.length : Nat) : Int)))))) rfl pk_or ⟨rfl, Gr.refl _ _⟩) ?_
 refine Lx_q (i := 8) rfl rfl _ (fun v29 hv30 => R_move (v := (.bool ((decide (40 < ((a.length : Nat) : Int))) || (decide (40 < ((b.length : Nat) : Int)))))) rfl ⟨rfl, Gr.refl _ _⟩) ?_
 refine Lx_qg (i := 9) true ((decide (40 < ((a.length : Nat) : Int))) || (decide (40 < ((b.length : Nat) : Int)))) rfl rfl rfl rfl rfl (!((decide (40 < ((a.length : Nat) : Int))) || (decide (40 < ((b.length : Nat) : Int))))) ga_f _ (fun hA v31 hv32 => R_move (v := (slV ha a)) rfl ⟨rfl, Gr.refl _ _⟩) ?_
 refine Lx_qg (i := 10) true ((decide (40 < ((a.length : Nat) : Int))) || (decide (40 < ((b.length : Nat) : Int)))) rfl rfl rfl rfl rfl (!((decide (40 < ((a.length : Nat) : Int))) || (decide (40 < ((b.length : Nat) : Int))))) ga_f (.bool (treeOk a)) (fun hA v33 hv34 => R_callL (vs := [(slV ha a)]) law14_DifferRows_c6 rfl (lst1 (gv_t hA)) (ref13_Right ha a v33 ((H12.ext hv34).slOld 3 rfl) ((H12.ext hv34).deepOld 2 rfl) hna)) ?_
 refine Lx_qg (i := 11) true ((decide (40 < ((a.length : Nat) : Int))) || (decide (40 < ((b.length : Nat) : Int)))) rfl rfl rfl rfl rfl (!((decide (40 < ((a.length : Nat) : Int))) || (decide (40 < ((b.length : Nat) : Int))))) ga_f _ (fun hA v35 hv36 => R_not (gv_t hA) ⟨rfl, Gr.refl _ _⟩) ?_
 refine Lx_q (i := 12) rfl rfl _ (fun v37 hv38 => R_pick (t := ((decide (40 < ((a.length : Nat) : Int))) || (decide (40 < ((b.length : Nat) : Int))))) (v := (.bool (((decide (40 < ((a.length : Nat) : Int))) || (decide (40 < ((b.length : Nat) : Int)))) || (!(treeOk a))))) rfl pk_or ⟨rfl, Gr.refl _ _⟩) ?_
 refine Lx_q (i := 13) rfl rfl _ (fun v39 hv40 => R_move (v := (.bool (((decide (40 < ((a.length : Nat) : Int))) || (decide (40 < ((b.length : Nat) : Int)))) || (!(treeOk a))))) rfl ⟨rfl, Gr.refl _ _⟩) ?_
 refine Lx_qg (i := 14) true (((decide (40 < ((a.length : Nat) : Int))) || (decide (40 < ((b.length : Nat) : Int)))) || (!(treeOk a))) rfl rfl rfl rfl rfl (!(((decide (40 < ((a.length : Nat) : Int))) || (decide (40 < ((b.length : Nat) : Int)))) || (!(treeOk a)))) ga_f _ (fun hA v41 hv42 => R_move (v := (slV hb b)) rfl ⟨rfl, Gr.refl _ _⟩) ?_
 refine Lx_qg (i := 15) true (((decide (40 < ((a.length : Nat) : Int))) || (decide (40 < ((b.length : Nat) : Int)))) || (!(treeOk a))) rfl rfl rfl rfl rfl (!(((decide (40 < ((a.length : Nat) : Int))) || (decide (40 < ((b.length : Nat) : Int)))) || (!(treeOk a)))) ga_f (.bool (treeOk b)) (fun hA v43 hv44 => R_callL (vs := [(slV hb b)]) law14_DifferRows_c6 rfl (lst1 (gv_t hA)) (ref13_Right hb b v43 ((H12.ext hv44).slOld 1 rfl) ((H12.ext hv44).deepOld 0 rfl) hnb)) ?_
 refine Lx_qg (i := 16) true (((decide (40 < ((a.length : Nat) : Int))) || (decide (40 < ((b.length : Nat) : Int)))) || (!(treeOk a))) rfl rfl rfl rfl rfl (!(((decide (40 < ((a.length : Nat) : Int))) || (decide (40 < ((b.length : Nat) : Int)))) || (!(treeOk a)))) ga_f _ (fun hA v45 hv46 => R_not (gv_t hA) ⟨rfl, Gr.refl _ _⟩) ?_
 refine Lx_q (i := 17) rfl rfl _ (fun v47 hv48 => R_pick (t := (((decide (40 < ((a.length : Nat) : Int))) || (decide (40 < ((b.length : Nat) : Int)))) || (!(treeOk a)))) (v := (.bool ((((decide (40 < ((a.length : Nat) : Int))) || (decide (40 < ((b.length : Nat) : Int)))) || (!(treeOk a))) || (!(treeOk b))))) rfl pk_or ⟨rfl, Gr.refl _ _⟩) ?_
 refine Lx_nil (fun w49 hw50 => ?_)
 have H51 := H12.ext hw50
 refine Then_n ?_
 refine W_cond (t := ((((decide (40 < ((a.length : Nat) : Int))) || (decide (40 < ((b.length : Nat) : Int)))) || (!(treeOk a))) || (!(treeOk b)))) rfl (fun hc52 => ?_) (fun hc52 => ?_)
 ·have hc52 : ((((40 < ((a.length : Nat) : Int)) ∨ (40 < ((b.length : Nat) : Int))) ∨ (treeOk a) = false) ∨ (treeOk b) = false) := (Or.imp (fun h => (Or.imp (fun h => (Or.imp (fun h => (of_decide_eq_true h)) (fun h => (of_decide_eq_true h)) (orT h))) (fun h => (notT h)) (orT h))) (fun h => (notT h)) (orT hc52))
  refine W_seq (W_reg ?_)
  refine O_v rfl (R_assign (v := (.bool true)) rfl ?_)
  refine O_nil (Then_n (W_ret (Then_r ?_)))
  refine ret_1 (v := (.bool true)) Try.results3 rfl ?_
  exact ⟨rfl, H51.gr⟩
 ·have hc52 : (((¬ (40 < ((a.length : Nat) : Int)) ∧ ¬ (40 < ((b.length : Nat) : Int))) ∧ (treeOk a) = true) ∧ (treeOk b) = true) := (And.imp (fun h => (And.imp (fun h => (And.imp (fun h => (of_decide_eq_false h)) (fun h => (of_decide_eq_false h)) (orF h))) (fun h => (notF h)) (orF h))) (fun h => (notF h)) (orF hc52))
  have hta := hc52.1.2
  have htb := hc52.2
  have hla := hc52.1.1.1
  have hlb := hc52.1.1.2
  refine W_skip (Then_n (W_seq ?_))
  refine W_rgd TryMixed [(0, .q false), (2, .q false), (1, .c false), (3, .c false), (4, .q false), (5, .q false), (6, .q false), (7, .q false), (8, .q false), (9, .q false), (10, .q false), (11, .q false), (12, .q false), (13, .q false), (14, .q false), (15, .q false), (16, .q false), (17, .q false), (18, .q false), (19, .q false), (20, .q false), (21, .q false), (22, .q false), (23, .q false)] (by kernel_rfl) ?_
  refine Lx_q (i := 0) rfl rfl _ (fun v53 hv54 => R_move (v := (slV ha a)) rfl ⟨rfl, Gr.refl _ _⟩) ?_
  refine Lx_q (i := 2) rfl rfl _ (fun v55 hv56 => R_move (v := (slV ha a)) rfl ⟨rfl, Gr.refl _ _⟩) ?_
  refine Lx_c (i := 1) rfl rfl (fun w57 hw58 => ?_)
  have H59 := H51.ext hw58
  refine (R_callL (vs := [(slV ha a)]) law14_DifferRows_c8 rfl rfl ((differ_Alive ha a w57 (H59.slOld 3 rfl) (H59.deepOld 2 rfl) (by omega) (tree_heads hta)).ret ?_))
  rintro _ w63 ⟨h60, l61, S62, rfl, hx64, ho65, hS66, hd67, hr68⟩
  have H69 := H59.addRowDeep (h := fun x : RowS => x.hh) (f := fun x : RowS => x.heads) hx64 ho65 hS66 hd67
  refine ⟨GrF.ofExt hx64, ?_⟩
  refine Lx_c (i := 3) rfl rfl (fun w70 hw71 => ?_)
  have H72 := H69.ext hw71
  refine (R_callL (vs := [(slV ha a)]) law14_DifferRows_c9 rfl rfl ((ref14_Alive ha a w70 (H72.slOld 4 rfl) (by omega)).ret ?_))
  rintro _ w74 ⟨h73, rfl, hx75, ho76⟩
  have H77 := H72.addRow hx75 ho76
  refine ⟨GrF.ofExt hx75, ?_⟩
  refine Lx_q (i := 4) rfl rfl (.bool (sameRows l61 (aliveRef a))) (fun v78 hv79 => R_callL (vs := [(slV h60 l61), (slV h73 (aliveRef a))]) law14_DifferRows_c7 rfl rfl (ref12_Same h60 l61 h73 (aliveRef a) v78 ((H77.ext hv79).rowSl 1 rfl (fun _ => rfl)) ((H77.ext hv79).deepOld 0 rfl) ((H77.ext hv79).rowSl 0 rfl (fun _ => rfl)) (fun x hx => (H77.ext hv79).deepOld 3 rfl x (aliveRef_mem hx)))) ?_
  refine Lx_q (i := 5) rfl rfl _ (fun v80 hv81 => R_move (v := (.bool (sameRows l61 (aliveRef a)))) rfl ⟨rfl, Gr.refl _ _⟩) ?_
  refine Lx_qg (i := 6) true (sameRows l61 (aliveRef a)) rfl rfl rfl rfl rfl (sameRows l61 (aliveRef a)) ga_t _ (fun hA v82 hv83 => R_move (v := (slV ha a)) rfl ⟨rfl, Gr.refl _ _⟩) ?_
  refine Lx_qg (i := 7) true (sameRows l61 (aliveRef a)) rfl rfl rfl rfl rfl (sameRows l61 (aliveRef a)) ga_t _ (fun hA v84 hv85 => R_move (v := (slV hb b)) rfl ⟨rfl, Gr.refl _ _⟩) ?_
  refine Lx_qg (i := 8) true (sameRows l61 (aliveRef a)) rfl rfl rfl rfl rfl (sameRows l61 (aliveRef a)) ga_t (.bool (alikeOf a b)) (fun hA v86 hv87 => by
        have hP : (sameRows l61 (aliveRef a)) = true := hA
        exact R_callL (vs := [(slV ha a), (slV hb b)]) law14_DifferRows_c10 rfl (lst2 (gv_t hA) (gv_t hA)) (differ_Alike ha a hb b v86 ((H77.ext hv87).slOld 4 rfl) ((H77.ext hv87).deepOld 3 rfl) ((H77.ext hv87).slOld 2 rfl) ((H77.ext hv87).deepOld 1 rfl) (by omega) (tree_heads hta) (by omega) (tree_heads htb))) ?_
  refine Lx_qg (i := 9) true (sameRows l61 (aliveRef a)) rfl rfl rfl rfl rfl (sameRows l61 (aliveRef a)) ga_t _ (fun hA v88 hv89 => R_move (v := (slV ha a)) rfl ⟨rfl, Gr.refl _ _⟩) ?_
  refine Lx_qg (i := 10) true (sameRows l61 (aliveRef a)) rfl rfl rfl rfl rfl (sameRows l61 (aliveRef a)) ga_t _ (fun hA v90 hv91 => R_move (v := (slV hb b)) rfl ⟨rfl, Gr.refl _ _⟩) ?_
  refine Lx_qg (i := 11) true (sameRows l61 (aliveRef a)) rfl rfl rfl rfl rfl (sameRows l61 (aliveRef a)) ga_t (.bool (alikeRef a b)) (fun hA v92 hv93 => by
        have hP : (sameRows l61 (aliveRef a)) = true := hA
        exact R_callL (vs := [(slV ha a), (slV hb b)]) law14_DifferRows_c11 rfl (lst2 (gv_t hA) (gv_t hA)) (ref14_Alike ha a hb b v92 ((H77.ext hv93).slOld 4 rfl) ((H77.ext hv93).deepOld 3 rfl) ((H77.ext hv93).slOld 2 rfl) ((H77.ext hv93).deepOld 1 rfl) (by omega) (by omega))) ?_
  refine Lx_qg (i := 12) true (sameRows l61 (aliveRef a)) rfl rfl rfl rfl rfl (sameRows l61 (aliveRef a)) ga_t _ (fun hA v94 hv95 => R_eqlB (a := (alikeOf a b)) (b := (alikeRef a b)) Try.underlying4 (gv_t hA) (gv_t hA) ⟨rfl, Gr.refl _ _⟩) ?_
  refine Lx_q (i := 13) rfl rfl _ (fun v96 hv97 => R_pick (t := (sameRows l61 (aliveRef a))) (v := (.bool ((sameRows l61 (aliveRef a)) && (decide ((alikeOf a b) = (alikeRef a b)))))) rfl pk_and ⟨rfl, Gr.refl _ _⟩) ?_
  refine Lx_q (i := 14) rfl rfl _ (fun v98 hv99 => R_move (v := (.bool ((sameRows l61 (aliveRef a)) && (decide ((alikeOf a b) = (alikeRef a b)))))) rfl ⟨rfl, Gr.refl _ _⟩) ?_
  refine Lx_qg (i := 15) true ((sameRows l61 (aliveRef a)) && (decide ((alikeOf a b) = (alikeRef a b)))) rfl rfl rfl rfl rfl ((sameRows l61 (aliveRef a)) && (decide ((alikeOf a b) = (alikeRef a b)))) ga_t _ (fun hA v100 hv101 => R_move (v := (slV ha a)) rfl ⟨rfl, Gr.refl _ _⟩) ?_
  refine Lx_qg (i := 16) true ((sameRows l61 (aliveRef a)) && (decide ((alikeOf a b) = (alikeRef a b)))) rfl rfl rfl rfl rfl ((sameRows l61 (aliveRef a)) && (decide ((alikeOf a b) = (alikeRef a b)))) ga_t _ (fun hA v102 hv103 => R_loadA (cs := [[(.int .i64 node.T)], [(.int .i64 node.R)]]) Try.isAgg24 Try.sizeOf24 rfl rfl ((boxR_at ((H77.ext hv103).getOwn 2 rfl)).chunks 0 2 0 0 _ rfl rfl rfl) ⟨rfl, Gr.refl _ _⟩) ?_
  refine Lx_qg (i := 17) true ((sameRows l61 (aliveRef a)) && (decide ((alikeOf a b) = (alikeRef a b)))) rfl rfl rfl rfl rfl ((sameRows l61 (aliveRef a)) && (decide ((alikeOf a b) = (alikeRef a b)))) ga_t (.string (pathOf a node)) (fun hA v104 hv105 => by
        have hP : ((sameRows l61 (aliveRef a)) = true ∧ ((alikeOf a b) = (alikeRef a b))) := (And.imp (fun h => h) (fun h => (of_decide_eq_true h)) (andT hA))
        exact R_callL (vs := [(slV ha a), (aggOf (stampCh node))]) law14_DifferRows_c12 rfl (lst2 (gv_t hA) (gv_t hA)) (differ_Path ha a node v104 ((H77.ext hv105).slOld 4 rfl) (by omega) (tree_names hta))) ?_
  refine Lx_qg (i := 18) true ((sameRows l61 (aliveRef a)) && (decide ((alikeOf a b) = (alikeRef a b)))) rfl rfl rfl rfl rfl ((sameRows l61 (aliveRef a)) && (decide ((alikeOf a b) = (alikeRef a b)))) ga_t _ (fun hA v106 hv107 => R_move (v := (slV ha a)) rfl ⟨rfl, Gr.refl _ _⟩) ?_
  refine Lx_qg (i := 19) true ((sameRows l61 (aliveRef a)) && (decide ((alikeOf a b) = (alikeRef a b)))) rfl rfl rfl rfl rfl ((sameRows l61 (aliveRef a)) && (decide ((alikeOf a b) = (alikeRef a b)))) ga_t _ (fun hA v108 hv109 => R_loadA (cs := [[(.int .i64 node.T)], [(.int .i64 node.R)]]) Try.isAgg24 Try.sizeOf24 rfl rfl ((boxR_at ((H77.ext hv109).getOwn 2 rfl)).chunks 0 2 0 0 _ rfl rfl rfl) ⟨rfl, Gr.refl _ _⟩) ?_
  refine Lx_qg (i := 20) true ((sameRows l61 (aliveRef a)) && (decide ((alikeOf a b) = (alikeRef a b)))) rfl rfl rfl rfl rfl ((sameRows l61 (aliveRef a)) && (decide ((alikeOf a b) = (alikeRef a b)))) ga_t (.string (pathRef a node)) (fun hA v110 hv111 => by
        have hP : ((sameRows l61 (aliveRef a)) = true ∧ ((alikeOf a b) = (alikeRef a b))) := (And.imp (fun h => h) (fun h => (of_decide_eq_true h)) (andT hA))
        exact R_callL (vs := [(slV ha a), (aggOf (stampCh node))]) law14_DifferRows_c13 rfl (lst2 (gv_t hA) (gv_t hA)) (ref14_Path ha a node v110 ((H77.ext hv111).slOld 4 rfl) (by omega) (tree_names hta))) ?_
  refine Lx_qg (i := 21) true ((sameRows l61 (aliveRef a)) && (decide ((alikeOf a b) = (alikeRef a b)))) rfl rfl rfl rfl rfl ((sameRows l61 (aliveRef a)) && (decide ((alikeOf a b) = (alikeRef a b)))) ga_t _ (fun hA v112 hv113 => R_cmpS (a := pathOf a node) (b := pathRef a node) (r := (decide (pathOf a node = pathRef a node))) (gv_t hA) (gv_t hA) rfl ⟨rfl, Gr.refl _ _⟩) ?_
  refine Lx_q (i := 22) rfl rfl _ (fun v114 hv115 => R_pick (t := ((sameRows l61 (aliveRef a)) && (decide ((alikeOf a b) = (alikeRef a b))))) (v := (.bool (((sameRows l61 (aliveRef a)) && (decide ((alikeOf a b) = (alikeRef a b)))) && (decide (pathOf a node = pathRef a node))))) rfl pk_and ⟨rfl, Gr.refl _ _⟩) ?_
  refine Lx_q (i := 23) rfl rfl _ (fun v116 hv117 => R_assign (v := (.bool (((sameRows l61 (aliveRef a)) && (decide ((alikeOf a b) = (alikeRef a b)))) && (decide (pathOf a node = pathRef a node))))) rfl ⟨rfl, Gr.refl _ _⟩) ?_
  refine Lx_nil (fun w118 hw119 => ?_)
  have H120 := H77.ext hw119
  refine Then_n (W_ret ?_)
  refine ret_1 (v := (.bool (((sameRows l61 (aliveRef a)) && (decide ((alikeOf a b) = (alikeRef a b)))) && (decide (pathOf a node = pathRef a node))))) Try.results3 rfl ?_
  exact ⟨(rows_true hr68 hta htb node), H120.gr⟩

end Go.Proofs.Ytiknfldhommmpaa
