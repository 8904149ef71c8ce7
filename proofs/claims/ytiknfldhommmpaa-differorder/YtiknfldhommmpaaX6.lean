/- Proved: for every input, pollardlaw14.DifferOrder returns true and leaves its arguments as they were. No condition. -/
import Derived.Test.YtiknfldhommmpaaX5
namespace Go.Proofs.Ytiknfldhommmpaa
open Go
set_option maxRecDepth 100000
set_option linter.unusedVariables false
set_option linter.unusedSimpArgs false
theorem ref03_Good_c21 : callable Try.prog 21 = true := by kernel_rfl
theorem ref03_Good_c38 : callable Try.prog 38 = true := by kernel_rfl
theorem ref03_Good_c39 : callable Try.prog 39 = true := by kernel_rfl
set_option maxHeartbeats 4000000 in
theorem ref03_Good (o : OpS) (w : World) (So_over : Sl (Old w) stampCh 2 o.oh o.over w) (hl : o.name.size ≤ 9223372036854775807) :
    Calls Try.prog 15 #[(aggOf (opCh o))] w (Ret fun v w' => v = (.bool (goodOp o)) ∧ Ext w w') := by
 refine calls_W Try.func15 rfl Try.ntmps15 rfl ?_
 have H0 := Ctx.start w nob
 have H1 := H0.addSl _ So_over (fun b hb => ⟨hb, fun _ ho => (nomatch ho)⟩)
 have LSo_over := So_over.len
 refine W_seq (W_reg ?_)
 refine O_v rfl (C_box H1 [[(.int .i64 o.kind)], [(.int .i64 o.tm.T)], [(.int .i64 o.tm.R)], [(.int .i64 o.node.T)], [(.int .i64 o.node.R)], [(.int .i64 o.par.T)], [(.int .i64 o.par.R)], [(.string o.name)], (idCells o.data), [(slV o.oh o.over)]] rfl ?_)
 intro b2 w3 hb4 hx5 H6
 refine O_v rfl (R_assign (v := (.bool false)) rfl ?_)
 refine O_nil (Then_n (W_seq (W_seq ?_)))
 refine W_rg [(0, .q false), (1, .q false), (2, .q false), (3, .q false), (4, .q false), (5, .q false), (6, .q false), (7, .q false), (8, .q false), (9, .q false), (10, .q false), (11, .q false), (12, .q false), (13, .q false), (14, .q false), (15, .q false), (16, .q false), (17, .q false)] (by kernel_rfl) ?_
 refine Lx_q (i := 0) rfl rfl _ (fun v7 hv8 => R_fieldAddr (off := 1) (oo := 1) Try.underlying39 rfl rfl Try.sizeOf24 rfl rfl ⟨rfl, Gr.refl _ _⟩) ?_
 refine Lx_q (i := 1) rfl rfl _ (fun v9 hv10 => R_loadA (cs := [[(.int .i64 o.tm.T)], [(.int .i64 o.tm.R)]]) Try.isAgg24 Try.sizeOf24 rfl rfl ((boxR_at ((H6.ext hv10).getOwn 0 rfl)).chunks 1 2 1 1 _ rfl rfl rfl) ⟨rfl, Gr.refl _ _⟩) ?_
 refine Lx_q (i := 2) rfl rfl (.bool (stRight o.tm)) (fun v11 hv12 => R_callL (vs := [(aggOf (stampCh o.tm))]) ref03_Good_c38 rfl rfl (ref03_Right o.tm v11 )) ?_
 refine Lx_q (i := 3) rfl rfl _ (fun v13 hv14 => R_not rfl ⟨rfl, Gr.refl _ _⟩) ?_
 refine Lx_q (i := 4) rfl rfl _ (fun v15 hv16 => R_move (v := (.bool (!(stRight o.tm)))) rfl ⟨rfl, Gr.refl _ _⟩) ?_
 refine Lx_qg (i := 5) true (!(stRight o.tm)) rfl rfl rfl rfl rfl (!(!(stRight o.tm))) ga_f _ (fun hA v17 hv18 => R_fieldAddr (off := 3) (oo := 3) Try.underlying39 rfl rfl Try.sizeOf24 rfl rfl ⟨rfl, Gr.refl _ _⟩) ?_
 refine Lx_qg (i := 6) true (!(stRight o.tm)) rfl rfl rfl rfl rfl (!(!(stRight o.tm))) ga_f _ (fun hA v19 hv20 => R_loadA (cs := [[(.int .i64 o.node.T)], [(.int .i64 o.node.R)]]) Try.isAgg24 Try.sizeOf24 rfl (gv_t hA) ((boxR_at ((H6.ext hv20).getOwn 0 rfl)).chunks 3 2 3 3 _ rfl rfl rfl) ⟨rfl, Gr.refl _ _⟩) ?_
 refine Lx_qg (i := 7) true (!(stRight o.tm)) rfl rfl rfl rfl rfl (!(!(stRight o.tm))) ga_f (.bool (stRight o.node)) (fun hA v21 hv22 => R_callL (vs := [(aggOf (stampCh o.node))]) ref03_Good_c38 rfl (lst1 (gv_t hA)) (ref03_Right o.node v21 )) ?_
 refine Lx_qg (i := 8) true (!(stRight o.tm)) rfl rfl rfl rfl rfl (!(!(stRight o.tm))) ga_f _ (fun hA v23 hv24 => R_not (gv_t hA) ⟨rfl, Gr.refl _ _⟩) ?_
 refine Lx_q (i := 9) rfl rfl _ (fun v25 hv26 => R_pick (t := (!(stRight o.tm))) (v := (.bool ((!(stRight o.tm)) || (!(stRight o.node))))) rfl pk_or ⟨rfl, Gr.refl _ _⟩) ?_
 refine Lx_q (i := 10) rfl rfl _ (fun v27 hv28 => R_move (v := (.bool ((!(stRight o.tm)) || (!(stRight o.node))))) rfl ⟨rfl, Gr.refl _ _⟩) ?_
 refine Lx_qg (i := 11) true ((!(stRight o.tm)) || (!(stRight o.node))) rfl rfl rfl rfl rfl (!((!(stRight o.tm)) || (!(stRight o.node)))) ga_f _ (fun hA v29 hv30 => R_fieldAddr (off := 3) (oo := 3) Try.underlying39 rfl rfl Try.sizeOf24 rfl rfl ⟨rfl, Gr.refl _ _⟩) ?_
 refine Lx_qg (i := 12) true ((!(stRight o.tm)) || (!(stRight o.node))) rfl rfl rfl rfl rfl (!((!(stRight o.tm)) || (!(stRight o.node)))) ga_f _ (fun hA v31 hv32 => R_loadA (cs := [[(.int .i64 o.node.T)], [(.int .i64 o.node.R)]]) Try.isAgg24 Try.sizeOf24 rfl (gv_t hA) ((boxR_at ((H6.ext hv32).getOwn 0 rfl)).chunks 3 2 3 3 _ rfl rfl rfl) ⟨rfl, Gr.refl _ _⟩) ?_
 refine Lx_qg (i := 13) true ((!(stRight o.tm)) || (!(stRight o.node))) rfl rfl rfl rfl rfl (!((!(stRight o.tm)) || (!(stRight o.node)))) ga_f _ (fun hA v33 hv34 => R_fieldAddr (off := 1) (oo := 1) Try.underlying39 rfl rfl Try.sizeOf24 rfl rfl ⟨rfl, Gr.refl _ _⟩) ?_
 refine Lx_qg (i := 14) true ((!(stRight o.tm)) || (!(stRight o.node))) rfl rfl rfl rfl rfl (!((!(stRight o.tm)) || (!(stRight o.node)))) ga_f _ (fun hA v35 hv36 => R_loadA (cs := [[(.int .i64 o.tm.T)], [(.int .i64 o.tm.R)]]) Try.isAgg24 Try.sizeOf24 rfl (gv_t hA) ((boxR_at ((H6.ext hv36).getOwn 0 rfl)).chunks 1 2 1 1 _ rfl rfl rfl) ⟨rfl, Gr.refl _ _⟩) ?_
 refine Lx_qg (i := 15) true ((!(stRight o.tm)) || (!(stRight o.node))) rfl rfl rfl rfl rfl (!((!(stRight o.tm)) || (!(stRight o.node)))) ga_f (.int .i64 (cmpSt o.node o.tm)) (fun hA v37 hv38 => R_callL (vs := [(aggOf (stampCh o.node)), (aggOf (stampCh o.tm))]) ref03_Good_c21 rfl (lst2 (gv_t hA) (gv_t hA)) (ref03_Cmp o.node o.tm v37 )) ?_
 refine Lx_qg (i := 16) true ((!(stRight o.tm)) || (!(stRight o.node))) rfl rfl rfl rfl rfl (!((!(stRight o.tm)) || (!(stRight o.node)))) ga_f _ (fun hA v39 hv40 => R_cmp (a := cmpSt o.node o.tm) (b := 0) (r := (decide (0 < cmpSt o.node o.tm))) (gv_t hA) rfl rfl ⟨rfl, Gr.refl _ _⟩) ?_
 refine Lx_q (i := 17) rfl rfl _ (fun v41 hv42 => R_pick (t := ((!(stRight o.tm)) || (!(stRight o.node)))) (v := (.bool (((!(stRight o.tm)) || (!(stRight o.node))) || (decide (0 < cmpSt o.node o.tm))))) rfl pk_or ⟨rfl, Gr.refl _ _⟩) ?_
 refine Lx_nil (fun w43 hw44 => ?_)
 have H45 := H6.ext hw44
 refine Then_n ?_
 refine W_cond (t := (((!(stRight o.tm)) || (!(stRight o.node))) || (decide (0 < cmpSt o.node o.tm)))) rfl (fun hc46 => ?_) (fun hc46 => ?_)
 ·have hc46 : (((stRight o.tm) = false ∨ (stRight o.node) = false) ∨ (0 < cmpSt o.node o.tm)) := (Or.imp (fun h => (Or.imp (fun h => (notT h)) (fun h => (notT h)) (orT h))) (fun h => (of_decide_eq_true h)) (orT hc46))
  refine W_seq (W_reg ?_)
  refine O_v rfl (R_assign (v := (.bool false)) rfl ?_)
  refine O_nil (Then_n (W_ret (Then_r ?_)))
  refine ret_1 (v := (.bool false)) Try.results15 rfl ?_
  exact ⟨(rgood_f1 (by assumption)), H45.gr⟩
 ·have hc46 : (((stRight o.tm) = true ∧ (stRight o.node) = true) ∧ ¬ (0 < cmpSt o.node o.tm)) := (And.imp (fun h => (And.imp (fun h => (notF h)) (fun h => (notF h)) (orF h))) (fun h => (of_decide_eq_false h)) (orF hc46))
  refine W_skip (Then_n (W_seq (W_reg ?_)))
  refine O_v rfl (R_buildL (vs := []) (v := aggOf [(idCells zeroId)]) rfl (fun _ => by kernel_rfl) ?_)
  refine O_v rfl (C_alloc H45 [(idCells zeroId)] Try.zeroValue35 ?_)
  intro b47 w48 hb49 hx50 H51
  refine O_u (C_storeA H51 0 rfl 0 (sub := [(idCells zeroId)]) [(idCells zeroId)] Try.sizeOf35 rfl rfl rfl rfl ⟨[(idCells zeroId)], [], rfl, rfl, rfl⟩ rfl ?_)
  intro w52 hg53 H54
  refine O_nil (Then_n (W_seq (W_seq (W_reg ?_))))
  refine O_v rfl (R_fieldAddr (off := 0) (oo := 0) Try.underlying39 rfl rfl Try.sizeOf3 rfl rfl ?_)
  refine O_v rfl (R_load1 (v := (.int .i64 o.kind)) Try.isAgg3 rfl ((boxR_at (H54.getOwn 1 rfl)).chunks 0 1 0 0 _ rfl rfl rfl) ?_)
  refine O_v rfl (R_cmp (a := o.kind) (b := 1) (r := (decide (o.kind = 1))) rfl rfl rfl ?_)
  refine O_nil (Then_n ?_)
  refine W_cond (t := (decide (o.kind = 1))) rfl (fun hc55 => ?_) (fun hc55 => ?_)
  ·have hc55 : (o.kind = 1) := (of_decide_eq_true hc55)
   refine W_seq ?_
   refine W_rg [(0, .q false), (1, .q false), (2, .q false), (3, .q false), (4, .q false), (5, .q false), (6, .q false), (7, .q false), (8, .q false), (9, .q false), (10, .q false), (11, .q false), (12, .q false), (13, .q false), (14, .q false), (15, .q false), (16, .q false), (17, .q false), (18, .q false), (19, .q false), (20, .q false), (21, .q false), (22, .q false), (23, .q false), (24, .q false), (25, .q false), (26, .q false), (27, .q false)] (by kernel_rfl) ?_
   refine Lx_q (i := 0) rfl rfl _ (fun v56 hv57 => R_fieldAddr (off := 5) (oo := 5) Try.underlying39 rfl rfl Try.sizeOf24 rfl rfl ⟨rfl, Gr.refl _ _⟩) ?_
   refine Lx_q (i := 1) rfl rfl _ (fun v58 hv59 => R_loadA (cs := [[(.int .i64 o.par.T)], [(.int .i64 o.par.R)]]) Try.isAgg24 Try.sizeOf24 rfl rfl ((boxR_at ((H54.ext hv59).getOwn 1 rfl)).chunks 5 2 5 5 _ rfl rfl rfl) ⟨rfl, Gr.refl _ _⟩) ?_
   refine Lx_q (i := 2) rfl rfl (.bool (stRight o.par)) (fun v60 hv61 => R_callL (vs := [(aggOf (stampCh o.par))]) ref03_Good_c38 rfl rfl (ref03_Right o.par v60 )) ?_
   refine Lx_q (i := 3) rfl rfl _ (fun v62 hv63 => R_move (v := (.bool (stRight o.par))) rfl ⟨rfl, Gr.refl _ _⟩) ?_
   refine Lx_qg (i := 4) true (stRight o.par) rfl rfl rfl rfl rfl (!(stRight o.par)) ga_f _ (fun hA v64 hv65 => R_fieldAddr (off := 5) (oo := 5) Try.underlying39 rfl rfl Try.sizeOf24 rfl rfl ⟨rfl, Gr.refl _ _⟩) ?_
   refine Lx_qg (i := 5) true (stRight o.par) rfl rfl rfl rfl rfl (!(stRight o.par)) ga_f _ (fun hA v66 hv67 => R_fieldAddr (off := 0) (oo := 5) Try.underlying24 rfl rfl Try.sizeOf2 (gv_t hA) rfl ⟨rfl, Gr.refl _ _⟩) ?_
   refine Lx_qg (i := 6) true (stRight o.par) rfl rfl rfl rfl rfl (!(stRight o.par)) ga_f _ (fun hA v68 hv69 => R_load1 (v := (.int .i64 o.par.T)) Try.isAgg2 (gv_t hA) ((boxR_at ((H54.ext hv69).getOwn 1 rfl)).chunks 5 1 5 5 _ rfl rfl rfl) ⟨rfl, Gr.refl _ _⟩) ?_
   refine Lx_qg (i := 7) true (stRight o.par) rfl rfl rfl rfl rfl (!(stRight o.par)) ga_f _ (fun hA v70 hv71 => R_cmp (a := o.par.T) (b := 0) (r := (decide (o.par.T = 0))) (gv_t hA) rfl rfl ⟨rfl, Gr.refl _ _⟩) ?_
   refine Lx_qg (i := 8) true (stRight o.par) rfl rfl rfl rfl rfl (!(stRight o.par)) ga_f _ (fun hA v72 hv73 => R_move (v := (.bool (decide (o.par.T = 0)))) (gv_t hA) ⟨rfl, Gr.refl _ _⟩) ?_
   refine Lx_qg (i := 9) (!(stRight o.par)) (decide (o.par.T = 0)) rfl rfl rfl rfl rfl ((!(stRight o.par)) && (decide (o.par.T = 0))) gb_t _ (fun hA v74 hv75 => R_fieldAddr (off := 5) (oo := 5) Try.underlying39 rfl rfl Try.sizeOf24 rfl rfl ⟨rfl, Gr.refl _ _⟩) ?_
   refine Lx_qg (i := 10) (!(stRight o.par)) (decide (o.par.T = 0)) rfl rfl rfl rfl rfl ((!(stRight o.par)) && (decide (o.par.T = 0))) gb_t _ (fun hA v76 hv77 => R_fieldAddr (off := 1) (oo := 6) Try.underlying24 rfl rfl Try.sizeOf3 (gv_t hA) rfl ⟨rfl, Gr.refl _ _⟩) ?_
   refine Lx_qg (i := 11) (!(stRight o.par)) (decide (o.par.T = 0)) rfl rfl rfl rfl rfl ((!(stRight o.par)) && (decide (o.par.T = 0))) gb_t _ (fun hA v78 hv79 => R_load1 (v := (.int .i64 o.par.R)) Try.isAgg3 (gv_t hA) ((boxR_at ((H54.ext hv79).getOwn 1 rfl)).chunks 6 1 6 6 _ rfl rfl rfl) ⟨rfl, Gr.refl _ _⟩) ?_
   refine Lx_qg (i := 12) (!(stRight o.par)) (decide (o.par.T = 0)) rfl rfl rfl rfl rfl ((!(stRight o.par)) && (decide (o.par.T = 0))) gb_t _ (fun hA v80 hv81 => R_cmp (a := o.par.R) (b := 0) (r := (decide (o.par.R = 0))) (gv_t hA) rfl rfl ⟨rfl, Gr.refl _ _⟩) ?_
   refine Lx_qg (i := 13) true (stRight o.par) rfl rfl rfl rfl rfl (!(stRight o.par)) ga_f _ (fun hA v82 hv83 => R_pick (t := (decide (o.par.T = 0))) (v := (.bool ((decide (o.par.T = 0)) && (decide (o.par.R = 0))))) (gv_t hA) (pk_andA hA) ⟨rfl, Gr.refl _ _⟩) ?_
   refine Lx_q (i := 14) rfl rfl _ (fun v84 hv85 => R_pick (t := (stRight o.par)) (v := (.bool ((stRight o.par) || ((decide (o.par.T = 0)) && (decide (o.par.R = 0)))))) rfl pk_or ⟨rfl, Gr.refl _ _⟩) ?_
   refine Lx_q (i := 15) rfl rfl _ (fun v86 hv87 => R_move (v := (.bool ((stRight o.par) || ((decide (o.par.T = 0)) && (decide (o.par.R = 0)))))) rfl ⟨rfl, Gr.refl _ _⟩) ?_
   refine Lx_qg (i := 16) true ((stRight o.par) || ((decide (o.par.T = 0)) && (decide (o.par.R = 0)))) rfl rfl rfl rfl rfl (!((stRight o.par) || ((decide (o.par.T = 0)) && (decide (o.par.R = 0))))) ga_f _ (fun hA v88 hv89 => R_fieldAddr (off := 5) (oo := 5) Try.underlying39 rfl rfl Try.sizeOf24 rfl rfl ⟨rfl, Gr.refl _ _⟩) ?_
   refine Lx_qg (i := 17) true ((stRight o.par) || ((decide (o.par.T = 0)) && (decide (o.par.R = 0)))) rfl rfl rfl rfl rfl (!((stRight o.par) || ((decide (o.par.T = 0)) && (decide (o.par.R = 0))))) ga_f _ (fun hA v90 hv91 => R_fieldAddr (off := 0) (oo := 5) Try.underlying24 rfl rfl Try.sizeOf2 (gv_t hA) rfl ⟨rfl, Gr.refl _ _⟩) ?_
   refine Lx_qg (i := 18) true ((stRight o.par) || ((decide (o.par.T = 0)) && (decide (o.par.R = 0)))) rfl rfl rfl rfl rfl (!((stRight o.par) || ((decide (o.par.T = 0)) && (decide (o.par.R = 0))))) ga_f _ (fun hA v92 hv93 => R_load1 (v := (.int .i64 o.par.T)) Try.isAgg2 (gv_t hA) ((boxR_at ((H54.ext hv93).getOwn 1 rfl)).chunks 5 1 5 5 _ rfl rfl rfl) ⟨rfl, Gr.refl _ _⟩) ?_
   refine Lx_qg (i := 19) true ((stRight o.par) || ((decide (o.par.T = 0)) && (decide (o.par.R = 0)))) rfl rfl rfl rfl rfl (!((stRight o.par) || ((decide (o.par.T = 0)) && (decide (o.par.R = 0))))) ga_f _ (fun hA v94 hv95 => R_cmp (a := o.par.T) (b := 0) (r := (decide (o.par.T = 0))) (gv_t hA) rfl rfl ⟨rfl, Gr.refl _ _⟩) ?_
   refine Lx_qg (i := 20) true ((stRight o.par) || ((decide (o.par.T = 0)) && (decide (o.par.R = 0)))) rfl rfl rfl rfl rfl (!((stRight o.par) || ((decide (o.par.T = 0)) && (decide (o.par.R = 0))))) ga_f _ (fun hA v96 hv97 => R_move (v := (.bool (decide (o.par.T = 0)))) (gv_t hA) ⟨rfl, Gr.refl _ _⟩) ?_
   refine Lx_qg (i := 21) (!((stRight o.par) || ((decide (o.par.T = 0)) && (decide (o.par.R = 0))))) (decide (o.par.T = 0)) rfl rfl rfl rfl rfl ((!((stRight o.par) || ((decide (o.par.T = 0)) && (decide (o.par.R = 0))))) && (decide (o.par.T = 0))) gb_t _ (fun hA v98 hv99 => R_fieldAddr (off := 5) (oo := 5) Try.underlying39 rfl rfl Try.sizeOf24 rfl rfl ⟨rfl, Gr.refl _ _⟩) ?_
   refine Lx_qg (i := 22) (!((stRight o.par) || ((decide (o.par.T = 0)) && (decide (o.par.R = 0))))) (decide (o.par.T = 0)) rfl rfl rfl rfl rfl ((!((stRight o.par) || ((decide (o.par.T = 0)) && (decide (o.par.R = 0))))) && (decide (o.par.T = 0))) gb_t _ (fun hA v100 hv101 => R_fieldAddr (off := 1) (oo := 6) Try.underlying24 rfl rfl Try.sizeOf3 (gv_t hA) rfl ⟨rfl, Gr.refl _ _⟩) ?_
   refine Lx_qg (i := 23) (!((stRight o.par) || ((decide (o.par.T = 0)) && (decide (o.par.R = 0))))) (decide (o.par.T = 0)) rfl rfl rfl rfl rfl ((!((stRight o.par) || ((decide (o.par.T = 0)) && (decide (o.par.R = 0))))) && (decide (o.par.T = 0))) gb_t _ (fun hA v102 hv103 => R_load1 (v := (.int .i64 o.par.R)) Try.isAgg3 (gv_t hA) ((boxR_at ((H54.ext hv103).getOwn 1 rfl)).chunks 6 1 6 6 _ rfl rfl rfl) ⟨rfl, Gr.refl _ _⟩) ?_
   refine Lx_qg (i := 24) (!((stRight o.par) || ((decide (o.par.T = 0)) && (decide (o.par.R = 0))))) (decide (o.par.T = 0)) rfl rfl rfl rfl rfl ((!((stRight o.par) || ((decide (o.par.T = 0)) && (decide (o.par.R = 0))))) && (decide (o.par.T = 0))) gb_t _ (fun hA v104 hv105 => R_cmp (a := o.par.R) (b := 1) (r := (decide (o.par.R = 1))) (gv_t hA) rfl rfl ⟨rfl, Gr.refl _ _⟩) ?_
   refine Lx_qg (i := 25) true ((stRight o.par) || ((decide (o.par.T = 0)) && (decide (o.par.R = 0)))) rfl rfl rfl rfl rfl (!((stRight o.par) || ((decide (o.par.T = 0)) && (decide (o.par.R = 0))))) ga_f _ (fun hA v106 hv107 => R_pick (t := (decide (o.par.T = 0))) (v := (.bool ((decide (o.par.T = 0)) && (decide (o.par.R = 1))))) (gv_t hA) (pk_andA hA) ⟨rfl, Gr.refl _ _⟩) ?_
   refine Lx_q (i := 26) rfl rfl _ (fun v108 hv109 => R_pick (t := ((stRight o.par) || ((decide (o.par.T = 0)) && (decide (o.par.R = 0))))) (v := (.bool (((stRight o.par) || ((decide (o.par.T = 0)) && (decide (o.par.R = 0)))) || ((decide (o.par.T = 0)) && (decide (o.par.R = 1)))))) rfl pk_or ⟨rfl, Gr.refl _ _⟩) ?_
   refine Lx_q (i := 27) rfl rfl _ (fun v110 hv111 => R_assign (v := (.bool (((stRight o.par) || ((decide (o.par.T = 0)) && (decide (o.par.R = 0)))) || ((decide (o.par.T = 0)) && (decide (o.par.R = 1)))))) rfl ⟨rfl, Gr.refl _ _⟩) ?_
   refine Lx_nil (fun w112 hw113 => ?_)
   have H114 := H54.ext hw113
   refine Then_n (W_seq ?_)
   refine W_rg [(0, .q false), (1, .q false), (2, .q false), (3, .q false), (4, .q false), (5, .q false), (6, .q false), (7, .q false), (8, .q false), (9, .q false), (10, .q false), (11, .q false), (12, .q false), (13, .q false), (14, .q false), (15, .q false), (16, .q false), (17, .q false), (18, .q false)] (by kernel_rfl) ?_
   refine Lx_q (i := 0) rfl rfl _ (fun v115 hv116 => R_move (v := (.bool (((stRight o.par) || ((decide (o.par.T = 0)) && (decide (o.par.R = 0)))) || ((decide (o.par.T = 0)) && (decide (o.par.R = 1)))))) rfl ⟨rfl, Gr.refl _ _⟩) ?_
   refine Lx_q (i := 1) rfl rfl _ (fun v117 hv118 => R_move (v := (.bool (((stRight o.par) || ((decide (o.par.T = 0)) && (decide (o.par.R = 0)))) || ((decide (o.par.T = 0)) && (decide (o.par.R = 1)))))) rfl ⟨rfl, Gr.refl _ _⟩) ?_
   refine Lx_qg (i := 2) true (((stRight o.par) || ((decide (o.par.T = 0)) && (decide (o.par.R = 0)))) || ((decide (o.par.T = 0)) && (decide (o.par.R = 1)))) rfl rfl rfl rfl rfl (((stRight o.par) || ((decide (o.par.T = 0)) && (decide (o.par.R = 0)))) || ((decide (o.par.T = 0)) && (decide (o.par.R = 1)))) ga_t _ (fun hA v119 hv120 => R_fieldAddr (off := 7) (oo := 7) Try.underlying39 rfl rfl Try.sizeOf9 rfl rfl ⟨rfl, Gr.refl _ _⟩) ?_
   refine Lx_qg (i := 3) true (((stRight o.par) || ((decide (o.par.T = 0)) && (decide (o.par.R = 0)))) || ((decide (o.par.T = 0)) && (decide (o.par.R = 1)))) rfl rfl rfl rfl rfl (((stRight o.par) || ((decide (o.par.T = 0)) && (decide (o.par.R = 0)))) || ((decide (o.par.T = 0)) && (decide (o.par.R = 1)))) ga_t _ (fun hA v121 hv122 => R_load1 (v := (.string o.name)) Try.isAgg9 (gv_t hA) ((boxR_at ((H114.ext hv122).getOwn 1 rfl)).chunks 7 1 7 7 _ rfl rfl rfl) ⟨rfl, Gr.refl _ _⟩) ?_
   refine Lx_qg (i := 4) true (((stRight o.par) || ((decide (o.par.T = 0)) && (decide (o.par.R = 0)))) || ((decide (o.par.T = 0)) && (decide (o.par.R = 1)))) rfl rfl rfl rfl rfl (((stRight o.par) || ((decide (o.par.T = 0)) && (decide (o.par.R = 0)))) || ((decide (o.par.T = 0)) && (decide (o.par.R = 1)))) ga_t (.bool (nameOk o.name)) (fun hA v123 hv124 => R_callL (vs := [(.string o.name)]) ref03_Good_c39 rfl (lst1 (gv_t hA)) (ref03_Name o.name v123 hl)) ?_
   refine Lx_q (i := 5) rfl rfl _ (fun v125 hv126 => R_pick (t := (((stRight o.par) || ((decide (o.par.T = 0)) && (decide (o.par.R = 0)))) || ((decide (o.par.T = 0)) && (decide (o.par.R = 1))))) (v := (.bool ((((stRight o.par) || ((decide (o.par.T = 0)) && (decide (o.par.R = 0)))) || ((decide (o.par.T = 0)) && (decide (o.par.R = 1)))) && (nameOk o.name)))) rfl pk_and ⟨rfl, Gr.refl _ _⟩) ?_
   refine Lx_q (i := 6) rfl rfl _ (fun v127 hv128 => R_move (v := (.bool ((((stRight o.par) || ((decide (o.par.T = 0)) && (decide (o.par.R = 0)))) || ((decide (o.par.T = 0)) && (decide (o.par.R = 1)))) && (nameOk o.name)))) rfl ⟨rfl, Gr.refl _ _⟩) ?_
   refine Lx_qg (i := 7) true ((((stRight o.par) || ((decide (o.par.T = 0)) && (decide (o.par.R = 0)))) || ((decide (o.par.T = 0)) && (decide (o.par.R = 1)))) && (nameOk o.name)) rfl rfl rfl rfl rfl ((((stRight o.par) || ((decide (o.par.T = 0)) && (decide (o.par.R = 0)))) || ((decide (o.par.T = 0)) && (decide (o.par.R = 1)))) && (nameOk o.name)) ga_t _ (fun hA v129 hv130 => R_fieldAddr (off := 8) (oo := 8) Try.underlying39 rfl rfl Try.sizeOf36 rfl rfl ⟨rfl, Gr.refl _ _⟩) ?_
   refine Lx_qg (i := 8) true ((((stRight o.par) || ((decide (o.par.T = 0)) && (decide (o.par.R = 0)))) || ((decide (o.par.T = 0)) && (decide (o.par.R = 1)))) && (nameOk o.name)) rfl rfl rfl rfl rfl ((((stRight o.par) || ((decide (o.par.T = 0)) && (decide (o.par.R = 0)))) || ((decide (o.par.T = 0)) && (decide (o.par.R = 1)))) && (nameOk o.name)) ga_t _ (fun hA v131 hv132 => R_loadA (cs := [(idCells o.data)]) Try.isAgg36 Try.sizeOf36 rfl (gv_t hA) ((boxR_at ((H114.ext hv132).getOwn 1 rfl)).chunks 8 1 8 8 _ rfl rfl rfl) ⟨rfl, Gr.refl _ _⟩) ?_
   refine Lx_qg (i := 9) true ((((stRight o.par) || ((decide (o.par.T = 0)) && (decide (o.par.R = 0)))) || ((decide (o.par.T = 0)) && (decide (o.par.R = 1)))) && (nameOk o.name)) rfl rfl rfl rfl rfl ((((stRight o.par) || ((decide (o.par.T = 0)) && (decide (o.par.R = 0)))) || ((decide (o.par.T = 0)) && (decide (o.par.R = 1)))) && (nameOk o.name)) ga_t _ (fun hA v133 hv134 => R_loadA (cs := [(idCells zeroId)]) Try.isAgg35 Try.sizeOf35 rfl rfl ((boxR_at ((H114.ext hv134).getOwn 0 rfl)).chunks 0 1 0 0 _ rfl rfl rfl) ⟨rfl, Gr.refl _ _⟩) ?_
   refine Lx_qg (i := 10) true ((((stRight o.par) || ((decide (o.par.T = 0)) && (decide (o.par.R = 0)))) || ((decide (o.par.T = 0)) && (decide (o.par.R = 1)))) && (nameOk o.name)) rfl rfl rfl rfl rfl ((((stRight o.par) || ((decide (o.par.T = 0)) && (decide (o.par.R = 0)))) || ((decide (o.par.T = 0)) && (decide (o.par.R = 1)))) && (nameOk o.name)) ga_t _ (fun hA v135 hv136 => R_eqv (a := o.data) (b := zeroId) eqv_ID36 rfl Try.eqGuardType36 (gv_t hA) (gv_t hA) ⟨rfl, Gr.refl _ _⟩) ?_
   refine Lx_q (i := 11) rfl rfl _ (fun v137 hv138 => R_pick (t := ((((stRight o.par) || ((decide (o.par.T = 0)) && (decide (o.par.R = 0)))) || ((decide (o.par.T = 0)) && (decide (o.par.R = 1)))) && (nameOk o.name))) (v := (.bool (((((stRight o.par) || ((decide (o.par.T = 0)) && (decide (o.par.R = 0)))) || ((decide (o.par.T = 0)) && (decide (o.par.R = 1)))) && (nameOk o.name)) && (decide (o.data = zeroId))))) rfl pk_and ⟨rfl, Gr.refl _ _⟩) ?_
   refine Lx_q (i := 12) rfl rfl _ (fun v139 hv140 => R_move (v := (.bool (((((stRight o.par) || ((decide (o.par.T = 0)) && (decide (o.par.R = 0)))) || ((decide (o.par.T = 0)) && (decide (o.par.R = 1)))) && (nameOk o.name)) && (decide (o.data = zeroId))))) rfl ⟨rfl, Gr.refl _ _⟩) ?_
   refine Lx_qg (i := 13) true (((((stRight o.par) || ((decide (o.par.T = 0)) && (decide (o.par.R = 0)))) || ((decide (o.par.T = 0)) && (decide (o.par.R = 1)))) && (nameOk o.name)) && (decide (o.data = zeroId))) rfl rfl rfl rfl rfl (((((stRight o.par) || ((decide (o.par.T = 0)) && (decide (o.par.R = 0)))) || ((decide (o.par.T = 0)) && (decide (o.par.R = 1)))) && (nameOk o.name)) && (decide (o.data = zeroId))) ga_t _ (fun hA v141 hv142 => R_fieldAddr (off := 40) (oo := 40) Try.underlying39 rfl rfl Try.sizeOf37 rfl rfl ⟨rfl, Gr.refl _ _⟩) ?_
   refine Lx_qg (i := 14) true (((((stRight o.par) || ((decide (o.par.T = 0)) && (decide (o.par.R = 0)))) || ((decide (o.par.T = 0)) && (decide (o.par.R = 1)))) && (nameOk o.name)) && (decide (o.data = zeroId))) rfl rfl rfl rfl rfl (((((stRight o.par) || ((decide (o.par.T = 0)) && (decide (o.par.R = 0)))) || ((decide (o.par.T = 0)) && (decide (o.par.R = 1)))) && (nameOk o.name)) && (decide (o.data = zeroId))) ga_t _ (fun hA v143 hv144 => R_load1 (v := (slV o.oh o.over)) Try.isAgg37 (gv_t hA) ((boxR_at ((H114.ext hv144).getOwn 1 rfl)).chunks 9 1 40 40 _ rfl rfl rfl) ⟨rfl, Gr.refl _ _⟩) ?_
   refine Lx_qg (i := 15) true (((((stRight o.par) || ((decide (o.par.T = 0)) && (decide (o.par.R = 0)))) || ((decide (o.par.T = 0)) && (decide (o.par.R = 1)))) && (nameOk o.name)) && (decide (o.data = zeroId))) rfl rfl rfl rfl rfl (((((stRight o.par) || ((decide (o.par.T = 0)) && (decide (o.par.R = 0)))) || ((decide (o.par.T = 0)) && (decide (o.par.R = 1)))) && (nameOk o.name)) && (decide (o.data = zeroId))) ga_t _ (fun hA v145 hv146 => R_len_slice (a := o.oh.a) (n := o.over.length) (c := o.oh.c) Try.underlying37 (gv_t hA) ⟨rfl, Gr.refl _ _⟩) ?_
   refine Lx_qg (i := 16) true (((((stRight o.par) || ((decide (o.par.T = 0)) && (decide (o.par.R = 0)))) || ((decide (o.par.T = 0)) && (decide (o.par.R = 1)))) && (nameOk o.name)) && (decide (o.data = zeroId))) rfl rfl rfl rfl rfl (((((stRight o.par) || ((decide (o.par.T = 0)) && (decide (o.par.R = 0)))) || ((decide (o.par.T = 0)) && (decide (o.par.R = 1)))) && (nameOk o.name)) && (decide (o.data = zeroId))) ga_t _ (fun hA v147 hv148 => R_cmp (a := ((o.over.length : Nat) : Int)) (b := 0) (r := (decide (((o.over.length : Nat) : Int) = 0))) (gv_t hA) rfl rfl ⟨rfl, Gr.refl _ _⟩) ?_
   refine Lx_q (i := 17) rfl rfl _ (fun v149 hv150 => R_pick (t := (((((stRight o.par) || ((decide (o.par.T = 0)) && (decide (o.par.R = 0)))) || ((decide (o.par.T = 0)) && (decide (o.par.R = 1)))) && (nameOk o.name)) && (decide (o.data = zeroId)))) (v := (.bool ((((((stRight o.par) || ((decide (o.par.T = 0)) && (decide (o.par.R = 0)))) || ((decide (o.par.T = 0)) && (decide (o.par.R = 1)))) && (nameOk o.name)) && (decide (o.data = zeroId))) && (decide (((o.over.length : Nat) : Int) = 0))))) rfl pk_and ⟨rfl, Gr.refl _ _⟩) ?_
   refine Lx_q (i := 18) rfl rfl _ (fun v151 hv152 => R_assign (v := (.bool ((((((stRight o.par) || ((decide (o.par.T = 0)) && (decide (o.par.R = 0)))) || ((decide (o.par.T = 0)) && (decide (o.par.R = 1)))) && (nameOk o.name)) && (decide (o.data = zeroId))) && (decide (((o.over.length : Nat) : Int) = 0))))) rfl ⟨rfl, Gr.refl _ _⟩) ?_
   refine Lx_nil (fun w153 hw154 => ?_)
   have H155 := H114.ext hw154
   refine Then_n (W_ret (Then_r ?_))
   refine ret_1 (v := (.bool ((((((stRight o.par) || ((decide (o.par.T = 0)) && (decide (o.par.R = 0)))) || ((decide (o.par.T = 0)) && (decide (o.par.R = 1)))) && (nameOk o.name)) && (decide (o.data = zeroId))) && (decide (((o.over.length : Nat) : Int) = 0))))) Try.results15 rfl ?_
   exact ⟨(rgood_m (by assumption) (by assumption)), H155.gr⟩
  ·have hc55 : ¬ (o.kind = 1) := (of_decide_eq_false hc55)
   refine W_skip (Then_n (W_seq (W_seq ?_)))
   refine W_rg [(0, .q false), (1, .q false), (2, .q false), (3, .q false), (4, .q false), (5, .q false), (6, .q false), (7, .q false), (8, .q false), (9, .q false), (10, .q false), (11, .q false), (12, .q false), (13, .q false), (14, .q false), (15, .q false), (16, .q false), (17, .q false), (18, .q false), (19, .q false), (20, .q false), (21, .q false), (22, .q false), (23, .q false), (24, .q false), (25, .q false), (26, .q false), (27, .q false), (28, .q false), (29, .q false), (30, .q false), (31, .q false), (32, .q false), (33, .q false), (34, .q false), (35, .q false), (36, .q false), (37, .q false), (38, .q false)] (by kernel_rfl) ?_
   refine Lx_q (i := 0) rfl rfl _ (fun v156 hv157 => R_fieldAddr (off := 0) (oo := 0) Try.underlying39 rfl rfl Try.sizeOf3 rfl rfl ⟨rfl, Gr.refl _ _⟩) ?_
   refine Lx_q (i := 1) rfl rfl _ (fun v158 hv159 => R_load1 (v := (.int .i64 o.kind)) Try.isAgg3 rfl ((boxR_at ((H54.ext hv159).getOwn 1 rfl)).chunks 0 1 0 0 _ rfl rfl rfl) ⟨rfl, Gr.refl _ _⟩) ?_
   refine Lx_q (i := 2) rfl rfl _ (fun v160 hv161 => R_cmp (a := o.kind) (b := 2) (r := (!(decide (o.kind = 2)))) rfl rfl rfl ⟨rfl, Gr.refl _ _⟩) ?_
   refine Lx_q (i := 3) rfl rfl _ (fun v162 hv163 => R_move (v := (.bool (!(decide (o.kind = 2))))) rfl ⟨rfl, Gr.refl _ _⟩) ?_
   refine Lx_qg (i := 4) true (!(decide (o.kind = 2))) rfl rfl rfl rfl rfl (!(!(decide (o.kind = 2)))) ga_f _ (fun hA v164 hv165 => R_fieldAddr (off := 3) (oo := 3) Try.underlying39 rfl rfl Try.sizeOf24 rfl rfl ⟨rfl, Gr.refl _ _⟩) ?_
   refine Lx_qg (i := 5) true (!(decide (o.kind = 2))) rfl rfl rfl rfl rfl (!(!(decide (o.kind = 2)))) ga_f _ (fun hA v166 hv167 => R_loadA (cs := [[(.int .i64 o.node.T)], [(.int .i64 o.node.R)]]) Try.isAgg24 Try.sizeOf24 rfl (gv_t hA) ((boxR_at ((H54.ext hv167).getOwn 1 rfl)).chunks 3 2 3 3 _ rfl rfl rfl) ⟨rfl, Gr.refl _ _⟩) ?_
   refine Lx_qg (i := 6) true (!(decide (o.kind = 2))) rfl rfl rfl rfl rfl (!(!(decide (o.kind = 2)))) ga_f _ (fun hA v168 hv169 => R_fieldAddr (off := 1) (oo := 1) Try.underlying39 rfl rfl Try.sizeOf24 rfl rfl ⟨rfl, Gr.refl _ _⟩) ?_
   refine Lx_qg (i := 7) true (!(decide (o.kind = 2))) rfl rfl rfl rfl rfl (!(!(decide (o.kind = 2)))) ga_f _ (fun hA v170 hv171 => R_loadA (cs := [[(.int .i64 o.tm.T)], [(.int .i64 o.tm.R)]]) Try.isAgg24 Try.sizeOf24 rfl (gv_t hA) ((boxR_at ((H54.ext hv171).getOwn 1 rfl)).chunks 1 2 1 1 _ rfl rfl rfl) ⟨rfl, Gr.refl _ _⟩) ?_
   refine Lx_qg (i := 8) true (!(decide (o.kind = 2))) rfl rfl rfl rfl rfl (!(!(decide (o.kind = 2)))) ga_f _ (fun hA v172 hv173 => R_eqv (a := o.node) (b := o.tm) eqv_Stamp24 rfl Try.eqGuardType24 (gv_t hA) (gv_t hA) ⟨rfl, Gr.refl _ _⟩) ?_
   refine Lx_q (i := 9) rfl rfl _ (fun v174 hv175 => R_pick (t := (!(decide (o.kind = 2)))) (v := (.bool ((!(decide (o.kind = 2))) || (decide (o.node = o.tm))))) rfl pk_or ⟨rfl, Gr.refl _ _⟩) ?_
   refine Lx_q (i := 10) rfl rfl _ (fun v176 hv177 => R_move (v := (.bool ((!(decide (o.kind = 2))) || (decide (o.node = o.tm))))) rfl ⟨rfl, Gr.refl _ _⟩) ?_
   refine Lx_qg (i := 11) true ((!(decide (o.kind = 2))) || (decide (o.node = o.tm))) rfl rfl rfl rfl rfl (!((!(decide (o.kind = 2))) || (decide (o.node = o.tm)))) ga_f _ (fun hA v178 hv179 => R_fieldAddr (off := 5) (oo := 5) Try.underlying39 rfl rfl Try.sizeOf24 rfl rfl ⟨rfl, Gr.refl _ _⟩) ?_
   refine Lx_qg (i := 12) true ((!(decide (o.kind = 2))) || (decide (o.node = o.tm))) rfl rfl rfl rfl rfl (!((!(decide (o.kind = 2))) || (decide (o.node = o.tm)))) ga_f _ (fun hA v180 hv181 => R_fieldAddr (off := 0) (oo := 5) Try.underlying24 rfl rfl Try.sizeOf2 (gv_t hA) rfl ⟨rfl, Gr.refl _ _⟩) ?_
   refine Lx_qg (i := 13) true ((!(decide (o.kind = 2))) || (decide (o.node = o.tm))) rfl rfl rfl rfl rfl (!((!(decide (o.kind = 2))) || (decide (o.node = o.tm)))) ga_f _ (fun hA v182 hv183 => R_load1 (v := (.int .i64 o.par.T)) Try.isAgg2 (gv_t hA) ((boxR_at ((H54.ext hv183).getOwn 1 rfl)).chunks 5 1 5 5 _ rfl rfl rfl) ⟨rfl, Gr.refl _ _⟩) ?_
   refine Lx_qg (i := 14) true ((!(decide (o.kind = 2))) || (decide (o.node = o.tm))) rfl rfl rfl rfl rfl (!((!(decide (o.kind = 2))) || (decide (o.node = o.tm)))) ga_f _ (fun hA v184 hv185 => R_cmp (a := o.par.T) (b := 0) (r := (!(decide (o.par.T = 0)))) (gv_t hA) rfl rfl ⟨rfl, Gr.refl _ _⟩) ?_
   refine Lx_q (i := 15) rfl rfl _ (fun v186 hv187 => R_pick (t := ((!(decide (o.kind = 2))) || (decide (o.node = o.tm)))) (v := (.bool (((!(decide (o.kind = 2))) || (decide (o.node = o.tm))) || (!(decide (o.par.T = 0)))))) rfl pk_or ⟨rfl, Gr.refl _ _⟩) ?_
   refine Lx_q (i := 16) rfl rfl _ (fun v188 hv189 => R_move (v := (.bool (((!(decide (o.kind = 2))) || (decide (o.node = o.tm))) || (!(decide (o.par.T = 0)))))) rfl ⟨rfl, Gr.refl _ _⟩) ?_
   refine Lx_qg (i := 17) true (((!(decide (o.kind = 2))) || (decide (o.node = o.tm))) || (!(decide (o.par.T = 0)))) rfl rfl rfl rfl rfl (!(((!(decide (o.kind = 2))) || (decide (o.node = o.tm))) || (!(decide (o.par.T = 0))))) ga_f _ (fun hA v190 hv191 => R_fieldAddr (off := 5) (oo := 5) Try.underlying39 rfl rfl Try.sizeOf24 rfl rfl ⟨rfl, Gr.refl _ _⟩) ?_
   refine Lx_qg (i := 18) true (((!(decide (o.kind = 2))) || (decide (o.node = o.tm))) || (!(decide (o.par.T = 0)))) rfl rfl rfl rfl rfl (!(((!(decide (o.kind = 2))) || (decide (o.node = o.tm))) || (!(decide (o.par.T = 0))))) ga_f _ (fun hA v192 hv193 => R_fieldAddr (off := 1) (oo := 6) Try.underlying24 rfl rfl Try.sizeOf3 (gv_t hA) rfl ⟨rfl, Gr.refl _ _⟩) ?_
   refine Lx_qg (i := 19) true (((!(decide (o.kind = 2))) || (decide (o.node = o.tm))) || (!(decide (o.par.T = 0)))) rfl rfl rfl rfl rfl (!(((!(decide (o.kind = 2))) || (decide (o.node = o.tm))) || (!(decide (o.par.T = 0))))) ga_f _ (fun hA v194 hv195 => R_load1 (v := (.int .i64 o.par.R)) Try.isAgg3 (gv_t hA) ((boxR_at ((H54.ext hv195).getOwn 1 rfl)).chunks 6 1 6 6 _ rfl rfl rfl) ⟨rfl, Gr.refl _ _⟩) ?_
   refine Lx_qg (i := 20) true (((!(decide (o.kind = 2))) || (decide (o.node = o.tm))) || (!(decide (o.par.T = 0)))) rfl rfl rfl rfl rfl (!(((!(decide (o.kind = 2))) || (decide (o.node = o.tm))) || (!(decide (o.par.T = 0))))) ga_f _ (fun hA v196 hv197 => R_cmp (a := o.par.R) (b := 0) (r := (!(decide (o.par.R = 0)))) (gv_t hA) rfl rfl ⟨rfl, Gr.refl _ _⟩) ?_
   refine Lx_q (i := 21) rfl rfl _ (fun v198 hv199 => R_pick (t := (((!(decide (o.kind = 2))) || (decide (o.node = o.tm))) || (!(decide (o.par.T = 0))))) (v := (.bool ((((!(decide (o.kind = 2))) || (decide (o.node = o.tm))) || (!(decide (o.par.T = 0)))) || (!(decide (o.par.R = 0)))))) rfl pk_or ⟨rfl, Gr.refl _ _⟩) ?_
   refine Lx_q (i := 22) rfl rfl _ (fun v200 hv201 => R_move (v := (.bool ((((!(decide (o.kind = 2))) || (decide (o.node = o.tm))) || (!(decide (o.par.T = 0)))) || (!(decide (o.par.R = 0)))))) rfl ⟨rfl, Gr.refl _ _⟩) ?_
   refine Lx_qg (i := 23) true ((((!(decide (o.kind = 2))) || (decide (o.node = o.tm))) || (!(decide (o.par.T = 0)))) || (!(decide (o.par.R = 0)))) rfl rfl rfl rfl rfl (!((((!(decide (o.kind = 2))) || (decide (o.node = o.tm))) || (!(decide (o.par.T = 0)))) || (!(decide (o.par.R = 0))))) ga_f _ (fun hA v202 hv203 => R_fieldAddr (off := 7) (oo := 7) Try.underlying39 rfl rfl Try.sizeOf9 rfl rfl ⟨rfl, Gr.refl _ _⟩) ?_
   refine Lx_qg (i := 24) true ((((!(decide (o.kind = 2))) || (decide (o.node = o.tm))) || (!(decide (o.par.T = 0)))) || (!(decide (o.par.R = 0)))) rfl rfl rfl rfl rfl (!((((!(decide (o.kind = 2))) || (decide (o.node = o.tm))) || (!(decide (o.par.T = 0)))) || (!(decide (o.par.R = 0))))) ga_f _ (fun hA v204 hv205 => R_load1 (v := (.string o.name)) Try.isAgg9 (gv_t hA) ((boxR_at ((H54.ext hv205).getOwn 1 rfl)).chunks 7 1 7 7 _ rfl rfl rfl) ⟨rfl, Gr.refl _ _⟩) ?_
   refine Lx_qg (i := 25) true ((((!(decide (o.kind = 2))) || (decide (o.node = o.tm))) || (!(decide (o.par.T = 0)))) || (!(decide (o.par.R = 0)))) rfl rfl rfl rfl rfl (!((((!(decide (o.kind = 2))) || (decide (o.node = o.tm))) || (!(decide (o.par.T = 0)))) || (!(decide (o.par.R = 0))))) ga_f _ (fun hA v206 hv207 => R_cmpS (a := o.name) (b := ByteArray.empty) (r := (!(decide (o.name = ByteArray.empty)))) (gv_t hA) rfl rfl ⟨rfl, Gr.refl _ _⟩) ?_
   refine Lx_q (i := 26) rfl rfl _ (fun v208 hv209 => R_pick (t := ((((!(decide (o.kind = 2))) || (decide (o.node = o.tm))) || (!(decide (o.par.T = 0)))) || (!(decide (o.par.R = 0))))) (v := (.bool (((((!(decide (o.kind = 2))) || (decide (o.node = o.tm))) || (!(decide (o.par.T = 0)))) || (!(decide (o.par.R = 0)))) || (!(decide (o.name = ByteArray.empty)))))) rfl pk_or ⟨rfl, Gr.refl _ _⟩) ?_
   refine Lx_q (i := 27) rfl rfl _ (fun v210 hv211 => R_move (v := (.bool (((((!(decide (o.kind = 2))) || (decide (o.node = o.tm))) || (!(decide (o.par.T = 0)))) || (!(decide (o.par.R = 0)))) || (!(decide (o.name = ByteArray.empty)))))) rfl ⟨rfl, Gr.refl _ _⟩) ?_
   refine Lx_qg (i := 28) true (((((!(decide (o.kind = 2))) || (decide (o.node = o.tm))) || (!(decide (o.par.T = 0)))) || (!(decide (o.par.R = 0)))) || (!(decide (o.name = ByteArray.empty)))) rfl rfl rfl rfl rfl (!(((((!(decide (o.kind = 2))) || (decide (o.node = o.tm))) || (!(decide (o.par.T = 0)))) || (!(decide (o.par.R = 0)))) || (!(decide (o.name = ByteArray.empty))))) ga_f _ (fun hA v212 hv213 => R_fieldAddr (off := 8) (oo := 8) Try.underlying39 rfl rfl Try.sizeOf36 rfl rfl ⟨rfl, Gr.refl _ _⟩) ?_
   refine Lx_qg (i := 29) true (((((!(decide (o.kind = 2))) || (decide (o.node = o.tm))) || (!(decide (o.par.T = 0)))) || (!(decide (o.par.R = 0)))) || (!(decide (o.name = ByteArray.empty)))) rfl rfl rfl rfl rfl (!(((((!(decide (o.kind = 2))) || (decide (o.node = o.tm))) || (!(decide (o.par.T = 0)))) || (!(decide (o.par.R = 0)))) || (!(decide (o.name = ByteArray.empty))))) ga_f _ (fun hA v214 hv215 => R_loadA (cs := [(idCells o.data)]) Try.isAgg36 Try.sizeOf36 rfl (gv_t hA) ((boxR_at ((H54.ext hv215).getOwn 1 rfl)).chunks 8 1 8 8 _ rfl rfl rfl) ⟨rfl, Gr.refl _ _⟩) ?_
   refine Lx_qg (i := 30) true (((((!(decide (o.kind = 2))) || (decide (o.node = o.tm))) || (!(decide (o.par.T = 0)))) || (!(decide (o.par.R = 0)))) || (!(decide (o.name = ByteArray.empty)))) rfl rfl rfl rfl rfl (!(((((!(decide (o.kind = 2))) || (decide (o.node = o.tm))) || (!(decide (o.par.T = 0)))) || (!(decide (o.par.R = 0)))) || (!(decide (o.name = ByteArray.empty))))) ga_f _ (fun hA v216 hv217 => R_loadA (cs := [(idCells zeroId)]) Try.isAgg35 Try.sizeOf35 rfl rfl ((boxR_at ((H54.ext hv217).getOwn 0 rfl)).chunks 0 1 0 0 _ rfl rfl rfl) ⟨rfl, Gr.refl _ _⟩) ?_
   refine Lx_qg (i := 31) true (((((!(decide (o.kind = 2))) || (decide (o.node = o.tm))) || (!(decide (o.par.T = 0)))) || (!(decide (o.par.R = 0)))) || (!(decide (o.name = ByteArray.empty)))) rfl rfl rfl rfl rfl (!(((((!(decide (o.kind = 2))) || (decide (o.node = o.tm))) || (!(decide (o.par.T = 0)))) || (!(decide (o.par.R = 0)))) || (!(decide (o.name = ByteArray.empty))))) ga_f _ (fun hA v218 hv219 => R_eqv (a := o.data) (b := zeroId) eqv_ID36 rfl Try.eqGuardType36 (gv_t hA) (gv_t hA) ⟨rfl, Gr.refl _ _⟩) ?_
   refine Lx_q (i := 32) rfl rfl _ (fun v220 hv221 => R_pick (t := (((((!(decide (o.kind = 2))) || (decide (o.node = o.tm))) || (!(decide (o.par.T = 0)))) || (!(decide (o.par.R = 0)))) || (!(decide (o.name = ByteArray.empty))))) (v := (.bool ((((((!(decide (o.kind = 2))) || (decide (o.node = o.tm))) || (!(decide (o.par.T = 0)))) || (!(decide (o.par.R = 0)))) || (!(decide (o.name = ByteArray.empty)))) || (decide (o.data = zeroId))))) rfl pk_or ⟨rfl, Gr.refl _ _⟩) ?_
   refine Lx_q (i := 33) rfl rfl _ (fun v222 hv223 => R_move (v := (.bool ((((((!(decide (o.kind = 2))) || (decide (o.node = o.tm))) || (!(decide (o.par.T = 0)))) || (!(decide (o.par.R = 0)))) || (!(decide (o.name = ByteArray.empty)))) || (decide (o.data = zeroId))))) rfl ⟨rfl, Gr.refl _ _⟩) ?_
   refine Lx_qg (i := 34) true ((((((!(decide (o.kind = 2))) || (decide (o.node = o.tm))) || (!(decide (o.par.T = 0)))) || (!(decide (o.par.R = 0)))) || (!(decide (o.name = ByteArray.empty)))) || (decide (o.data = zeroId))) rfl rfl rfl rfl rfl (!((((((!(decide (o.kind = 2))) || (decide (o.node = o.tm))) || (!(decide (o.par.T = 0)))) || (!(decide (o.par.R = 0)))) || (!(decide (o.name = ByteArray.empty)))) || (decide (o.data = zeroId)))) ga_f _ (fun hA v224 hv225 => R_fieldAddr (off := 40) (oo := 40) Try.underlying39 rfl rfl Try.sizeOf37 rfl rfl ⟨rfl, Gr.refl _ _⟩) ?_
   refine Lx_qg (i := 35) true ((((((!(decide (o.kind = 2))) || (decide (o.node = o.tm))) || (!(decide (o.par.T = 0)))) || (!(decide (o.par.R = 0)))) || (!(decide (o.name = ByteArray.empty)))) || (decide (o.data = zeroId))) rfl rfl rfl rfl rfl (!((((((!(decide (o.kind = 2))) || (decide (o.node = o.tm))) || (!(decide (o.par.T = 0)))) || (!(decide (o.par.R = 0)))) || (!(decide (o.name = ByteArray.empty)))) || (decide (o.data = zeroId)))) ga_f _ (fun hA v226 hv227 => R_load1 (v := (slV o.oh o.over)) Try.isAgg37 (gv_t hA) ((boxR_at ((H54.ext hv227).getOwn 1 rfl)).chunks 9 1 40 40 _ rfl rfl rfl) ⟨rfl, Gr.refl _ _⟩) ?_
   refine Lx_qg (i := 36) true ((((((!(decide (o.kind = 2))) || (decide (o.node = o.tm))) || (!(decide (o.par.T = 0)))) || (!(decide (o.par.R = 0)))) || (!(decide (o.name = ByteArray.empty)))) || (decide (o.data = zeroId))) rfl rfl rfl rfl rfl (!((((((!(decide (o.kind = 2))) || (decide (o.node = o.tm))) || (!(decide (o.par.T = 0)))) || (!(decide (o.par.R = 0)))) || (!(decide (o.name = ByteArray.empty)))) || (decide (o.data = zeroId)))) ga_f _ (fun hA v228 hv229 => R_len_slice (a := o.oh.a) (n := o.over.length) (c := o.oh.c) Try.underlying37 (gv_t hA) ⟨rfl, Gr.refl _ _⟩) ?_
   refine Lx_qg (i := 37) true ((((((!(decide (o.kind = 2))) || (decide (o.node = o.tm))) || (!(decide (o.par.T = 0)))) || (!(decide (o.par.R = 0)))) || (!(decide (o.name = ByteArray.empty)))) || (decide (o.data = zeroId))) rfl rfl rfl rfl rfl (!((((((!(decide (o.kind = 2))) || (decide (o.node = o.tm))) || (!(decide (o.par.T = 0)))) || (!(decide (o.par.R = 0)))) || (!(decide (o.name = ByteArray.empty)))) || (decide (o.data = zeroId)))) ga_f _ (fun hA v230 hv231 => R_cmp (a := ((o.over.length : Nat) : Int)) (b := 64) (r := (decide (64 < ((o.over.length : Nat) : Int)))) (gv_t hA) rfl rfl ⟨rfl, Gr.refl _ _⟩) ?_
   refine Lx_q (i := 38) rfl rfl _ (fun v232 hv233 => R_pick (t := ((((((!(decide (o.kind = 2))) || (decide (o.node = o.tm))) || (!(decide (o.par.T = 0)))) || (!(decide (o.par.R = 0)))) || (!(decide (o.name = ByteArray.empty)))) || (decide (o.data = zeroId)))) (v := (.bool (((((((!(decide (o.kind = 2))) || (decide (o.node = o.tm))) || (!(decide (o.par.T = 0)))) || (!(decide (o.par.R = 0)))) || (!(decide (o.name = ByteArray.empty)))) || (decide (o.data = zeroId))) || (decide (64 < ((o.over.length : Nat) : Int)))))) rfl pk_or ⟨rfl, Gr.refl _ _⟩) ?_
   refine Lx_nil (fun w234 hw235 => ?_)
   have H236 := H54.ext hw235
   refine Then_n ?_
   refine W_cond (t := (((((((!(decide (o.kind = 2))) || (decide (o.node = o.tm))) || (!(decide (o.par.T = 0)))) || (!(decide (o.par.R = 0)))) || (!(decide (o.name = ByteArray.empty)))) || (decide (o.data = zeroId))) || (decide (64 < ((o.over.length : Nat) : Int))))) rfl (fun hc237 => ?_) (fun hc237 => ?_)
   ·have hc237 : ((((((¬ (o.kind = 2) ∨ (o.node = o.tm)) ∨ ¬ (o.par.T = 0)) ∨ ¬ (o.par.R = 0)) ∨ ¬ (o.name = ByteArray.empty)) ∨ (o.data = zeroId)) ∨ (64 < ((o.over.length : Nat) : Int))) := (Or.imp (fun h => (Or.imp (fun h => (Or.imp (fun h => (Or.imp (fun h => (Or.imp (fun h => (Or.imp (fun h => (of_decide_eq_false (notT h))) (fun h => (of_decide_eq_true h)) (orT h))) (fun h => (of_decide_eq_false (notT h))) (orT h))) (fun h => (of_decide_eq_false (notT h))) (orT h))) (fun h => (of_decide_eq_false (notT h))) (orT h))) (fun h => (of_decide_eq_true h)) (orT h))) (fun h => (of_decide_eq_true h)) (orT hc237))
    refine W_seq (W_reg ?_)
    refine O_v rfl (R_assign (v := (.bool false)) rfl ?_)
    refine O_nil (Then_n (W_ret (Then_r ?_)))
    refine ret_1 (v := (.bool false)) Try.results15 rfl ?_
    exact ⟨(rgood_f2 (by assumption) (by assumption)), H236.gr⟩
   ·have hc237 : (((((((o.kind = 2) ∧ ¬ (o.node = o.tm)) ∧ (o.par.T = 0)) ∧ (o.par.R = 0)) ∧ (o.name = ByteArray.empty)) ∧ ¬ (o.data = zeroId)) ∧ ¬ (64 < ((o.over.length : Nat) : Int))) := (And.imp (fun h => (And.imp (fun h => (And.imp (fun h => (And.imp (fun h => (And.imp (fun h => (And.imp (fun h => (of_decide_eq_true (notF h))) (fun h => (of_decide_eq_false h)) (orF h))) (fun h => (of_decide_eq_true (notF h))) (orF h))) (fun h => (of_decide_eq_true (notF h))) (orF h))) (fun h => (of_decide_eq_true (notF h))) (orF h))) (fun h => (of_decide_eq_false h)) (orF h))) (fun h => (of_decide_eq_false h)) (orF hc237))
    refine W_skip (Then_n (W_seq (W_seq (W_reg ?_))))
    refine O_v rfl (R_assign (v := (.int .i64 0)) rfl ?_)
    refine O_nil (Then_n (W_block ?_))
    refine W_loop (fun m238 e239 w240 => ∃ (k : Nat), m238 = o.over.length - k ∧ (k ≤ o.over.length) ∧ (∀ i, i < k → opOverAt o.tm o.over i) ∧ ∃ eb241, e239 = envL [(1, (.pointer (some ⟨b2, 0, none⟩))), (5, (.int .i64 ((k : Nat) : Int)))] eb241 ∧ Ctx w nob w240 [boxR b47 35 [(idCells zeroId)], boxR b2 39 [[(.int .i64 o.kind)], [(.int .i64 o.tm.T)], [(.int .i64 o.tm.R)], [(.int .i64 o.node.T)], [(.int .i64 o.node.R)], [(.int .i64 o.par.T)], [(.int .i64 o.par.R)], [(.string o.name)], (idCells o.data), [(slV o.oh o.over)]]] [slI (Old w) stampCh 2 o.oh o.over]) _ ⟨0, rfl, (by omega), (all_zero _), _, envL_self ⟨rfl, rfl, trivial⟩, H236⟩ ?_
    rintro m238 _ w240 ⟨k, rfl, hk, hn, eb241, rfl, H242⟩
    refine W_seq (W_seq (W_reg ?_))
    refine O_v rfl (R_move (v := (.int .i64 ((k : Nat) : Int))) rfl ?_)
    refine O_v rfl (R_fieldAddr (off := 40) (oo := 40) Try.underlying39 rfl rfl Try.sizeOf37 rfl rfl ?_)
    refine O_v rfl (R_load1 (v := (slV o.oh o.over)) Try.isAgg37 rfl ((boxR_at (H242.getOwn 1 rfl)).chunks 9 1 40 40 _ rfl rfl rfl) ?_)
    refine O_v rfl (R_len_slice (a := o.oh.a) (n := o.over.length) (c := o.oh.c) Try.underlying37 rfl ?_)
    refine O_v rfl (R_cmp (a := ((k : Nat) : Int)) (b := ((o.over.length : Nat) : Int)) (r := (decide (((k : Nat) : Int) < ((o.over.length : Nat) : Int)))) rfl rfl rfl ?_)
    refine O_nil (Then_n ?_)
    refine W_cond (t := (decide (((k : Nat) : Int) < ((o.over.length : Nat) : Int)))) rfl (fun hc243 => ?_) (fun hc243 => ?_)
    ·have hc243 : (((k : Nat) : Int) < ((o.over.length : Nat) : Int)) := (of_decide_eq_true hc243)
     refine W_skip (Then_n (W_seq (W_block (W_seq ?_))))
     refine W_rgd TryMixed [(0, .q false), (1, .q false), (2, .q false), (3, .q false), (4, .q false), (5, .q false), (6, .q false), (7, .q false), (8, .q false), (9, .q false), (10, .q false), (11, .q false), (12, .q false), (13, .q false), (14, .q false), (15, .q false), (16, .q false), (17, .q false), (18, .q false), (19, .q false), (20, .q false), (21, .q false), (22, .q false), (23, .q false), (24, .q false), (25, .q false), (26, .q false), (27, .q false), (28, .q false), (29, .q false), (30, .q false), (31, .q false), (32, .q false), (33, .q false), (34, .q false), (35, .q false), (36, .q false)] (by kernel_rfl) ?_
     refine Lx_q (i := 0) rfl rfl _ (fun v244 hv245 => R_fieldAddr (off := 40) (oo := 40) Try.underlying39 rfl rfl Try.sizeOf37 rfl rfl ⟨rfl, Gr.refl _ _⟩) ?_
     refine Lx_q (i := 1) rfl rfl _ (fun v246 hv247 => R_load1 (v := (slV o.oh o.over)) Try.isAgg37 rfl ((boxR_at ((H242.ext hv247).getOwn 1 rfl)).chunks 9 1 40 40 _ rfl rfl rfl) ⟨rfl, Gr.refl _ _⟩) ?_
     refine Lx_q (i := 2) rfl rfl _ (fun v248 hv249 => R_move (v := (.int .i64 ((k : Nat) : Int))) rfl ⟨rfl, Gr.refl _ _⟩) ?_
     refine Lx_q (i := 3) rfl rfl _ (fun v250 hv251 => R_index_pure (H242.sl 0 rfl) (n := o.over.length) rfl (j := ((k : Nat) : Int)) (oo := (o.oh.o + k * 2)) Try.underlying37 Try.sizeOf24 rfl rfl (by omega) (by omega) rfl ⟨rfl, Gr.refl _ _⟩) ?_
     refine Lx_q (i := 4) rfl rfl _ (fun v252 hv253 => R_loadA (cs := [[(.int .i64 ((nth o.over k).T))], [(.int .i64 ((nth o.over k).R))]]) Try.isAgg24 Try.sizeOf24 rfl rfl ((Sl.elem ((H242.ext hv253).sl 0 rfl) (i := k) (by omega) rfl).chunks 0 2 0 (o.oh.o + k * 2) _ rfl rfl rfl) ⟨rfl, Gr.refl _ _⟩) ?_
     refine Lx_q (i := 5) rfl rfl (.bool (stRight (nth o.over k))) (fun v254 hv255 => R_callL (vs := [(aggOf (stampCh (nth o.over k)))]) ref03_Good_c38 rfl rfl (ref03_Right (nth o.over k) v254 )) ?_
     refine Lx_q (i := 6) rfl rfl _ (fun v256 hv257 => R_not rfl ⟨rfl, Gr.refl _ _⟩) ?_
     refine Lx_q (i := 7) rfl rfl _ (fun v258 hv259 => R_move (v := (.bool (!(stRight (nth o.over k))))) rfl ⟨rfl, Gr.refl _ _⟩) ?_
     refine Lx_qg (i := 8) true (!(stRight (nth o.over k))) rfl rfl rfl rfl rfl (!(!(stRight (nth o.over k)))) ga_f _ (fun hA v260 hv261 => R_fieldAddr (off := 40) (oo := 40) Try.underlying39 rfl rfl Try.sizeOf37 rfl rfl ⟨rfl, Gr.refl _ _⟩) ?_
     refine Lx_qg (i := 9) true (!(stRight (nth o.over k))) rfl rfl rfl rfl rfl (!(!(stRight (nth o.over k)))) ga_f _ (fun hA v262 hv263 => R_load1 (v := (slV o.oh o.over)) Try.isAgg37 (gv_t hA) ((boxR_at ((H242.ext hv263).getOwn 1 rfl)).chunks 9 1 40 40 _ rfl rfl rfl) ⟨rfl, Gr.refl _ _⟩) ?_
     refine Lx_qg (i := 10) true (!(stRight (nth o.over k))) rfl rfl rfl rfl rfl (!(!(stRight (nth o.over k)))) ga_f _ (fun hA v264 hv265 => R_move (v := (.int .i64 ((k : Nat) : Int))) rfl ⟨rfl, Gr.refl _ _⟩) ?_
     refine Lx_qg (i := 11) true (!(stRight (nth o.over k))) rfl rfl rfl rfl rfl (!(!(stRight (nth o.over k)))) ga_f _ (fun hA v266 hv267 => by
              have hP : (stRight (nth o.over k)) = true := (notF (notT hA))
              exact R_index_pure (H242.sl 0 rfl) (n := o.over.length) rfl (j := ((k : Nat) : Int)) (oo := (o.oh.o + k * 2)) Try.underlying37 Try.sizeOf24 (gv_t hA) (gv_t hA) (by omega) (by omega) rfl ⟨rfl, Gr.refl _ _⟩) ?_
     refine Lx_qg (i := 12) true (!(stRight (nth o.over k))) rfl rfl rfl rfl rfl (!(!(stRight (nth o.over k)))) ga_f _ (fun hA v268 hv269 => by
              have hP : (stRight (nth o.over k)) = true := (notF (notT hA))
              exact R_loadA (cs := [[(.int .i64 ((nth o.over k).T))], [(.int .i64 ((nth o.over k).R))]]) Try.isAgg24 Try.sizeOf24 rfl (gv_t hA) ((Sl.elem ((H242.ext hv269).sl 0 rfl) (i := k) (by omega) rfl).chunks 0 2 0 (o.oh.o + k * 2) _ rfl rfl rfl) ⟨rfl, Gr.refl _ _⟩) ?_
     refine Lx_qg (i := 13) true (!(stRight (nth o.over k))) rfl rfl rfl rfl rfl (!(!(stRight (nth o.over k)))) ga_f _ (fun hA v270 hv271 => R_fieldAddr (off := 1) (oo := 1) Try.underlying39 rfl rfl Try.sizeOf24 rfl rfl ⟨rfl, Gr.refl _ _⟩) ?_
     refine Lx_qg (i := 14) true (!(stRight (nth o.over k))) rfl rfl rfl rfl rfl (!(!(stRight (nth o.over k)))) ga_f _ (fun hA v272 hv273 => R_loadA (cs := [[(.int .i64 o.tm.T)], [(.int .i64 o.tm.R)]]) Try.isAgg24 Try.sizeOf24 rfl (gv_t hA) ((boxR_at ((H242.ext hv273).getOwn 1 rfl)).chunks 1 2 1 1 _ rfl rfl rfl) ⟨rfl, Gr.refl _ _⟩) ?_
     refine Lx_qg (i := 15) true (!(stRight (nth o.over k))) rfl rfl rfl rfl rfl (!(!(stRight (nth o.over k)))) ga_f (.int .i64 (cmpSt (nth o.over k) o.tm)) (fun hA v274 hv275 => R_callL (vs := [(aggOf (stampCh (nth o.over k))), (aggOf (stampCh o.tm))]) ref03_Good_c21 rfl (lst2 (gv_t hA) (gv_t hA)) (ref03_Cmp (nth o.over k) o.tm v274 )) ?_
     refine Lx_qg (i := 16) true (!(stRight (nth o.over k))) rfl rfl rfl rfl rfl (!(!(stRight (nth o.over k)))) ga_f _ (fun hA v276 hv277 => R_cmp (a := cmpSt (nth o.over k) o.tm) (b := (-1)) (r := (!(decide (cmpSt (nth o.over k) o.tm = (-1))))) (gv_t hA) rfl rfl ⟨rfl, Gr.refl _ _⟩) ?_
     refine Lx_q (i := 17) rfl rfl _ (fun v278 hv279 => R_pick (t := (!(stRight (nth o.over k)))) (v := (.bool ((!(stRight (nth o.over k))) || (!(decide (cmpSt (nth o.over k) o.tm = (-1))))))) rfl pk_or ⟨rfl, Gr.refl _ _⟩) ?_
     refine Lx_q (i := 18) rfl rfl _ (fun v280 hv281 => R_move (v := (.bool ((!(stRight (nth o.over k))) || (!(decide (cmpSt (nth o.over k) o.tm = (-1))))))) rfl ⟨rfl, Gr.refl _ _⟩) ?_
     refine Lx_qg (i := 19) true ((!(stRight (nth o.over k))) || (!(decide (cmpSt (nth o.over k) o.tm = (-1))))) rfl rfl rfl rfl rfl (!((!(stRight (nth o.over k))) || (!(decide (cmpSt (nth o.over k) o.tm = (-1)))))) ga_f _ (fun hA v282 hv283 => R_move (v := (.int .i64 ((k : Nat) : Int))) rfl ⟨rfl, Gr.refl _ _⟩) ?_
     refine Lx_qg (i := 20) true ((!(stRight (nth o.over k))) || (!(decide (cmpSt (nth o.over k) o.tm = (-1))))) rfl rfl rfl rfl rfl (!((!(stRight (nth o.over k))) || (!(decide (cmpSt (nth o.over k) o.tm = (-1)))))) ga_f _ (fun hA v284 hv285 => R_cmp (a := ((k : Nat) : Int)) (b := 0) (r := (decide (0 < ((k : Nat) : Int)))) (gv_t hA) rfl rfl ⟨rfl, Gr.refl _ _⟩) ?_
     refine Lx_qg (i := 21) true ((!(stRight (nth o.over k))) || (!(decide (cmpSt (nth o.over k) o.tm = (-1))))) rfl rfl rfl rfl rfl (!((!(stRight (nth o.over k))) || (!(decide (cmpSt (nth o.over k) o.tm = (-1)))))) ga_f _ (fun hA v286 hv287 => R_move (v := (.bool (decide (0 < ((k : Nat) : Int))))) (gv_t hA) ⟨rfl, Gr.refl _ _⟩) ?_
     refine Lx_qg (i := 22) (!((!(stRight (nth o.over k))) || (!(decide (cmpSt (nth o.over k) o.tm = (-1)))))) (decide (0 < ((k : Nat) : Int))) rfl rfl rfl rfl rfl ((!((!(stRight (nth o.over k))) || (!(decide (cmpSt (nth o.over k) o.tm = (-1)))))) && (decide (0 < ((k : Nat) : Int)))) gb_t _ (fun hA v288 hv289 => R_fieldAddr (off := 40) (oo := 40) Try.underlying39 rfl rfl Try.sizeOf37 rfl rfl ⟨rfl, Gr.refl _ _⟩) ?_
     refine Lx_qg (i := 23) (!((!(stRight (nth o.over k))) || (!(decide (cmpSt (nth o.over k) o.tm = (-1)))))) (decide (0 < ((k : Nat) : Int))) rfl rfl rfl rfl rfl ((!((!(stRight (nth o.over k))) || (!(decide (cmpSt (nth o.over k) o.tm = (-1)))))) && (decide (0 < ((k : Nat) : Int)))) gb_t _ (fun hA v290 hv291 => R_load1 (v := (slV o.oh o.over)) Try.isAgg37 (gv_t hA) ((boxR_at ((H242.ext hv291).getOwn 1 rfl)).chunks 9 1 40 40 _ rfl rfl rfl) ⟨rfl, Gr.refl _ _⟩) ?_
     refine Lx_qg (i := 24) (!((!(stRight (nth o.over k))) || (!(decide (cmpSt (nth o.over k) o.tm = (-1)))))) (decide (0 < ((k : Nat) : Int))) rfl rfl rfl rfl rfl ((!((!(stRight (nth o.over k))) || (!(decide (cmpSt (nth o.over k) o.tm = (-1)))))) && (decide (0 < ((k : Nat) : Int)))) gb_t _ (fun hA v292 hv293 => R_move (v := (.int .i64 ((k : Nat) : Int))) rfl ⟨rfl, Gr.refl _ _⟩) ?_
     refine Lx_qg (i := 25) (!((!(stRight (nth o.over k))) || (!(decide (cmpSt (nth o.over k) o.tm = (-1)))))) (decide (0 < ((k : Nat) : Int))) rfl rfl rfl rfl rfl ((!((!(stRight (nth o.over k))) || (!(decide (cmpSt (nth o.over k) o.tm = (-1)))))) && (decide (0 < ((k : Nat) : Int)))) gb_t _ (fun hA v294 hv295 => by
              have hP : (((stRight (nth o.over k)) = true ∧ (cmpSt (nth o.over k) o.tm = (-1))) ∧ (0 < ((k : Nat) : Int))) := (And.imp (fun h => (And.imp (fun h => (notF h)) (fun h => (of_decide_eq_true (notF h))) (orF (notT h)))) (fun h => (of_decide_eq_true h)) (andT hA))
              exact R_arith (a := ((k : Nat) : Int)) (b := 1) (r0 := ((k : Nat) : Int) - 1) (r := ((k - 1 : Nat) : Int)) (gv_t hA) rfl rfl (wrapP _ (by omega) (by omega)) ⟨rfl, Gr.refl _ _⟩) ?_
     refine Lx_qg (i := 26) (!((!(stRight (nth o.over k))) || (!(decide (cmpSt (nth o.over k) o.tm = (-1)))))) (decide (0 < ((k : Nat) : Int))) rfl rfl rfl rfl rfl ((!((!(stRight (nth o.over k))) || (!(decide (cmpSt (nth o.over k) o.tm = (-1)))))) && (decide (0 < ((k : Nat) : Int)))) gb_t _ (fun hA v296 hv297 => by
              have hP : (((stRight (nth o.over k)) = true ∧ (cmpSt (nth o.over k) o.tm = (-1))) ∧ (0 < ((k : Nat) : Int))) := (And.imp (fun h => (And.imp (fun h => (notF h)) (fun h => (of_decide_eq_true (notF h))) (orF (notT h)))) (fun h => (of_decide_eq_true h)) (andT hA))
              exact R_index_pure (H242.sl 0 rfl) (n := o.over.length) rfl (j := ((k - 1 : Nat) : Int)) (oo := (o.oh.o + (k - 1) * 2)) Try.underlying37 Try.sizeOf24 (gv_t hA) (gv_t hA) (by omega) (by omega) rfl ⟨rfl, Gr.refl _ _⟩) ?_
     refine Lx_qg (i := 27) (!((!(stRight (nth o.over k))) || (!(decide (cmpSt (nth o.over k) o.tm = (-1)))))) (decide (0 < ((k : Nat) : Int))) rfl rfl rfl rfl rfl ((!((!(stRight (nth o.over k))) || (!(decide (cmpSt (nth o.over k) o.tm = (-1)))))) && (decide (0 < ((k : Nat) : Int)))) gb_t _ (fun hA v298 hv299 => by
              have hP : (((stRight (nth o.over k)) = true ∧ (cmpSt (nth o.over k) o.tm = (-1))) ∧ (0 < ((k : Nat) : Int))) := (And.imp (fun h => (And.imp (fun h => (notF h)) (fun h => (of_decide_eq_true (notF h))) (orF (notT h)))) (fun h => (of_decide_eq_true h)) (andT hA))
              exact R_loadA (cs := [[(.int .i64 ((nth o.over (k - 1)).T))], [(.int .i64 ((nth o.over (k - 1)).R))]]) Try.isAgg24 Try.sizeOf24 rfl (gv_t hA) ((Sl.elem ((H242.ext hv299).sl 0 rfl) (i := (k - 1)) (by omega) rfl).chunks 0 2 0 (o.oh.o + (k - 1) * 2) _ rfl rfl rfl) ⟨rfl, Gr.refl _ _⟩) ?_
     refine Lx_qg (i := 28) (!((!(stRight (nth o.over k))) || (!(decide (cmpSt (nth o.over k) o.tm = (-1)))))) (decide (0 < ((k : Nat) : Int))) rfl rfl rfl rfl rfl ((!((!(stRight (nth o.over k))) || (!(decide (cmpSt (nth o.over k) o.tm = (-1)))))) && (decide (0 < ((k : Nat) : Int)))) gb_t _ (fun hA v300 hv301 => R_fieldAddr (off := 40) (oo := 40) Try.underlying39 rfl rfl Try.sizeOf37 rfl rfl ⟨rfl, Gr.refl _ _⟩) ?_
     refine Lx_qg (i := 29) (!((!(stRight (nth o.over k))) || (!(decide (cmpSt (nth o.over k) o.tm = (-1)))))) (decide (0 < ((k : Nat) : Int))) rfl rfl rfl rfl rfl ((!((!(stRight (nth o.over k))) || (!(decide (cmpSt (nth o.over k) o.tm = (-1)))))) && (decide (0 < ((k : Nat) : Int)))) gb_t _ (fun hA v302 hv303 => R_load1 (v := (slV o.oh o.over)) Try.isAgg37 (gv_t hA) ((boxR_at ((H242.ext hv303).getOwn 1 rfl)).chunks 9 1 40 40 _ rfl rfl rfl) ⟨rfl, Gr.refl _ _⟩) ?_
     refine Lx_qg (i := 30) (!((!(stRight (nth o.over k))) || (!(decide (cmpSt (nth o.over k) o.tm = (-1)))))) (decide (0 < ((k : Nat) : Int))) rfl rfl rfl rfl rfl ((!((!(stRight (nth o.over k))) || (!(decide (cmpSt (nth o.over k) o.tm = (-1)))))) && (decide (0 < ((k : Nat) : Int)))) gb_t _ (fun hA v304 hv305 => R_move (v := (.int .i64 ((k : Nat) : Int))) rfl ⟨rfl, Gr.refl _ _⟩) ?_
     refine Lx_qg (i := 31) (!((!(stRight (nth o.over k))) || (!(decide (cmpSt (nth o.over k) o.tm = (-1)))))) (decide (0 < ((k : Nat) : Int))) rfl rfl rfl rfl rfl ((!((!(stRight (nth o.over k))) || (!(decide (cmpSt (nth o.over k) o.tm = (-1)))))) && (decide (0 < ((k : Nat) : Int)))) gb_t _ (fun hA v306 hv307 => by
              have hP : (((stRight (nth o.over k)) = true ∧ (cmpSt (nth o.over k) o.tm = (-1))) ∧ (0 < ((k : Nat) : Int))) := (And.imp (fun h => (And.imp (fun h => (notF h)) (fun h => (of_decide_eq_true (notF h))) (orF (notT h)))) (fun h => (of_decide_eq_true h)) (andT hA))
              exact R_index_pure (H242.sl 0 rfl) (n := o.over.length) rfl (j := ((k : Nat) : Int)) (oo := (o.oh.o + k * 2)) Try.underlying37 Try.sizeOf24 (gv_t hA) (gv_t hA) (by omega) (by omega) rfl ⟨rfl, Gr.refl _ _⟩) ?_
     refine Lx_qg (i := 32) (!((!(stRight (nth o.over k))) || (!(decide (cmpSt (nth o.over k) o.tm = (-1)))))) (decide (0 < ((k : Nat) : Int))) rfl rfl rfl rfl rfl ((!((!(stRight (nth o.over k))) || (!(decide (cmpSt (nth o.over k) o.tm = (-1)))))) && (decide (0 < ((k : Nat) : Int)))) gb_t _ (fun hA v308 hv309 => by
              have hP : (((stRight (nth o.over k)) = true ∧ (cmpSt (nth o.over k) o.tm = (-1))) ∧ (0 < ((k : Nat) : Int))) := (And.imp (fun h => (And.imp (fun h => (notF h)) (fun h => (of_decide_eq_true (notF h))) (orF (notT h)))) (fun h => (of_decide_eq_true h)) (andT hA))
              exact R_loadA (cs := [[(.int .i64 ((nth o.over k).T))], [(.int .i64 ((nth o.over k).R))]]) Try.isAgg24 Try.sizeOf24 rfl (gv_t hA) ((Sl.elem ((H242.ext hv309).sl 0 rfl) (i := k) (by omega) rfl).chunks 0 2 0 (o.oh.o + k * 2) _ rfl rfl rfl) ⟨rfl, Gr.refl _ _⟩) ?_
     refine Lx_qg (i := 33) (!((!(stRight (nth o.over k))) || (!(decide (cmpSt (nth o.over k) o.tm = (-1)))))) (decide (0 < ((k : Nat) : Int))) rfl rfl rfl rfl rfl ((!((!(stRight (nth o.over k))) || (!(decide (cmpSt (nth o.over k) o.tm = (-1)))))) && (decide (0 < ((k : Nat) : Int)))) gb_t (.int .i64 (cmpSt (nth o.over (k - 1)) (nth o.over k))) (fun hA v310 hv311 => R_callL (vs := [(aggOf (stampCh (nth o.over (k - 1)))), (aggOf (stampCh (nth o.over k)))]) ref03_Good_c21 rfl (lst2 (gv_t hA) (gv_t hA)) (ref03_Cmp (nth o.over (k - 1)) (nth o.over k) v310 )) ?_
     refine Lx_qg (i := 34) (!((!(stRight (nth o.over k))) || (!(decide (cmpSt (nth o.over k) o.tm = (-1)))))) (decide (0 < ((k : Nat) : Int))) rfl rfl rfl rfl rfl ((!((!(stRight (nth o.over k))) || (!(decide (cmpSt (nth o.over k) o.tm = (-1)))))) && (decide (0 < ((k : Nat) : Int)))) gb_t _ (fun hA v312 hv313 => R_cmp (a := cmpSt (nth o.over (k - 1)) (nth o.over k)) (b := (-1)) (r := (!(decide (cmpSt (nth o.over (k - 1)) (nth o.over k) = (-1))))) (gv_t hA) rfl rfl ⟨rfl, Gr.refl _ _⟩) ?_
     refine Lx_qg (i := 35) true ((!(stRight (nth o.over k))) || (!(decide (cmpSt (nth o.over k) o.tm = (-1))))) rfl rfl rfl rfl rfl (!((!(stRight (nth o.over k))) || (!(decide (cmpSt (nth o.over k) o.tm = (-1)))))) ga_f _ (fun hA v314 hv315 => R_pick (t := (decide (0 < ((k : Nat) : Int)))) (v := (.bool ((decide (0 < ((k : Nat) : Int))) && (!(decide (cmpSt (nth o.over (k - 1)) (nth o.over k) = (-1))))))) (gv_t hA) (pk_andA hA) ⟨rfl, Gr.refl _ _⟩) ?_
     refine Lx_q (i := 36) rfl rfl _ (fun v316 hv317 => R_pick (t := ((!(stRight (nth o.over k))) || (!(decide (cmpSt (nth o.over k) o.tm = (-1)))))) (v := (.bool (((!(stRight (nth o.over k))) || (!(decide (cmpSt (nth o.over k) o.tm = (-1))))) || ((decide (0 < ((k : Nat) : Int))) && (!(decide (cmpSt (nth o.over (k - 1)) (nth o.over k) = (-1)))))))) rfl pk_or ⟨rfl, Gr.refl _ _⟩) ?_
     refine Lx_nil (fun w318 hw319 => ?_)
     have H320 := H242.ext hw319
     refine Then_n ?_
     refine W_cond (t := (((!(stRight (nth o.over k))) || (!(decide (cmpSt (nth o.over k) o.tm = (-1))))) || ((decide (0 < ((k : Nat) : Int))) && (!(decide (cmpSt (nth o.over (k - 1)) (nth o.over k) = (-1))))))) rfl (fun hc321 => ?_) (fun hc321 => ?_)
     ·have hc321 : (((stRight (nth o.over k)) = false ∨ ¬ (cmpSt (nth o.over k) o.tm = (-1))) ∨ ((0 < ((k : Nat) : Int)) ∧ ¬ (cmpSt (nth o.over (k - 1)) (nth o.over k) = (-1)))) := (Or.imp (fun h => (Or.imp (fun h => (notT h)) (fun h => (of_decide_eq_false (notT h))) (orT h))) (fun h => (And.imp (fun h => (of_decide_eq_true h)) (fun h => (of_decide_eq_false (notT h))) (andT h))) (orT hc321))
      refine W_seq (W_reg ?_)
      refine O_v rfl (R_assign (v := (.bool false)) rfl ?_)
      refine O_nil (Then_n (W_ret (Blk_r (Then_r (Then_r (Blk_r (Then_r ?_)))))))
      refine ret_1 (v := (.bool false)) Try.results15 rfl ?_
      exact ⟨(rgood_f3 (k := k) (by assumption) (by omega) (by assumption)), H320.gr⟩
     ·have hc321 : (((stRight (nth o.over k)) = true ∧ (cmpSt (nth o.over k) o.tm = (-1))) ∧ (¬ (0 < ((k : Nat) : Int)) ∨ (cmpSt (nth o.over (k - 1)) (nth o.over k) = (-1)))) := (And.imp (fun h => (And.imp (fun h => (notF h)) (fun h => (of_decide_eq_true (notF h))) (orF h))) (fun h => (Or.imp (fun h => (of_decide_eq_false h)) (fun h => (of_decide_eq_true (notF h))) (andF h))) (orF hc321))
      refine W_skip (Blk_n (Then_n (W_reg ?_)))
      refine O_v rfl (R_move (v := (.int .i64 ((k : Nat) : Int))) rfl ?_)
      refine O_v rfl (R_arith (a := ((k : Nat) : Int)) (b := 1) (r0 := ((k : Nat) : Int) + 1) (r := ((k + 1 : Nat) : Int)) rfl rfl rfl (wrapN _ (by omega)) ?_)
      refine O_v rfl (R_assign (v := (.int .i64 ((k + 1 : Nat) : Int))) rfl ?_)
      refine O_nil (Then_n ?_)
      refine ⟨_, ?_, (k + 1), rfl, (by omega), (all_succ hn (rover_t (by assumption))), _, envL_self ⟨rfl, rfl, trivial⟩, H320⟩
      omega
    ·have hc243 : ¬ (((k : Nat) : Int) < ((o.over.length : Nat) : Int)) := (of_decide_eq_false hc243)
     refine W_exit (Then_x (Then_x (Blk_x (Then_n (W_seq (W_reg ?_))))))
     refine O_v rfl (R_assign (v := (.bool true)) rfl ?_)
     refine O_nil (Then_n (W_ret ?_))
     refine ret_1 (v := (.bool true)) Try.results15 rfl ?_
     exact ⟨(rgood_t (by assumption) (by assumption) (by rwa [show o.over.length = k from by omega])), H242.gr⟩

end Go.Proofs.Ytiknfldhommmpaa
namespace Go.Proofs.Ytiknfldhommmpaa
open Go
set_option maxRecDepth 100000
set_option linter.unusedVariables false
set_option linter.unusedSimpArgs false
set_option maxHeartbeats 1000000 in
theorem ref12_Find (hxs : SlH) (xs : List RowS) (s : Stamp) (w : World) (Sxs : Sl (Old w) rowCh 8 hxs xs w) :
    Calls Try.prog 16 #[(slV hxs xs), (aggOf (stampCh s))] w (Ret fun v w' => v = (.int .i64 (findRow xs s)) ∧ Ext w w') := by
 refine calls_W Try.func16 rfl Try.ntmps16 rfl ?_
 have H0 := Ctx.start w nob
 have H1 := H0.addSl _ Sxs (fun b hb => ⟨hb, fun _ ho => (nomatch ho)⟩)
 have LSxs := Sxs.len
 refine W_seq (W_reg ?_)
 refine O_v rfl (C_box H1 [[(.int .i64 s.T)], [(.int .i64 s.R)]] rfl ?_)
 intro b2 w3 hb4 hx5 H6
 refine O_v rfl (R_assign (v := (.int .i64 0)) rfl ?_)
 refine O_nil (Then_n (W_seq (W_seq (W_reg ?_))))
 refine O_v rfl (R_assign (v := (.int .i64 0)) rfl ?_)
 refine O_nil (Then_n (W_block ?_))
 refine W_loop (fun m7 e8 w9 => ∃ (k : Nat), m7 = xs.length - k ∧ (k ≤ xs.length) ∧ (noneBelow xs (fun x => x.node = s) k) ∧ ∃ eb10, e8 = envL [(0, (slV hxs xs)), (3, (.pointer (some ⟨b2, 0, none⟩))), (5, (.int .i64 ((k : Nat) : Int)))] eb10 ∧ Ctx w nob w9 [boxR b2 24 [[(.int .i64 s.T)], [(.int .i64 s.R)]]] [slI (Old w) rowCh 8 hxs xs]) _ ⟨0, rfl, (by omega), (noneBelow_zero _ _), _, envL_self ⟨rfl, rfl, rfl, trivial⟩, H6⟩ ?_
 rintro m7 _ w9 ⟨k, rfl, hk, hn, eb10, rfl, H11⟩
 refine W_seq (W_seq (W_reg ?_))
 refine O_v rfl (R_move (v := (.int .i64 ((k : Nat) : Int))) rfl ?_)
 refine O_v rfl (R_move (v := (slV hxs xs)) rfl ?_)
 refine O_v rfl (R_len_slice (a := hxs.a) (n := xs.length) (c := hxs.c) Try.underlying22 rfl ?_)
 refine O_v rfl (R_cmp (a := ((k : Nat) : Int)) (b := ((xs.length : Nat) : Int)) (r := (decide (((k : Nat) : Int) < ((xs.length : Nat) : Int)))) rfl rfl rfl ?_)
 refine O_nil (Then_n ?_)
 refine W_cond (t := (decide (((k : Nat) : Int) < ((xs.length : Nat) : Int)))) rfl (fun hc12 => ?_) (fun hc12 => ?_)
 ·have hc12 : (((k : Nat) : Int) < ((xs.length : Nat) : Int)) := (of_decide_eq_true hc12)
  refine W_skip (Then_n (W_seq (W_block (W_seq ?_))))
  refine W_rgd TryMixed [(0, .q false), (1, .q false), (2, .q false), (3, .q false), (4, .q false), (5, .q false), (6, .q false)] (by kernel_rfl) ?_
  refine Lx_q (i := 0) rfl rfl _ (fun v13 hv14 => R_move (v := (slV hxs xs)) rfl ⟨rfl, Gr.refl _ _⟩) ?_
  refine Lx_q (i := 1) rfl rfl _ (fun v15 hv16 => R_move (v := (.int .i64 ((k : Nat) : Int))) rfl ⟨rfl, Gr.refl _ _⟩) ?_
  refine Lx_q (i := 2) rfl rfl _ (fun v17 hv18 => R_index_pure (H11.sl 0 rfl) (n := xs.length) rfl (j := ((k : Nat) : Int)) (oo := (hxs.o + k * 8)) Try.underlying22 Try.sizeOf44 rfl rfl (by omega) (by omega) rfl ⟨rfl, Gr.refl _ _⟩) ?_
  refine Lx_q (i := 3) rfl rfl _ (fun v19 hv20 => R_fieldAddr (off := 0) (oo := (hxs.o + k * 8)) Try.underlying44 rfl rfl Try.sizeOf24 rfl rfl ⟨rfl, Gr.refl _ _⟩) ?_
  refine Lx_q (i := 4) rfl rfl _ (fun v21 hv22 => R_loadA (cs := [[(.int .i64 (((nth xs k).node).T))], [(.int .i64 (((nth xs k).node).R))]]) Try.isAgg24 Try.sizeOf24 rfl rfl ((Sl.elem ((H11.ext hv22).sl 0 rfl) (i := k) (by omega) rfl).chunks 0 2 0 (hxs.o + k * 8) _ rfl rfl rfl) ⟨rfl, Gr.refl _ _⟩) ?_
  refine Lx_q (i := 5) rfl rfl _ (fun v23 hv24 => R_loadA (cs := [[(.int .i64 s.T)], [(.int .i64 s.R)]]) Try.isAgg24 Try.sizeOf24 rfl rfl ((boxR_at ((H11.ext hv24).getOwn 0 rfl)).chunks 0 2 0 0 _ rfl rfl rfl) ⟨rfl, Gr.refl _ _⟩) ?_
  refine Lx_q (i := 6) rfl rfl _ (fun v25 hv26 => R_eqv (a := ((nth xs k).node)) (b := s) eqv_Stamp24 rfl Try.eqGuardType24 rfl rfl ⟨rfl, Gr.refl _ _⟩) ?_
  refine Lx_nil (fun w27 hw28 => ?_)
  have H29 := H11.ext hw28
  refine Then_n ?_
  refine W_cond (t := (decide (((nth xs k).node) = s))) rfl (fun hc30 => ?_) (fun hc30 => ?_)
  ·have hc30 : (((nth xs k).node) = s) := (of_decide_eq_true hc30)
   refine W_seq (W_reg ?_)
   refine O_v rfl (R_move (v := (.int .i64 ((k : Nat) : Int))) rfl ?_)
   refine O_v rfl (R_assign (v := (.int .i64 ((k : Nat) : Int))) rfl ?_)
   refine O_nil (Then_n (W_ret (Blk_r (Then_r (Then_r (Blk_r (Then_r ?_)))))))
   refine ret_1 (v := (.int .i64 ((k : Nat) : Int))) Try.results16 rfl ?_
   exact ⟨(by rw [findRow_at hn (by omega) (by assumption)]), H29.gr⟩
  ·have hc30 : ¬ (((nth xs k).node) = s) := (of_decide_eq_false hc30)
   refine W_skip (Blk_n (Then_n (W_reg ?_)))
   refine O_v rfl (R_move (v := (.int .i64 ((k : Nat) : Int))) rfl ?_)
   refine O_v rfl (R_arith (a := ((k : Nat) : Int)) (b := 1) (r0 := ((k : Nat) : Int) + 1) (r := ((k + 1 : Nat) : Int)) rfl rfl rfl (wrapN _ (by omega)) ?_)
   refine O_v rfl (R_assign (v := (.int .i64 ((k + 1 : Nat) : Int))) rfl ?_)
   refine O_nil (Then_n ?_)
   refine ⟨_, ?_, (k + 1), rfl, (by omega), (noneBelow_succ hn (by assumption)), _, envL_self ⟨rfl, rfl, rfl, trivial⟩, H29⟩
   omega
 ·have hc12 : ¬ (((k : Nat) : Int) < ((xs.length : Nat) : Int)) := (of_decide_eq_false hc12)
  refine W_exit (Then_x (Then_x (Blk_x (Then_n (W_seq (W_reg ?_))))))
  refine O_v rfl (R_assign (v := (.int .i64 (-1))) rfl ?_)
  refine O_nil (Then_n (W_ret ?_))
  refine ret_1 (v := (.int .i64 (-1))) Try.results16 rfl ?_
  exact ⟨(by rw [findRow_none (by rw [show xs.length = k from by omega]; exact hn)]), H11.gr⟩

end Go.Proofs.Ytiknfldhommmpaa
/- The plain law of DifferOrder. -/
namespace Go.Proofs.Ytiknfldhommmpaa
open Go
set_option linter.unusedVariables false
set_option linter.unusedSimpArgs false
set_option linter.unusedSectionVars false
/-- Operations, stamped one by one. -/
def stampFrom (tm : Stamp) : List OpC → List OpC
  | [] => []
  | o :: X => { o with tm := tm } :: stampFrom ⟨tm.T + 1, tm.R⟩ X
theorem stampFrom_len : ∀ (X : List OpC) (tm : Stamp), (stampFrom tm X).length = X.length
  | [], _ => rfl
  | o :: X, tm => by simp [stampFrom, stampFrom_len X]
theorem stampFrom_get : ∀ (X : List OpC) (tm : Stamp) (k : Nat), (stampFrom tm X)[k]? = X[k]?.map fun o => { o with tm := ⟨tm.T + k, tm.R⟩ }
  | [], _, _ => by simp [stampFrom]
  | o :: X, tm, 0 => by simp [stampFrom]
  | o :: X, tm, k + 1 => by
    simp only [stampFrom, List.getElem?_cons_succ, stampFrom_get X]
    congr 1
    funext o
    simp only [OpC.mk.injEq, Stamp.mk.injEq, true_and, and_true]
    omega
theorem putC_fold : ∀ (X : List OpC) (m : MakerC), (X.foldl putC m).ops = m.ops ++ stampFrom m.at_ X ∧ (X.foldl putC m).bad = (m.bad || (stampFrom m.at_ X).any fun o => !o.good)
  | [], m => by simp [stampFrom]
  | o :: X, m => by
    obtain ⟨h1, h2⟩ := putC_fold X (putC m o)
    rw [List.foldl_cons, h1, h2]
    refine ⟨?_, ?_⟩
    · simp [putC, stampFrom]
    · simp [putC, stampFrom, Bool.or_assoc]
def diffX (a b L : List RowS) : List OpC := (L.map mvOp ++ (a.filter (gone b)).map trOp) ++ editsOf a b
theorem diffSt_ops (a b L : List RowS) (tm : Stamp) : (diffSt a b tm L).ops = stampFrom tm (diffX a b L) ∧ (diffSt a b tm L).bad = (stampFrom tm (diffX a b L)).any fun o => !o.good := by
  have := putC_fold (diffX a b L) ⟨tm, [], false⟩
  unfold diffX at this ⊢
  rw [List.foldl_append] at this
  simpa [diffSt] using this
/-- What of the k-th operation is told. -/
structure OrderAt (a b : List RowS) (tm : Stamp) (l : List OpS) (k : Nat) : Prop where
  good : goodOp (nth l k) = true
  at_ : (nth l k).tm.T = tm.T + k ∧ (nth l k).tm.R = tm.R
  kind : (nth l k).kind = 1 ∨ (nth l k).kind = 2
  rise : ∀ i, i < k → (nth l i).kind = 2 → (nth l k).kind = 2
  move : (nth l k).kind = 1 → 0 ≤ findRow a (nth l k).node → 0 ≤ findRow b (nth l k).node → (nth a (findRow a (nth l k).node).toNat).par = (nth b (findRow b (nth l k).node).toNat).par → (nth a (findRow a (nth l k).node).toNat).name = (nth b (findRow b (nth l k).node).toNat).name → False
  edit : (nth l k).kind = 2 → 0 ≤ findRow b (nth l k).node
theorem find_mem {b : List RowS} (hp : b.Pairwise fun x y => x.node ≠ y.node) {r : RowS} (hr : r ∈ b) : 0 ≤ findRow b r.node ∧ nth b (findRow b r.node).toNat = r := by
  rcases look hp r.node with ⟨h1, h2⟩ | ⟨r', h1, h2, h3, h4, h5, h6⟩
  · rw [table_find hp, List.find?_eq_none] at h2
    have := h2 r hr
    simp at this
  · refine ⟨h1, ?_⟩
    rw [h3]
    obtain ⟨i, hi, rfl⟩ := List.getElem_of_mem hr
    obtain ⟨j, hj, rfl⟩ := List.getElem_of_mem h5
    by_cases hij : i = j
    · subst hij; rfl
    · exfalso
      have hpw := List.pairwise_iff_getElem.1 hp
      rcases Nat.lt_or_gt_of_ne hij with h | h
      · exact hpw i j hi hj h h6.symm
      · exact hpw j i hj hi h h6
theorem order_ok {a b : List RowS} {tm : Stamp} {l : List OpS} {e : Int} (h : DiffRel a b tm (l.map OpS.core) e) (he : e = 0) : l.length ≤ 64 ∧ (0 ≤ tm.T ∧ tm.T ≤ 2199023255552) ∧ ∀ k, k < l.length → OrderAt a b tm l k := by
  obtain ⟨h1, h2, h3⟩ := h
  have hs : snapOk a = true ∧ snapOk b = true := by
    rcases Classical.em (snapOk a = true ∧ snapOk b = true) with hs | hs
    · exact hs
    · have := (h1 hs).2; omega
  have ht : stRight tm = true := by
    cases ht : stRight tm with
    | true => rfl
    | false => have := (h2 hs ht).2; omega
  obtain ⟨L, hL, h4, h5, h6⟩ := h3 hs ht
  have hb : (diffSt a b tm L).bad = false := by
    cases hb : (diffSt a b tm L).bad with
    | false => rfl
    | true => have := (h4 hb).2; omega
  have hm : editsOne a b = true ∧ (diffSt a b tm L).ops.length ≤ 64 := by
    rcases Classical.em (editsOne a b = false ∨ 64 < (diffSt a b tm L).ops.length) with hm | hm
    · have := (h5 hb hm).2; omega
    · refine ⟨?_, by omega⟩
      cases ho : editsOne a b with
      | true => rfl
      | false => exact absurd (.inl ho) hm
  obtain ⟨h7, _⟩ := h6 hb hm
  obtain ⟨d1, d2⟩ := diffSt_ops a b L tm
  have hlen : l.length ≤ 64 := by
    have := congrArg List.length h7
    rw [List.length_map] at this
    omega
  refine ⟨hlen, st_T ht, fun k hk => ?_⟩
  have get : ∀ i, i < l.length → ∃ o, (diffX a b L)[i]? = some o ∧ (nth l i).core = { o with tm := ⟨tm.T + i, tm.R⟩ } := by
    intro i hi
    have e1 : (l.map OpS.core)[i]? = some (nth l i).core := by
      rw [List.getElem?_map, List.getElem?_eq_getElem hi, nth_eq hi]; rfl
    rw [h7, d1, stampFrom_get] at e1
    cases ho : (diffX a b L)[i]? with
    | none => rw [ho] at e1; simp at e1
    | some o =>
      rw [ho] at e1
      exact ⟨o, rfl, (Option.some.inj e1).symm⟩
  have kinds : ∀ i o, (diffX a b L)[i]? = some o → (i < (L.map mvOp ++ (a.filter (gone b)).map trOp).length → o.kind = 1) ∧ (¬ i < (L.map mvOp ++ (a.filter (gone b)).map trOp).length → o.kind = 2 ∧ ∃ r ∈ b, o.node = r.node) := by
    intro i o ho
    refine ⟨fun hi => ?_, fun hi => ?_⟩
    · unfold diffX at ho
      rw [List.getElem?_append_left hi] at ho
      rcases List.mem_append.1 (List.mem_of_getElem? ho) with hm | hm
      · obtain ⟨r, _, rfl⟩ := List.mem_map.1 hm; rfl
      · obtain ⟨r, _, rfl⟩ := List.mem_map.1 hm; rfl
    · unfold diffX at ho
      rw [List.getElem?_append_right (by omega)] at ho
      obtain ⟨r, hr, rfl⟩ := List.mem_map.1 (List.mem_of_getElem? ho)
      exact ⟨rfl, r, (List.mem_filter.1 hr).1, rfl⟩
  have nodes : ∀ o, o ∈ diffX a b L → o.kind = 1 → (∃ r ∈ b, needs a r = true ∧ o.node = r.node) ∨ ∃ r ∈ a, gone b r = true ∧ o.node = r.node := by
    intro o ho hk
    rcases List.mem_append.1 ho with hm | hm
    · rcases List.mem_append.1 hm with hm | hm
      · obtain ⟨r, hr, rfl⟩ := List.mem_map.1 hm
        have := List.mem_filter.1 (hL.mem_iff.1 hr)
        exact .inl ⟨r, this.1, this.2, rfl⟩
      · obtain ⟨r, hr, rfl⟩ := List.mem_map.1 hm
        have := List.mem_filter.1 hr
        exact .inr ⟨r, this.1, this.2, rfl⟩
    · obtain ⟨r, _, rfl⟩ := List.mem_map.1 hm
      exact absurd hk (show ¬ (2 : Int) = 1 by decide)
  obtain ⟨o, ho, hc⟩ := get k hk
  have ck : (nth l k).kind = o.kind := congrArg OpC.kind hc
  have cn : (nth l k).node = o.node := congrArg OpC.node hc
  have ct : (nth l k).tm = ⟨tm.T + k, tm.R⟩ := congrArg OpC.tm hc
  refine ⟨?_, by rw [ct]; exact ⟨rfl, rfl⟩, ?_, ?_, ?_, ?_⟩
  · rw [goodOp_core]
    rw [d2] at hb
    have hmem : (nth l k).core ∈ stampFrom tm (diffX a b L) := by
      rw [← d1, ← h7]; exact List.mem_map.2 ⟨_, nth_mem hk, rfl⟩
    have := List.any_eq_false.1 hb _ hmem
    simpa using this
  · rw [ck]
    by_cases hi : k < (L.map mvOp ++ (a.filter (gone b)).map trOp).length
    · exact .inl ((kinds k o ho).1 hi)
    · exact .inr ((kinds k o ho).2 hi).1
  · intro i hik hi2
    obtain ⟨o', ho', hc'⟩ := get i (by omega)
    have ck' : (nth l i).kind = o'.kind := congrArg OpC.kind hc'
    rw [ck'] at hi2
    rw [ck]
    by_cases hi : i < (L.map mvOp ++ (a.filter (gone b)).map trOp).length
    · have := (kinds i o' ho').1 hi
      rw [this] at hi2
      exact absurd hi2 (by decide)
    · exact ((kinds k o ho).2 (by omega)).1
  · intro hk1 hfa hfb hpar hname
    rw [ck] at hk1
    rw [cn] at hfa hfb hpar hname
    rcases nodes o (List.mem_of_getElem? ho) hk1 with ⟨r, hr, hn, hnode⟩ | ⟨r, hr, hg, hnode⟩
    · rw [hnode] at hfa hfb hpar hname
      rcases look (snap_pw hs.1) r.node with ⟨g1, _⟩ | ⟨ra, g1, g2, g3, g4, g5, g6⟩
      · omega
      · rw [g3, (find_mem (snap_pw hs.2) hr).2] at hpar hname
        unfold needs at hn
        rw [g4] at hn
        simp [hpar, hname] at hn
    · rw [hnode] at hfb
      rcases look (snap_pw hs.2) r.node with ⟨g1, _⟩ | ⟨rb, g1, g2, g3, g4, g5, g6⟩
      · omega
      · unfold gone at hg
        rw [g4] at hg
        simp at hg
  · intro hk2
    rw [ck] at hk2
    rw [cn]
    by_cases hi : k < (L.map mvOp ++ (a.filter (gone b)).map trOp).length
    · have := (kinds k o ho).1 hi
      rw [this] at hk2
      exact absurd hk2 (by decide)
    · obtain ⟨_, r, hr, hn⟩ := (kinds k o ho).2 hi
      rw [hn]; exact (find_mem (snap_pw hs.2) hr).1
theorem order_err {a b : List RowS} {tm : Stamp} {l : List OpS} {e : Int} (h : DiffRel a b tm (l.map OpS.core) e) (he : ¬ e = 0) : l = [] := by
  have key : l.map OpS.core = [] := by
    obtain ⟨h1, h2, h3⟩ := h
    rcases Classical.em (snapOk a = true ∧ snapOk b = true) with hs | hs
    · cases ht : stRight tm with
      | false => exact (h2 hs ht).1
      | true =>
        obtain ⟨L, hL, h4, h5, h6⟩ := h3 hs ht
        cases hb : (diffSt a b tm L).bad with
        | true => exact (h4 hb).1
        | false =>
          rcases Classical.em (editsOne a b = false ∨ 64 < (diffSt a b tm L).ops.length) with hm | hm
          · exact (h5 hb hm).1
          · refine absurd (h6 hb ⟨?_, by omega⟩).2 he
            cases ho : editsOne a b with
            | true => rfl
            | false => exact absurd (.inl ho) hm
    · exact (h1 hs).1
  simpa using key
/-- Has one of the first k operations the kind 2? -/
def anyEdit (l : List OpS) (k : Nat) : Bool := (l.take k).any fun o => decide (o.kind = 2)
theorem anyEdit_succ {l : List OpS} {k : Nat} (h : k < l.length) : anyEdit l (k + 1) = (anyEdit l k || decide ((nth l k).kind = 2)) := by
  unfold anyEdit
  rw [List.take_succ_eq_append_getElem h, List.any_append, nth_eq h]
  simp
theorem anyEdit_t {l : List OpS} {k : Nat} (h : anyEdit l k = true) (hk : k ≤ l.length) : ∃ i, i < k ∧ (nth l i).kind = 2 := by
  unfold anyEdit at h
  obtain ⟨o, ho, h2⟩ := List.any_eq_true.1 h
  obtain ⟨i, hi, rfl⟩ := List.getElem_of_mem ho
  simp only [List.length_take] at hi
  refine ⟨i, by omega, ?_⟩
  rw [nth_eq (by omega)]
  simpa using h2
theorem order_f1 {a b : List RowS} {tm : Stamp} {l : List OpS} {k : Nat} {ed : Bool} (h : OrderAt a b tm l k) (he : ed = anyEdit l k) (hk : k < l.length)
    (hc : ((goodOp (nth l k) = false ∨ ¬ (nth l k).tm.T = tm.T + ((k : Nat) : Int)) ∨ ¬ (nth l k).tm.R = tm.R) ∨ (ed = true ∧ (nth l k).kind = 1)) : False := by
  rcases hc with ((hc | hc) | hc) | hc
  · rw [h.good] at hc; cases hc
  · exact hc h.at_.1
  · exact hc h.at_.2
  · obtain ⟨i, hi, h2⟩ := anyEdit_t (he ▸ hc.1) (by omega)
    have := h.rise i hi h2
    omega
theorem order_f2 {a b : List RowS} {tm : Stamp} {l : List OpS} {k : Nat} (h : OrderAt a b tm l k)
    (hc : (((((nth l k).kind = 1 ∧ 0 ≤ findRow a (nth l k).node) ∧ 0 ≤ findRow b (nth l k).node) ∧ (nth a (findRow a (nth l k).node).toNat).par = (nth b (findRow b (nth l k).node).toNat).par) ∧ (nth a (findRow a (nth l k).node).toNat).name = (nth b (findRow b (nth l k).node).toNat).name) ∨ ((nth l k).kind = 2 ∧ findRow b (nth l k).node < 0)) : False := by
  rcases hc with ⟨⟨⟨⟨h1, h2⟩, h3⟩, h4⟩, h5⟩ | ⟨h1, h2⟩
  · exact h.move h1 h2 h3 h4 h5
  · have := h.edit h1; omega
theorem good_size {o : OpS} (h : goodOp o = true) : o.name.size ≤ 9223372036854775807 := by
  rcases (of_decide_eq_true h).2.2 with ⟨_, h1⟩ | ⟨_, h1⟩
  · have := nameOk_size (of_decide_eq_true h1).2.2.1; omega
  · have := (of_decide_eq_true h1).2.2.1
    rw [this]; decide
end Go.Proofs.Ytiknfldhommmpaa
namespace Go.Proofs.Ytiknfldhommmpaa
open Go
set_option maxRecDepth 100000
set_option linter.unusedVariables false
set_option linter.unusedSimpArgs false
theorem law14_DifferOrder_c5 : callable Try.prog 5 = true := by kernel_rfl
theorem law14_DifferOrder_c14 : callable Try.prog 14 = true := by kernel_rfl
theorem law14_DifferOrder_c15 : callable Try.prog 15 = true := by kernel_rfl
theorem law14_DifferOrder_c16 : callable Try.prog 16 = true := by kernel_rfl
set_option maxHeartbeats 4000000 in
theorem law14_DifferOrder (ha : SlH) (a : List RowS) (hb : SlH) (b : List RowS) (at_ : Stamp) (w : World) (Sa : Sl (Old w) rowCh 8 ha a w) (Da_heads : ∀ x ∈ a, Sl (Old w) headCh 34 x.hh x.heads w) (Sb : Sl (Old w) rowCh 8 hb b w) (Db_heads : ∀ x ∈ b, Sl (Old w) headCh 34 x.hh x.heads w) (hha : ∀ x ∈ a, x.heads.length * 48 ≤ 140737488355328) (hhb : ∀ x ∈ b, x.heads.length * 48 ≤ 140737488355328) :
    Calls Try.prog 4 #[(slV ha a), (slV hb b), (aggOf (stampCh at_))] w (Ret fun v w' => v = (.bool true) ∧ Ext w w') := by
 refine calls_W Try.func4 rfl Try.ntmps4 rfl ?_
 have H0 := Ctx.start w nob
 have H1 := H0.addSl _ Sa (fun b hb => ⟨hb, fun _ ho => (nomatch ho)⟩)
 have LSa := Sa.len
 have H2 := H1.addImm' (deepI (Old w) headCh 34 (fun x : RowS => x.hh) (fun x : RowS => x.heads) a) Da_heads (fun b hb => ⟨hb, fun _ ho => (nomatch ho)⟩)
 have H3 := H2.addSl _ Sb (fun b hb => ⟨hb, fun _ ho => (nomatch ho)⟩)
 have LSb := Sb.len
 have H4 := H3.addImm' (deepI (Old w) headCh 34 (fun x : RowS => x.hh) (fun x : RowS => x.heads) b) Db_heads (fun b hb => ⟨hb, fun _ ho => (nomatch ho)⟩)
 refine W_seq (W_reg ?_)
 refine O_v rfl (C_box H4 [[(.int .i64 at_.T)], [(.int .i64 at_.R)]] rfl ?_)
 intro b5 w6 hb7 hx8 H9
 refine O_v rfl (R_assign (v := (.bool false)) rfl ?_)
 refine O_nil (Then_n (W_seq (W_seq (W_reg ?_))))
 refine O_v rfl (R_callL (vs := []) law14_DifferOrder_c5 rfl rfl ((law14_alive  w6 ).ret ?_))
 rintro _ w10 ⟨rfl, hx11⟩
 have H12 := H9.ext hx11
 refine O_v rfl (R_not rfl ?_)
 refine O_nil (Then_n ?_)
 refine W_cond_f rfl ?_
 refine W_skip (Then_n (W_seq (W_seq ?_)))
 refine W_rg [(0, .q false), (1, .q false), (2, .q false), (3, .q false), (4, .q false), (5, .q false), (6, .q false), (7, .q false)] (by kernel_rfl) ?_
 refine Lx_q (i := 0) rfl rfl _ (fun v13 hv14 => R_move (v := (slV ha a)) rfl ⟨rfl, Gr.refl _ _⟩) ?_
 refine Lx_q (i := 1) rfl rfl _ (fun v15 hv16 => R_len_slice (a := ha.a) (n := a.length) (c := ha.c) Try.underlying22 rfl ⟨rfl, Gr.refl _ _⟩) ?_
 refine Lx_q (i := 2) rfl rfl _ (fun v17 hv18 => R_cmp (a := ((a.length : Nat) : Int)) (b := 30) (r := (decide (30 < ((a.length : Nat) : Int)))) rfl rfl rfl ⟨rfl, Gr.refl _ _⟩) ?_
 refine Lx_q (i := 3) rfl rfl _ (fun v19 hv20 => R_move (v := (.bool (decide (30 < ((a.length : Nat) : Int))))) rfl ⟨rfl, Gr.refl _ _⟩) ?_
 refine Lx_qg (i := 4) true (decide (30 < ((a.length : Nat) : Int))) rfl rfl rfl rfl rfl (!(decide (30 < ((a.length : Nat) : Int)))) ga_f _ (fun hA v21 hv22 => R_move (v := (slV hb b)) rfl ⟨rfl, Gr.refl _ _⟩) ?_
 refine Lx_qg (i := 5) true (decide (30 < ((a.length : Nat) : Int))) rfl rfl rfl rfl rfl (!(decide (30 < ((a.length : Nat) : Int)))) ga_f _ (fun hA v23 hv24 => R_len_slice (a := hb.a) (n := b.length) (c := hb.c) Try.underlying22 (gv_t hA) ⟨rfl, Gr.refl _ _⟩) ?_
 refine Lx_qg (i := 6) true (decide (30 < ((a.length : Nat) : Int))) rfl rfl rfl rfl rfl (!(decide (30 < ((a.length : Nat) : Int)))) ga_f _ (fun hA v25 hv26 => R_cmp (a := ((b.length : Nat) : Int)) (b := 30) (r := (decide (30 < ((b.length : Nat) : Int)))) (gv_t hA) rfl rfl ⟨rfl, Gr.refl _ _⟩) ?_
 refine Lx_q (i := 7) rfl rfl _ (fun v27 hv28 => R_pick (t := (decide (30 < ((a.length : Nat) : Int)))) (v := (.bool ((decide (30 < ((a.length : Nat) : Int))) || (decide (30 < ((b.length : Nat) : Int)))))) rfl pk_or ⟨rfl, Gr.refl _ _⟩) ?_
 refine Lx_nil (fun w29 hw30 => ?_)
 have H31 := H12.ext hw30
 refine Then_n ?_
 refine W_cond (t := ((decide (30 < ((a.length : Nat) : Int))) || (decide (30 < ((b.length : Nat) : Int))))) rfl (fun hc32 => ?_) (fun hc32 => ?_)
 ·have hc32 : ((30 < ((a.length : Nat) : Int)) ∨ (30 < ((b.length : Nat) : Int))) := (Or.imp (fun h => (of_decide_eq_true h)) (fun h => (of_decide_eq_true h)) (orT hc32))
  refine W_seq (W_reg ?_)
  refine O_v rfl (R_assign (v := (.bool true)) rfl ?_)
  refine O_nil (Then_n (W_ret (Then_r ?_)))
  refine ret_1 (v := (.bool true)) Try.results4 rfl ?_
  exact ⟨rfl, H31.gr⟩
 ·have hc32 : (¬ (30 < ((a.length : Nat) : Int)) ∧ ¬ (30 < ((b.length : Nat) : Int))) := (And.imp (fun h => (of_decide_eq_false h)) (fun h => (of_decide_eq_false h)) (orF hc32))
  refine W_skip (Then_n (W_seq (W_reg ?_)))
  refine O_v rfl (R_move (v := (slV ha a)) rfl ?_)
  refine O_v rfl (R_move (v := (slV hb b)) rfl ?_)
  refine O_v rfl (R_loadA (cs := [[(.int .i64 at_.T)], [(.int .i64 at_.R)]]) Try.isAgg24 Try.sizeOf24 rfl rfl ((boxR_at (H31.getOwn 0 rfl)).chunks 0 2 0 0 _ rfl rfl rfl) ?_)
  refine O_v rfl (R_callL (vs := [(slV ha a), (slV hb b), (aggOf (stampCh at_))]) law14_DifferOrder_c14 rfl rfl ((differ_Diff ha a hb b at_ w29 (H31.slOld 3 rfl) (H31.deepOld 2 rfl) (H31.slOld 1 rfl) (H31.deepOld 0 rfl) hha hhb).ret ?_))
  rintro _ w36 ⟨h33, l34, S35, e43, rfl, hx37, ho38, hS39, hd40, hr41⟩
  have H42 := H31.addRowDeep (h := fun x : OpS => x.oh) (f := fun x : OpS => x.over) hx37 ho38 hS39 hd40
  refine O_v rfl (R_move (v := (.tuple #[(slV h33 l34), (.int .i64 e43)])) rfl ?_)
  refine O_v rfl (R_extract (v := (slV h33 l34)) rfl rfl ?_)
  refine O_v rfl (R_extract (v := (.int .i64 e43)) rfl rfl ?_)
  refine O_v rfl (R_assign (v := (slV h33 l34)) rfl ?_)
  refine O_v rfl (R_assign (v := (.int .i64 e43)) rfl ?_)
  refine O_nil (Then_n (W_seq (W_seq (W_reg ?_))))
  refine O_v rfl (R_move (v := (.int .i64 e43)) rfl ?_)
  refine O_v rfl (R_cmp (a := e43) (b := 0) (r := (!(decide (e43 = 0)))) rfl rfl rfl ?_)
  refine O_nil (Then_n ?_)
  refine W_cond (t := (!(decide (e43 = 0)))) rfl (fun hc44 => ?_) (fun hc44 => ?_)
  ·have hc44 : ¬ (e43 = 0) := (of_decide_eq_false (notT hc44))
   refine W_seq (W_reg ?_)
   refine O_v rfl (R_move (v := (slV h33 l34)) rfl ?_)
   refine O_v rfl (R_len_slice (a := h33.a) (n := l34.length) (c := h33.c) Try.underlying31 rfl ?_)
   refine O_v rfl (R_cmp (a := ((l34.length : Nat) : Int)) (b := 0) (r := (decide (((l34.length : Nat) : Int) = 0))) rfl rfl rfl ?_)
   refine O_v rfl (R_assign (v := (.bool (decide (((l34.length : Nat) : Int) = 0)))) rfl ?_)
   refine O_nil (Then_n (W_ret (Then_r ?_)))
   refine ret_1 (v := (.bool (decide (((l34.length : Nat) : Int) = 0)))) Try.results4 rfl ?_
   exact ⟨(boolT (by rw [order_err hr41 (by assumption)]; rfl)).symm, H42.gr⟩
  ·have hc44 : (e43 = 0) := (of_decide_eq_true (notF hc44))
   have hO := order_ok hr41 hc44
   refine W_skip (Then_n (W_seq (W_reg ?_)))
   refine O_v rfl (R_assign (v := (.bool false)) rfl ?_)
   refine O_nil (Then_n (W_seq (W_seq (W_reg ?_))))
   refine O_v rfl (R_move (v := (slV h33 l34)) rfl ?_)
   refine O_v rfl (R_len_slice (a := h33.a) (n := l34.length) (c := h33.c) Try.underlying31 rfl ?_)
   refine O_v rfl (R_move (v := (.int .i64 0)) rfl ?_)
   refine O_nil (Then_n (W_block ?_))
   refine W_loop (fun m45 e46 w47 => ∃ (i : Nat), ∃ (ed : Bool), m45 = l34.length - i ∧ (i ≤ l34.length) ∧ (ed = anyEdit l34 i) ∧ ∃ eb48, e46 = envL [(0, (slV ha a)), (1, (slV hb b)), (5, (.pointer (some ⟨b5, 0, none⟩))), (7, (slV h33 l34)), (9, (.bool ed)), (36, (slV h33 l34)), (37, (.int .i64 ((l34.length : Nat) : Int))), (38, (.int .i64 ((i : Nat) : Int)))] eb48 ∧ Ctx w nob w47 [rowR 39 41 opCh h33 l34, boxR b5 24 [[(.int .i64 at_.T)], [(.int .i64 at_.R)]]] [deepI S35 stampCh 2 (fun x : OpS => x.oh) (fun x : OpS => x.over) l34, deepI (Old w) headCh 34 (fun x : RowS => x.hh) (fun x : RowS => x.heads) b, slI (Old w) rowCh 8 hb b, deepI (Old w) headCh 34 (fun x : RowS => x.hh) (fun x : RowS => x.heads) a, slI (Old w) rowCh 8 ha a]) _ ⟨0, false, rfl, (by omega), rfl, _, envL_self ⟨rfl, rfl, rfl, rfl, rfl, rfl, rfl, rfl, trivial⟩, H42⟩ ?_
   rintro m45 _ w47 ⟨i, ed, rfl, hi, hed, eb48, rfl, H49⟩
   have hfa := findRow_lt (xs := a) (s := (nth l34 i).node)
   have hfb := findRow_lt (xs := b) (s := (nth l34 i).node)
   refine W_seq (W_reg ?_)
   refine O_v rfl (R_cmp (a := ((i : Nat) : Int)) (b := ((l34.length : Nat) : Int)) (r := (decide (((i : Nat) : Int) < ((l34.length : Nat) : Int)))) rfl rfl rfl ?_)
   refine O_nil (Then_n (W_seq ?_))
   refine W_cond (t := (decide (((i : Nat) : Int) < ((l34.length : Nat) : Int)))) rfl (fun hc50 => ?_) (fun hc50 => ?_)
   ·have hc50 : (((i : Nat) : Int) < ((l34.length : Nat) : Int)) := (of_decide_eq_true hc50)
    refine W_skip (Then_n (W_seq (W_block (W_seq (W_reg ?_)))))
    refine O_v rfl (R_move (v := (.int .i64 ((i : Nat) : Int))) rfl ?_)
    refine O_v rfl (R_index_pure (OwnS.sl (H49.getOwn 0 rfl) (fun _ => rfl)) (n := l34.length) rfl (j := ((i : Nat) : Int)) (oo := (h33.o + i * 41)) Try.underlying31 Try.sizeOf39 rfl rfl (by omega) (by omega) rfl ?_)
    refine O_v rfl (R_loadA (cs := [[(.int .i64 ((nth l34 i).kind))], [(.int .i64 (((nth l34 i).tm).T))], [(.int .i64 (((nth l34 i).tm).R))], [(.int .i64 (((nth l34 i).node).T))], [(.int .i64 (((nth l34 i).node).R))], [(.int .i64 (((nth l34 i).par).T))], [(.int .i64 (((nth l34 i).par).R))], [(.string ((nth l34 i).name))], (idCells ((nth l34 i).data)), [(slV ((nth l34 i).oh) ((nth l34 i).over))]]) Try.isAgg39 Try.sizeOf39 rfl rfl ((Sl.elem (OwnS.sl (H49.getOwn 0 rfl) (fun _ => rfl)) (i := i) (by omega) rfl).chunks 0 10 0 (h33.o + i * 41) _ rfl rfl rfl) ?_)
    refine O_v rfl (C_alloc H49 [[(.int .i64 0)], [(.int .i64 0)], [(.int .i64 0)], [(.int .i64 0)], [(.int .i64 0)], [(.int .i64 0)], [(.int .i64 0)], [(.string ByteArray.empty)], (idCells zeroId), [(.slice none 0 0)]] Try.zeroValue39 ?_)
    intro b51 w52 hb53 hx54 H55
    refine O_v rfl (R_assign (v := (.int .i64 ((i : Nat) : Int))) rfl ?_)
    refine O_u (C_storeA H55 0 rfl 0 (sub := [[(.int .i64 ((nth l34 i).kind))], [(.int .i64 (((nth l34 i).tm).T))], [(.int .i64 (((nth l34 i).tm).R))], [(.int .i64 (((nth l34 i).node).T))], [(.int .i64 (((nth l34 i).node).R))], [(.int .i64 (((nth l34 i).par).T))], [(.int .i64 (((nth l34 i).par).R))], [(.string ((nth l34 i).name))], (idCells ((nth l34 i).data)), [(slV ((nth l34 i).oh) ((nth l34 i).over))]]) [[(.int .i64 ((nth l34 i).kind))], [(.int .i64 (((nth l34 i).tm).T))], [(.int .i64 (((nth l34 i).tm).R))], [(.int .i64 (((nth l34 i).node).T))], [(.int .i64 (((nth l34 i).node).R))], [(.int .i64 (((nth l34 i).par).T))], [(.int .i64 (((nth l34 i).par).R))], [(.string ((nth l34 i).name))], (idCells ((nth l34 i).data)), [(slV ((nth l34 i).oh) ((nth l34 i).over))]] Try.sizeOf39 rfl rfl rfl rfl ⟨[[(.int .i64 0)], [(.int .i64 0)], [(.int .i64 0)], [(.int .i64 0)], [(.int .i64 0)], [(.int .i64 0)], [(.int .i64 0)], [(.string ByteArray.empty)], (idCells zeroId), [(.slice none 0 0)]], [], rfl, rfl, rfl⟩ rfl ?_)
    intro w56 hg57 H58
    refine O_nil (Then_n (W_seq (W_seq ?_)))
    refine W_rg [(0, .q false), (1, .q false), (2, .q false), (3, .q false), (4, .q false), (5, .q false), (6, .q false), (7, .q false), (8, .q false), (9, .q false), (10, .q false), (11, .q false), (12, .q false), (13, .q false), (14, .q false), (15, .q false), (16, .q false), (17, .q false), (18, .q false), (19, .q false), (20, .q false), (21, .q false), (22, .q false), (23, .q false), (24, .q false), (25, .q false), (26, .q false), (27, .q false), (28, .q false)] (by kernel_rfl) ?_
    refine Lx_q (i := 0) rfl rfl _ (fun v59 hv60 => R_loadA (cs := [[(.int .i64 ((nth l34 i).kind))], [(.int .i64 (((nth l34 i).tm).T))], [(.int .i64 (((nth l34 i).tm).R))], [(.int .i64 (((nth l34 i).node).T))], [(.int .i64 (((nth l34 i).node).R))], [(.int .i64 (((nth l34 i).par).T))], [(.int .i64 (((nth l34 i).par).R))], [(.string ((nth l34 i).name))], (idCells ((nth l34 i).data)), [(slV ((nth l34 i).oh) ((nth l34 i).over))]]) Try.isAgg39 Try.sizeOf39 rfl rfl ((boxR_at ((H58.ext hv60).getOwn 0 rfl)).chunks 0 10 0 0 _ rfl rfl rfl) ⟨rfl, Gr.refl _ _⟩) ?_
    refine Lx_q (i := 1) rfl rfl (.bool (goodOp (nth l34 i))) (fun v61 hv62 => R_callL (vs := [(aggOf (opCh (nth l34 i)))]) law14_DifferOrder_c15 rfl rfl (ref03_Good (nth l34 i) v61 ((H58.ext hv62).deepOld 0 rfl _ (nth_mem (by omega))) (good_size (hO.2.2 i (by omega)).good))) ?_
    refine Lx_q (i := 2) rfl rfl _ (fun v63 hv64 => R_not rfl ⟨rfl, Gr.refl _ _⟩) ?_
    refine Lx_q (i := 3) rfl rfl _ (fun v65 hv66 => R_move (v := (.bool (!(goodOp (nth l34 i))))) rfl ⟨rfl, Gr.refl _ _⟩) ?_
    refine Lx_qg (i := 4) true (!(goodOp (nth l34 i))) rfl rfl rfl rfl rfl (!(!(goodOp (nth l34 i)))) ga_f _ (fun hA v67 hv68 => R_fieldAddr (off := 1) (oo := 1) Try.underlying39 rfl rfl Try.sizeOf24 rfl rfl ⟨rfl, Gr.refl _ _⟩) ?_
    refine Lx_qg (i := 5) true (!(goodOp (nth l34 i))) rfl rfl rfl rfl rfl (!(!(goodOp (nth l34 i)))) ga_f _ (fun hA v69 hv70 => R_fieldAddr (off := 0) (oo := 1) Try.underlying24 rfl rfl Try.sizeOf2 (gv_t hA) rfl ⟨rfl, Gr.refl _ _⟩) ?_
    refine Lx_qg (i := 6) true (!(goodOp (nth l34 i))) rfl rfl rfl rfl rfl (!(!(goodOp (nth l34 i)))) ga_f _ (fun hA v71 hv72 => R_load1 (v := (.int .i64 (((nth l34 i).tm).T))) Try.isAgg2 (gv_t hA) ((boxR_at ((H58.ext hv72).getOwn 0 rfl)).chunks 1 1 1 1 _ rfl rfl rfl) ⟨rfl, Gr.refl _ _⟩) ?_
    refine Lx_qg (i := 7) true (!(goodOp (nth l34 i))) rfl rfl rfl rfl rfl (!(!(goodOp (nth l34 i)))) ga_f _ (fun hA v73 hv74 => R_fieldAddr (off := 0) (oo := 0) Try.underlying24 rfl rfl Try.sizeOf2 rfl rfl ⟨rfl, Gr.refl _ _⟩) ?_
    refine Lx_qg (i := 8) true (!(goodOp (nth l34 i))) rfl rfl rfl rfl rfl (!(!(goodOp (nth l34 i)))) ga_f _ (fun hA v75 hv76 => R_load1 (v := (.int .i64 at_.T)) Try.isAgg2 (gv_t hA) ((boxR_at ((H58.ext hv76).getOwn 2 rfl)).chunks 0 1 0 0 _ rfl rfl rfl) ⟨rfl, Gr.refl _ _⟩) ?_
    refine Lx_qg (i := 9) true (!(goodOp (nth l34 i))) rfl rfl rfl rfl rfl (!(!(goodOp (nth l34 i)))) ga_f _ (fun hA v77 hv78 => R_move (v := (.int .i64 ((i : Nat) : Int))) rfl ⟨rfl, Gr.refl _ _⟩) ?_
    refine Lx_qg (i := 10) true (!(goodOp (nth l34 i))) rfl rfl rfl rfl rfl (!(!(goodOp (nth l34 i)))) ga_f _ (fun hA v79 hv80 => R_arith (a := at_.T) (b := ((i : Nat) : Int)) (r0 := at_.T + ((i : Nat) : Int)) (r := at_.T + ((i : Nat) : Int)) (gv_t hA) (gv_t hA) rfl (w64 _ (by have := hO.2.1; have := hO.1; omega)) ⟨rfl, Gr.refl _ _⟩) ?_
    refine Lx_qg (i := 11) true (!(goodOp (nth l34 i))) rfl rfl rfl rfl rfl (!(!(goodOp (nth l34 i)))) ga_f _ (fun hA v81 hv82 => R_cmp (a := ((nth l34 i).tm).T) (b := (at_.T + ((i : Nat) : Int))) (r := (!(decide (((nth l34 i).tm).T = (at_.T + ((i : Nat) : Int)))))) (gv_t hA) (gv_t hA) rfl ⟨rfl, Gr.refl _ _⟩) ?_
    refine Lx_q (i := 12) rfl rfl _ (fun v83 hv84 => R_pick (t := (!(goodOp (nth l34 i)))) (v := (.bool ((!(goodOp (nth l34 i))) || (!(decide (((nth l34 i).tm).T = (at_.T + ((i : Nat) : Int)))))))) rfl pk_or ⟨rfl, Gr.refl _ _⟩) ?_
    refine Lx_q (i := 13) rfl rfl _ (fun v85 hv86 => R_move (v := (.bool ((!(goodOp (nth l34 i))) || (!(decide (((nth l34 i).tm).T = (at_.T + ((i : Nat) : Int)))))))) rfl ⟨rfl, Gr.refl _ _⟩) ?_
    refine Lx_qg (i := 14) true ((!(goodOp (nth l34 i))) || (!(decide (((nth l34 i).tm).T = (at_.T + ((i : Nat) : Int)))))) rfl rfl rfl rfl rfl (!((!(goodOp (nth l34 i))) || (!(decide (((nth l34 i).tm).T = (at_.T + ((i : Nat) : Int))))))) ga_f _ (fun hA v87 hv88 => R_fieldAddr (off := 1) (oo := 1) Try.underlying39 rfl rfl Try.sizeOf24 rfl rfl ⟨rfl, Gr.refl _ _⟩) ?_
    refine Lx_qg (i := 15) true ((!(goodOp (nth l34 i))) || (!(decide (((nth l34 i).tm).T = (at_.T + ((i : Nat) : Int)))))) rfl rfl rfl rfl rfl (!((!(goodOp (nth l34 i))) || (!(decide (((nth l34 i).tm).T = (at_.T + ((i : Nat) : Int))))))) ga_f _ (fun hA v89 hv90 => R_fieldAddr (off := 1) (oo := 2) Try.underlying24 rfl rfl Try.sizeOf3 (gv_t hA) rfl ⟨rfl, Gr.refl _ _⟩) ?_
    refine Lx_qg (i := 16) true ((!(goodOp (nth l34 i))) || (!(decide (((nth l34 i).tm).T = (at_.T + ((i : Nat) : Int)))))) rfl rfl rfl rfl rfl (!((!(goodOp (nth l34 i))) || (!(decide (((nth l34 i).tm).T = (at_.T + ((i : Nat) : Int))))))) ga_f _ (fun hA v91 hv92 => R_load1 (v := (.int .i64 (((nth l34 i).tm).R))) Try.isAgg3 (gv_t hA) ((boxR_at ((H58.ext hv92).getOwn 0 rfl)).chunks 2 1 2 2 _ rfl rfl rfl) ⟨rfl, Gr.refl _ _⟩) ?_
    refine Lx_qg (i := 17) true ((!(goodOp (nth l34 i))) || (!(decide (((nth l34 i).tm).T = (at_.T + ((i : Nat) : Int)))))) rfl rfl rfl rfl rfl (!((!(goodOp (nth l34 i))) || (!(decide (((nth l34 i).tm).T = (at_.T + ((i : Nat) : Int))))))) ga_f _ (fun hA v93 hv94 => R_fieldAddr (off := 1) (oo := 1) Try.underlying24 rfl rfl Try.sizeOf3 rfl rfl ⟨rfl, Gr.refl _ _⟩) ?_
    refine Lx_qg (i := 18) true ((!(goodOp (nth l34 i))) || (!(decide (((nth l34 i).tm).T = (at_.T + ((i : Nat) : Int)))))) rfl rfl rfl rfl rfl (!((!(goodOp (nth l34 i))) || (!(decide (((nth l34 i).tm).T = (at_.T + ((i : Nat) : Int))))))) ga_f _ (fun hA v95 hv96 => R_load1 (v := (.int .i64 at_.R)) Try.isAgg3 (gv_t hA) ((boxR_at ((H58.ext hv96).getOwn 2 rfl)).chunks 1 1 1 1 _ rfl rfl rfl) ⟨rfl, Gr.refl _ _⟩) ?_
    refine Lx_qg (i := 19) true ((!(goodOp (nth l34 i))) || (!(decide (((nth l34 i).tm).T = (at_.T + ((i : Nat) : Int)))))) rfl rfl rfl rfl rfl (!((!(goodOp (nth l34 i))) || (!(decide (((nth l34 i).tm).T = (at_.T + ((i : Nat) : Int))))))) ga_f _ (fun hA v97 hv98 => R_cmp (a := ((nth l34 i).tm).R) (b := at_.R) (r := (!(decide (((nth l34 i).tm).R = at_.R)))) (gv_t hA) (gv_t hA) rfl ⟨rfl, Gr.refl _ _⟩) ?_
    refine Lx_q (i := 20) rfl rfl _ (fun v99 hv100 => R_pick (t := ((!(goodOp (nth l34 i))) || (!(decide (((nth l34 i).tm).T = (at_.T + ((i : Nat) : Int))))))) (v := (.bool (((!(goodOp (nth l34 i))) || (!(decide (((nth l34 i).tm).T = (at_.T + ((i : Nat) : Int)))))) || (!(decide (((nth l34 i).tm).R = at_.R)))))) rfl pk_or ⟨rfl, Gr.refl _ _⟩) ?_
    refine Lx_q (i := 21) rfl rfl _ (fun v101 hv102 => R_move (v := (.bool (((!(goodOp (nth l34 i))) || (!(decide (((nth l34 i).tm).T = (at_.T + ((i : Nat) : Int)))))) || (!(decide (((nth l34 i).tm).R = at_.R)))))) rfl ⟨rfl, Gr.refl _ _⟩) ?_
    refine Lx_qg (i := 22) true (((!(goodOp (nth l34 i))) || (!(decide (((nth l34 i).tm).T = (at_.T + ((i : Nat) : Int)))))) || (!(decide (((nth l34 i).tm).R = at_.R)))) rfl rfl rfl rfl rfl (!(((!(goodOp (nth l34 i))) || (!(decide (((nth l34 i).tm).T = (at_.T + ((i : Nat) : Int)))))) || (!(decide (((nth l34 i).tm).R = at_.R))))) ga_f _ (fun hA v103 hv104 => R_move (v := (.bool ed)) rfl ⟨rfl, Gr.refl _ _⟩) ?_
    refine Lx_qg (i := 23) true (((!(goodOp (nth l34 i))) || (!(decide (((nth l34 i).tm).T = (at_.T + ((i : Nat) : Int)))))) || (!(decide (((nth l34 i).tm).R = at_.R)))) rfl rfl rfl rfl rfl (!(((!(goodOp (nth l34 i))) || (!(decide (((nth l34 i).tm).T = (at_.T + ((i : Nat) : Int)))))) || (!(decide (((nth l34 i).tm).R = at_.R))))) ga_f _ (fun hA v105 hv106 => R_move (v := (.bool ed)) (gv_t hA) ⟨rfl, Gr.refl _ _⟩) ?_
    refine Lx_qg (i := 24) (!(((!(goodOp (nth l34 i))) || (!(decide (((nth l34 i).tm).T = (at_.T + ((i : Nat) : Int)))))) || (!(decide (((nth l34 i).tm).R = at_.R))))) ed rfl rfl rfl rfl rfl ((!(((!(goodOp (nth l34 i))) || (!(decide (((nth l34 i).tm).T = (at_.T + ((i : Nat) : Int)))))) || (!(decide (((nth l34 i).tm).R = at_.R))))) && ed) gb_t _ (fun hA v107 hv108 => R_fieldAddr (off := 0) (oo := 0) Try.underlying39 rfl rfl Try.sizeOf3 rfl rfl ⟨rfl, Gr.refl _ _⟩) ?_
    refine Lx_qg (i := 25) (!(((!(goodOp (nth l34 i))) || (!(decide (((nth l34 i).tm).T = (at_.T + ((i : Nat) : Int)))))) || (!(decide (((nth l34 i).tm).R = at_.R))))) ed rfl rfl rfl rfl rfl ((!(((!(goodOp (nth l34 i))) || (!(decide (((nth l34 i).tm).T = (at_.T + ((i : Nat) : Int)))))) || (!(decide (((nth l34 i).tm).R = at_.R))))) && ed) gb_t _ (fun hA v109 hv110 => R_load1 (v := (.int .i64 ((nth l34 i).kind))) Try.isAgg3 (gv_t hA) ((boxR_at ((H58.ext hv110).getOwn 0 rfl)).chunks 0 1 0 0 _ rfl rfl rfl) ⟨rfl, Gr.refl _ _⟩) ?_
    refine Lx_qg (i := 26) (!(((!(goodOp (nth l34 i))) || (!(decide (((nth l34 i).tm).T = (at_.T + ((i : Nat) : Int)))))) || (!(decide (((nth l34 i).tm).R = at_.R))))) ed rfl rfl rfl rfl rfl ((!(((!(goodOp (nth l34 i))) || (!(decide (((nth l34 i).tm).T = (at_.T + ((i : Nat) : Int)))))) || (!(decide (((nth l34 i).tm).R = at_.R))))) && ed) gb_t _ (fun hA v111 hv112 => R_cmp (a := (nth l34 i).kind) (b := 1) (r := (decide ((nth l34 i).kind = 1))) (gv_t hA) rfl rfl ⟨rfl, Gr.refl _ _⟩) ?_
    refine Lx_qg (i := 27) true (((!(goodOp (nth l34 i))) || (!(decide (((nth l34 i).tm).T = (at_.T + ((i : Nat) : Int)))))) || (!(decide (((nth l34 i).tm).R = at_.R)))) rfl rfl rfl rfl rfl (!(((!(goodOp (nth l34 i))) || (!(decide (((nth l34 i).tm).T = (at_.T + ((i : Nat) : Int)))))) || (!(decide (((nth l34 i).tm).R = at_.R))))) ga_f _ (fun hA v113 hv114 => R_pick (t := ed) (v := (.bool (ed && (decide ((nth l34 i).kind = 1))))) (gv_t hA) (pk_andA hA) ⟨rfl, Gr.refl _ _⟩) ?_
    refine Lx_q (i := 28) rfl rfl _ (fun v115 hv116 => R_pick (t := (((!(goodOp (nth l34 i))) || (!(decide (((nth l34 i).tm).T = (at_.T + ((i : Nat) : Int)))))) || (!(decide (((nth l34 i).tm).R = at_.R))))) (v := (.bool ((((!(goodOp (nth l34 i))) || (!(decide (((nth l34 i).tm).T = (at_.T + ((i : Nat) : Int)))))) || (!(decide (((nth l34 i).tm).R = at_.R)))) || (ed && (decide ((nth l34 i).kind = 1)))))) rfl pk_or ⟨rfl, Gr.refl _ _⟩) ?_
    refine Lx_nil (fun w117 hw118 => ?_)
    have H119 := H58.ext hw118
    refine Then_n ?_
    refine W_cond (t := ((((!(goodOp (nth l34 i))) || (!(decide (((nth l34 i).tm).T = (at_.T + ((i : Nat) : Int)))))) || (!(decide (((nth l34 i).tm).R = at_.R)))) || (ed && (decide ((nth l34 i).kind = 1))))) rfl (fun hc120 => ?_) (fun hc120 => ?_)
    ·have hc120 : ((((goodOp (nth l34 i)) = false ∨ ¬ (((nth l34 i).tm).T = (at_.T + ((i : Nat) : Int)))) ∨ ¬ (((nth l34 i).tm).R = at_.R)) ∨ (ed = true ∧ ((nth l34 i).kind = 1))) := (Or.imp (fun h => (Or.imp (fun h => (Or.imp (fun h => (notT h)) (fun h => (of_decide_eq_false (notT h))) (orT h))) (fun h => (of_decide_eq_false (notT h))) (orT h))) (fun h => (And.imp (fun h => h) (fun h => (of_decide_eq_true h)) (andT h))) (orT hc120))
     refine W_seq (W_reg ?_)
     refine O_v rfl (R_assign (v := (.bool false)) rfl ?_)
     refine O_nil (Then_n (W_ret (Then_r (Blk_r (Then_r (Then_r (Blk_r (Then_r ?_))))))))
     refine ret_1 (v := (.bool false)) Try.results4 rfl ?_
     exact ⟨(order_f1 (hO.2.2 i (by omega)) hed (by omega) (by assumption)).elim, H119.gr⟩
    ·have hc120 : ((((goodOp (nth l34 i)) = true ∧ (((nth l34 i).tm).T = (at_.T + ((i : Nat) : Int)))) ∧ (((nth l34 i).tm).R = at_.R)) ∧ (ed = false ∨ ¬ ((nth l34 i).kind = 1))) := (And.imp (fun h => (And.imp (fun h => (And.imp (fun h => (notF h)) (fun h => (of_decide_eq_true (notF h))) (orF h))) (fun h => (of_decide_eq_true (notF h))) (orF h))) (fun h => (Or.imp (fun h => h) (fun h => (of_decide_eq_false h)) (andF h))) (orF hc120))
     refine W_skip (Then_n (W_seq ?_))
     refine W_rg [(0, .q false), (1, .q false), (2, .q false), (3, .q false), (4, .q false), (5, .q false), (6, .q false)] (by kernel_rfl) ?_
     refine Lx_q (i := 0) rfl rfl _ (fun v121 hv122 => R_move (v := (.bool ed)) rfl ⟨rfl, Gr.refl _ _⟩) ?_
     refine Lx_q (i := 1) rfl rfl _ (fun v123 hv124 => R_move (v := (.bool ed)) rfl ⟨rfl, Gr.refl _ _⟩) ?_
     refine Lx_qg (i := 2) true ed rfl rfl rfl rfl rfl (!ed) ga_f _ (fun hA v125 hv126 => R_fieldAddr (off := 0) (oo := 0) Try.underlying39 rfl rfl Try.sizeOf3 rfl rfl ⟨rfl, Gr.refl _ _⟩) ?_
     refine Lx_qg (i := 3) true ed rfl rfl rfl rfl rfl (!ed) ga_f _ (fun hA v127 hv128 => R_load1 (v := (.int .i64 ((nth l34 i).kind))) Try.isAgg3 (gv_t hA) ((boxR_at ((H119.ext hv128).getOwn 0 rfl)).chunks 0 1 0 0 _ rfl rfl rfl) ⟨rfl, Gr.refl _ _⟩) ?_
     refine Lx_qg (i := 4) true ed rfl rfl rfl rfl rfl (!ed) ga_f _ (fun hA v129 hv130 => R_cmp (a := (nth l34 i).kind) (b := 2) (r := (decide ((nth l34 i).kind = 2))) (gv_t hA) rfl rfl ⟨rfl, Gr.refl _ _⟩) ?_
     refine Lx_q (i := 5) rfl rfl _ (fun v131 hv132 => R_pick (t := ed) (v := (.bool (ed || (decide ((nth l34 i).kind = 2))))) rfl pk_or ⟨rfl, Gr.refl _ _⟩) ?_
     refine Lx_q (i := 6) rfl rfl _ (fun v133 hv134 => R_assign (v := (.bool (ed || (decide ((nth l34 i).kind = 2))))) rfl ⟨rfl, Gr.refl _ _⟩) ?_
     refine Lx_nil (fun w135 hw136 => ?_)
     have H137 := H119.ext hw136
     refine Then_n (W_seq ?_)
     refine W_rgd TryMixed [(0, .q false), (1, .q false), (2, .q false), (3, .q false), (4, .q false), (5, .q false), (6, .q false), (7, .q false), (8, .q false), (9, .q false)] (by kernel_rfl) ?_
     refine Lx_q (i := 0) rfl rfl _ (fun v138 hv139 => R_move (v := (slV ha a)) rfl ⟨rfl, Gr.refl _ _⟩) ?_
     refine Lx_q (i := 1) rfl rfl _ (fun v140 hv141 => R_fieldAddr (off := 3) (oo := 3) Try.underlying39 rfl rfl Try.sizeOf24 rfl rfl ⟨rfl, Gr.refl _ _⟩) ?_
     refine Lx_q (i := 2) rfl rfl _ (fun v142 hv143 => R_loadA (cs := [[(.int .i64 (((nth l34 i).node).T))], [(.int .i64 (((nth l34 i).node).R))]]) Try.isAgg24 Try.sizeOf24 rfl rfl ((boxR_at ((H137.ext hv143).getOwn 0 rfl)).chunks 3 2 3 3 _ rfl rfl rfl) ⟨rfl, Gr.refl _ _⟩) ?_
     refine Lx_q (i := 3) rfl rfl (.int .i64 (findRow a ((nth l34 i).node))) (fun v144 hv145 => R_callL (vs := [(slV ha a), (aggOf (stampCh ((nth l34 i).node)))]) law14_DifferOrder_c16 rfl rfl (ref12_Find ha a ((nth l34 i).node) v144 ((H137.ext hv145).slOld 4 rfl))) ?_
     refine Lx_q (i := 4) rfl rfl _ (fun v146 hv147 => R_move (v := (slV hb b)) rfl ⟨rfl, Gr.refl _ _⟩) ?_
     refine Lx_q (i := 5) rfl rfl _ (fun v148 hv149 => R_fieldAddr (off := 3) (oo := 3) Try.underlying39 rfl rfl Try.sizeOf24 rfl rfl ⟨rfl, Gr.refl _ _⟩) ?_
     refine Lx_q (i := 6) rfl rfl _ (fun v150 hv151 => R_loadA (cs := [[(.int .i64 (((nth l34 i).node).T))], [(.int .i64 (((nth l34 i).node).R))]]) Try.isAgg24 Try.sizeOf24 rfl rfl ((boxR_at ((H137.ext hv151).getOwn 0 rfl)).chunks 3 2 3 3 _ rfl rfl rfl) ⟨rfl, Gr.refl _ _⟩) ?_
     refine Lx_q (i := 7) rfl rfl (.int .i64 (findRow b ((nth l34 i).node))) (fun v152 hv153 => R_callL (vs := [(slV hb b), (aggOf (stampCh ((nth l34 i).node)))]) law14_DifferOrder_c16 rfl rfl (ref12_Find hb b ((nth l34 i).node) v152 ((H137.ext hv153).slOld 2 rfl))) ?_
     refine Lx_q (i := 8) rfl rfl _ (fun v154 hv155 => R_assign (v := (.int .i64 (findRow a ((nth l34 i).node)))) rfl ⟨rfl, Gr.refl _ _⟩) ?_
     refine Lx_q (i := 9) rfl rfl _ (fun v156 hv157 => R_assign (v := (.int .i64 (findRow b ((nth l34 i).node)))) rfl ⟨rfl, Gr.refl _ _⟩) ?_
     refine Lx_nil (fun w158 hw159 => ?_)
     have H160 := H137.ext hw159
     refine Then_n (W_seq ?_)
     refine W_rgd TryMixed [(0, .q false), (1, .q false), (2, .q false), (3, .q false), (4, .q false), (5, .q false), (6, .q false), (7, .q false), (8, .q false), (9, .q false), (10, .q false), (11, .q false), (12, .q false), (13, .q false), (14, .q false), (15, .q false), (16, .q false), (17, .q false), (18, .q false), (19, .q false), (20, .q false), (21, .q false), (22, .q false), (23, .q false), (24, .q false), (25, .q false), (26, .q false), (27, .q false), (28, .q false), (29, .q false), (30, .q false), (31, .q false), (32, .q false), (33, .q false), (34, .q false), (35, .q false), (36, .q false), (37, .q false), (38, .q false), (39, .q false), (40, .q false), (41, .q false), (42, .q false), (43, .q false), (44, .q false), (45, .q false)] (by kernel_rfl) ?_
     refine Lx_q (i := 0) rfl rfl _ (fun v161 hv162 => R_fieldAddr (off := 0) (oo := 0) Try.underlying39 rfl rfl Try.sizeOf3 rfl rfl ⟨rfl, Gr.refl _ _⟩) ?_
     refine Lx_q (i := 1) rfl rfl _ (fun v163 hv164 => R_load1 (v := (.int .i64 ((nth l34 i).kind))) Try.isAgg3 rfl ((boxR_at ((H160.ext hv164).getOwn 0 rfl)).chunks 0 1 0 0 _ rfl rfl rfl) ⟨rfl, Gr.refl _ _⟩) ?_
     refine Lx_q (i := 2) rfl rfl _ (fun v165 hv166 => R_cmp (a := (nth l34 i).kind) (b := 1) (r := (decide ((nth l34 i).kind = 1))) rfl rfl rfl ⟨rfl, Gr.refl _ _⟩) ?_
     refine Lx_q (i := 3) rfl rfl _ (fun v167 hv168 => R_move (v := (.bool (decide ((nth l34 i).kind = 1)))) rfl ⟨rfl, Gr.refl _ _⟩) ?_
     refine Lx_qg (i := 4) true (decide ((nth l34 i).kind = 1)) rfl rfl rfl rfl rfl (decide ((nth l34 i).kind = 1)) ga_t _ (fun hA v169 hv170 => R_move (v := (.int .i64 (findRow a ((nth l34 i).node)))) rfl ⟨rfl, Gr.refl _ _⟩) ?_
     refine Lx_qg (i := 5) true (decide ((nth l34 i).kind = 1)) rfl rfl rfl rfl rfl (decide ((nth l34 i).kind = 1)) ga_t _ (fun hA v171 hv172 => R_cmp (a := findRow a ((nth l34 i).node)) (b := 0) (r := (decide (0 ≤ findRow a ((nth l34 i).node)))) (gv_t hA) rfl rfl ⟨rfl, Gr.refl _ _⟩) ?_
     refine Lx_q (i := 6) rfl rfl _ (fun v173 hv174 => R_pick (t := (decide ((nth l34 i).kind = 1))) (v := (.bool ((decide ((nth l34 i).kind = 1)) && (decide (0 ≤ findRow a ((nth l34 i).node)))))) rfl pk_and ⟨rfl, Gr.refl _ _⟩) ?_
     refine Lx_q (i := 7) rfl rfl _ (fun v175 hv176 => R_move (v := (.bool ((decide ((nth l34 i).kind = 1)) && (decide (0 ≤ findRow a ((nth l34 i).node)))))) rfl ⟨rfl, Gr.refl _ _⟩) ?_
     refine Lx_qg (i := 8) true ((decide ((nth l34 i).kind = 1)) && (decide (0 ≤ findRow a ((nth l34 i).node)))) rfl rfl rfl rfl rfl ((decide ((nth l34 i).kind = 1)) && (decide (0 ≤ findRow a ((nth l34 i).node)))) ga_t _ (fun hA v177 hv178 => R_move (v := (.int .i64 (findRow b ((nth l34 i).node)))) rfl ⟨rfl, Gr.refl _ _⟩) ?_
     refine Lx_qg (i := 9) true ((decide ((nth l34 i).kind = 1)) && (decide (0 ≤ findRow a ((nth l34 i).node)))) rfl rfl rfl rfl rfl ((decide ((nth l34 i).kind = 1)) && (decide (0 ≤ findRow a ((nth l34 i).node)))) ga_t _ (fun hA v179 hv180 => R_cmp (a := findRow b ((nth l34 i).node)) (b := 0) (r := (decide (0 ≤ findRow b ((nth l34 i).node)))) (gv_t hA) rfl rfl ⟨rfl, Gr.refl _ _⟩) ?_
     refine Lx_q (i := 10) rfl rfl _ (fun v181 hv182 => R_pick (t := ((decide ((nth l34 i).kind = 1)) && (decide (0 ≤ findRow a ((nth l34 i).node))))) (v := (.bool (((decide ((nth l34 i).kind = 1)) && (decide (0 ≤ findRow a ((nth l34 i).node)))) && (decide (0 ≤ findRow b ((nth l34 i).node)))))) rfl pk_and ⟨rfl, Gr.refl _ _⟩) ?_
     refine Lx_q (i := 11) rfl rfl _ (fun v183 hv184 => R_move (v := (.bool (((decide ((nth l34 i).kind = 1)) && (decide (0 ≤ findRow a ((nth l34 i).node)))) && (decide (0 ≤ findRow b ((nth l34 i).node)))))) rfl ⟨rfl, Gr.refl _ _⟩) ?_
     refine Lx_qg (i := 12) true (((decide ((nth l34 i).kind = 1)) && (decide (0 ≤ findRow a ((nth l34 i).node)))) && (decide (0 ≤ findRow b ((nth l34 i).node)))) rfl rfl rfl rfl rfl (((decide ((nth l34 i).kind = 1)) && (decide (0 ≤ findRow a ((nth l34 i).node)))) && (decide (0 ≤ findRow b ((nth l34 i).node)))) ga_t _ (fun hA v185 hv186 => R_move (v := (slV ha a)) rfl ⟨rfl, Gr.refl _ _⟩) ?_
     refine Lx_qg (i := 13) true (((decide ((nth l34 i).kind = 1)) && (decide (0 ≤ findRow a ((nth l34 i).node)))) && (decide (0 ≤ findRow b ((nth l34 i).node)))) rfl rfl rfl rfl rfl (((decide ((nth l34 i).kind = 1)) && (decide (0 ≤ findRow a ((nth l34 i).node)))) && (decide (0 ≤ findRow b ((nth l34 i).node)))) ga_t _ (fun hA v187 hv188 => R_move (v := (.int .i64 (findRow a ((nth l34 i).node)))) rfl ⟨rfl, Gr.refl _ _⟩) ?_
     refine Lx_qg (i := 14) true (((decide ((nth l34 i).kind = 1)) && (decide (0 ≤ findRow a ((nth l34 i).node)))) && (decide (0 ≤ findRow b ((nth l34 i).node)))) rfl rfl rfl rfl rfl (((decide ((nth l34 i).kind = 1)) && (decide (0 ≤ findRow a ((nth l34 i).node)))) && (decide (0 ≤ findRow b ((nth l34 i).node)))) ga_t _ (fun hA v189 hv190 => by
              have hP : ((((nth l34 i).kind = 1) ∧ (0 ≤ findRow a ((nth l34 i).node))) ∧ (0 ≤ findRow b ((nth l34 i).node))) := (And.imp (fun h => (And.imp (fun h => (of_decide_eq_true h)) (fun h => (of_decide_eq_true h)) (andT h))) (fun h => (of_decide_eq_true h)) (andT hA))
              exact R_index_pure (H160.sl 4 rfl) (n := a.length) rfl (j := findRow a ((nth l34 i).node)) (oo := (ha.o + ((findRow a ((nth l34 i).node)).toNat) * 8)) Try.underlying22 Try.sizeOf44 (gv_t hA) (gv_t hA) (by omega) (by omega) rfl ⟨rfl, Gr.refl _ _⟩) ?_
     refine Lx_qg (i := 15) true (((decide ((nth l34 i).kind = 1)) && (decide (0 ≤ findRow a ((nth l34 i).node)))) && (decide (0 ≤ findRow b ((nth l34 i).node)))) rfl rfl rfl rfl rfl (((decide ((nth l34 i).kind = 1)) && (decide (0 ≤ findRow a ((nth l34 i).node)))) && (decide (0 ≤ findRow b ((nth l34 i).node)))) ga_t _ (fun hA v191 hv192 => R_fieldAddr (off := 2) (oo := ((ha.o + ((findRow a ((nth l34 i).node)).toNat) * 8) + 2)) Try.underlying44 rfl rfl Try.sizeOf24 (gv_t hA) rfl ⟨rfl, Gr.refl _ _⟩) ?_
     refine Lx_qg (i := 16) true (((decide ((nth l34 i).kind = 1)) && (decide (0 ≤ findRow a ((nth l34 i).node)))) && (decide (0 ≤ findRow b ((nth l34 i).node)))) rfl rfl rfl rfl rfl (((decide ((nth l34 i).kind = 1)) && (decide (0 ≤ findRow a ((nth l34 i).node)))) && (decide (0 ≤ findRow b ((nth l34 i).node)))) ga_t _ (fun hA v193 hv194 => by
              have hP : ((((nth l34 i).kind = 1) ∧ (0 ≤ findRow a ((nth l34 i).node))) ∧ (0 ≤ findRow b ((nth l34 i).node))) := (And.imp (fun h => (And.imp (fun h => (of_decide_eq_true h)) (fun h => (of_decide_eq_true h)) (andT h))) (fun h => (of_decide_eq_true h)) (andT hA))
              exact R_loadA (cs := [[(.int .i64 (((nth a ((findRow a ((nth l34 i).node)).toNat)).par).T))], [(.int .i64 (((nth a ((findRow a ((nth l34 i).node)).toNat)).par).R))]]) Try.isAgg24 Try.sizeOf24 rfl (gv_t hA) ((Sl.elem ((H160.ext hv194).sl 4 rfl) (i := (findRow a ((nth l34 i).node)).toNat) (by omega) rfl).chunks 2 2 2 ((ha.o + ((findRow a ((nth l34 i).node)).toNat) * 8) + 2) _ rfl rfl rfl) ⟨rfl, Gr.refl _ _⟩) ?_
     refine Lx_qg (i := 17) true (((decide ((nth l34 i).kind = 1)) && (decide (0 ≤ findRow a ((nth l34 i).node)))) && (decide (0 ≤ findRow b ((nth l34 i).node)))) rfl rfl rfl rfl rfl (((decide ((nth l34 i).kind = 1)) && (decide (0 ≤ findRow a ((nth l34 i).node)))) && (decide (0 ≤ findRow b ((nth l34 i).node)))) ga_t _ (fun hA v195 hv196 => R_move (v := (slV hb b)) rfl ⟨rfl, Gr.refl _ _⟩) ?_
     refine Lx_qg (i := 18) true (((decide ((nth l34 i).kind = 1)) && (decide (0 ≤ findRow a ((nth l34 i).node)))) && (decide (0 ≤ findRow b ((nth l34 i).node)))) rfl rfl rfl rfl rfl (((decide ((nth l34 i).kind = 1)) && (decide (0 ≤ findRow a ((nth l34 i).node)))) && (decide (0 ≤ findRow b ((nth l34 i).node)))) ga_t _ (fun hA v197 hv198 => R_move (v := (.int .i64 (findRow b ((nth l34 i).node)))) rfl ⟨rfl, Gr.refl _ _⟩) ?_
     refine Lx_qg (i := 19) true (((decide ((nth l34 i).kind = 1)) && (decide (0 ≤ findRow a ((nth l34 i).node)))) && (decide (0 ≤ findRow b ((nth l34 i).node)))) rfl rfl rfl rfl rfl (((decide ((nth l34 i).kind = 1)) && (decide (0 ≤ findRow a ((nth l34 i).node)))) && (decide (0 ≤ findRow b ((nth l34 i).node)))) ga_t _ (fun hA v199 hv200 => by
              have hP : ((((nth l34 i).kind = 1) ∧ (0 ≤ findRow a ((nth l34 i).node))) ∧ (0 ≤ findRow b ((nth l34 i).node))) := (And.imp (fun h => (And.imp (fun h => (of_decide_eq_true h)) (fun h => (of_decide_eq_true h)) (andT h))) (fun h => (of_decide_eq_true h)) (andT hA))
              exact R_index_pure (H160.sl 2 rfl) (n := b.length) rfl (j := findRow b ((nth l34 i).node)) (oo := (hb.o + ((findRow b ((nth l34 i).node)).toNat) * 8)) Try.underlying22 Try.sizeOf44 (gv_t hA) (gv_t hA) (by omega) (by omega) rfl ⟨rfl, Gr.refl _ _⟩) ?_
     refine Lx_qg (i := 20) true (((decide ((nth l34 i).kind = 1)) && (decide (0 ≤ findRow a ((nth l34 i).node)))) && (decide (0 ≤ findRow b ((nth l34 i).node)))) rfl rfl rfl rfl rfl (((decide ((nth l34 i).kind = 1)) && (decide (0 ≤ findRow a ((nth l34 i).node)))) && (decide (0 ≤ findRow b ((nth l34 i).node)))) ga_t _ (fun hA v201 hv202 => R_fieldAddr (off := 2) (oo := ((hb.o + ((findRow b ((nth l34 i).node)).toNat) * 8) + 2)) Try.underlying44 rfl rfl Try.sizeOf24 (gv_t hA) rfl ⟨rfl, Gr.refl _ _⟩) ?_
     refine Lx_qg (i := 21) true (((decide ((nth l34 i).kind = 1)) && (decide (0 ≤ findRow a ((nth l34 i).node)))) && (decide (0 ≤ findRow b ((nth l34 i).node)))) rfl rfl rfl rfl rfl (((decide ((nth l34 i).kind = 1)) && (decide (0 ≤ findRow a ((nth l34 i).node)))) && (decide (0 ≤ findRow b ((nth l34 i).node)))) ga_t _ (fun hA v203 hv204 => by
              have hP : ((((nth l34 i).kind = 1) ∧ (0 ≤ findRow a ((nth l34 i).node))) ∧ (0 ≤ findRow b ((nth l34 i).node))) := (And.imp (fun h => (And.imp (fun h => (of_decide_eq_true h)) (fun h => (of_decide_eq_true h)) (andT h))) (fun h => (of_decide_eq_true h)) (andT hA))
              exact R_loadA (cs := [[(.int .i64 (((nth b ((findRow b ((nth l34 i).node)).toNat)).par).T))], [(.int .i64 (((nth b ((findRow b ((nth l34 i).node)).toNat)).par).R))]]) Try.isAgg24 Try.sizeOf24 rfl (gv_t hA) ((Sl.elem ((H160.ext hv204).sl 2 rfl) (i := (findRow b ((nth l34 i).node)).toNat) (by omega) rfl).chunks 2 2 2 ((hb.o + ((findRow b ((nth l34 i).node)).toNat) * 8) + 2) _ rfl rfl rfl) ⟨rfl, Gr.refl _ _⟩) ?_
     refine Lx_qg (i := 22) true (((decide ((nth l34 i).kind = 1)) && (decide (0 ≤ findRow a ((nth l34 i).node)))) && (decide (0 ≤ findRow b ((nth l34 i).node)))) rfl rfl rfl rfl rfl (((decide ((nth l34 i).kind = 1)) && (decide (0 ≤ findRow a ((nth l34 i).node)))) && (decide (0 ≤ findRow b ((nth l34 i).node)))) ga_t _ (fun hA v205 hv206 => R_eqv (a := ((nth a ((findRow a ((nth l34 i).node)).toNat)).par)) (b := ((nth b ((findRow b ((nth l34 i).node)).toNat)).par)) eqv_Stamp24 rfl Try.eqGuardType24 (gv_t hA) (gv_t hA) ⟨rfl, Gr.refl _ _⟩) ?_
     refine Lx_q (i := 23) rfl rfl _ (fun v207 hv208 => R_pick (t := (((decide ((nth l34 i).kind = 1)) && (decide (0 ≤ findRow a ((nth l34 i).node)))) && (decide (0 ≤ findRow b ((nth l34 i).node))))) (v := (.bool ((((decide ((nth l34 i).kind = 1)) && (decide (0 ≤ findRow a ((nth l34 i).node)))) && (decide (0 ≤ findRow b ((nth l34 i).node)))) && (decide (((nth a ((findRow a ((nth l34 i).node)).toNat)).par) = ((nth b ((findRow b ((nth l34 i).node)).toNat)).par)))))) rfl pk_and ⟨rfl, Gr.refl _ _⟩) ?_
     refine Lx_q (i := 24) rfl rfl _ (fun v209 hv210 => R_move (v := (.bool ((((decide ((nth l34 i).kind = 1)) && (decide (0 ≤ findRow a ((nth l34 i).node)))) && (decide (0 ≤ findRow b ((nth l34 i).node)))) && (decide (((nth a ((findRow a ((nth l34 i).node)).toNat)).par) = ((nth b ((findRow b ((nth l34 i).node)).toNat)).par)))))) rfl ⟨rfl, Gr.refl _ _⟩) ?_
     refine Lx_qg (i := 25) true ((((decide ((nth l34 i).kind = 1)) && (decide (0 ≤ findRow a ((nth l34 i).node)))) && (decide (0 ≤ findRow b ((nth l34 i).node)))) && (decide (((nth a ((findRow a ((nth l34 i).node)).toNat)).par) = ((nth b ((findRow b ((nth l34 i).node)).toNat)).par)))) rfl rfl rfl rfl rfl ((((decide ((nth l34 i).kind = 1)) && (decide (0 ≤ findRow a ((nth l34 i).node)))) && (decide (0 ≤ findRow b ((nth l34 i).node)))) && (decide (((nth a ((findRow a ((nth l34 i).node)).toNat)).par) = ((nth b ((findRow b ((nth l34 i).node)).toNat)).par)))) ga_t _ (fun hA v211 hv212 => R_move (v := (slV ha a)) rfl ⟨rfl, Gr.refl _ _⟩) ?_
     refine Lx_qg (i := 26) true ((((decide ((nth l34 i).kind = 1)) && (decide (0 ≤ findRow a ((nth l34 i).node)))) && (decide (0 ≤ findRow b ((nth l34 i).node)))) && (decide (((nth a ((findRow a ((nth l34 i).node)).toNat)).par) = ((nth b ((findRow b ((nth l34 i).node)).toNat)).par)))) rfl rfl rfl rfl rfl ((((decide ((nth l34 i).kind = 1)) && (decide (0 ≤ findRow a ((nth l34 i).node)))) && (decide (0 ≤ findRow b ((nth l34 i).node)))) && (decide (((nth a ((findRow a ((nth l34 i).node)).toNat)).par) = ((nth b ((findRow b ((nth l34 i).node)).toNat)).par)))) ga_t _ (fun hA v213 hv214 => R_move (v := (.int .i64 (findRow a ((nth l34 i).node)))) rfl ⟨rfl, Gr.refl _ _⟩) ?_
     refine Lx_qg (i := 27) true ((((decide ((nth l34 i).kind = 1)) && (decide (0 ≤ findRow a ((nth l34 i).node)))) && (decide (0 ≤ findRow b ((nth l34 i).node)))) && (decide (((nth a ((findRow a ((nth l34 i).node)).toNat)).par) = ((nth b ((findRow b ((nth l34 i).node)).toNat)).par)))) rfl rfl rfl rfl rfl ((((decide ((nth l34 i).kind = 1)) && (decide (0 ≤ findRow a ((nth l34 i).node)))) && (decide (0 ≤ findRow b ((nth l34 i).node)))) && (decide (((nth a ((findRow a ((nth l34 i).node)).toNat)).par) = ((nth b ((findRow b ((nth l34 i).node)).toNat)).par)))) ga_t _ (fun hA v215 hv216 => by
              have hP : (((((nth l34 i).kind = 1) ∧ (0 ≤ findRow a ((nth l34 i).node))) ∧ (0 ≤ findRow b ((nth l34 i).node))) ∧ (((nth a ((findRow a ((nth l34 i).node)).toNat)).par) = ((nth b ((findRow b ((nth l34 i).node)).toNat)).par))) := (And.imp (fun h => (And.imp (fun h => (And.imp (fun h => (of_decide_eq_true h)) (fun h => (of_decide_eq_true h)) (andT h))) (fun h => (of_decide_eq_true h)) (andT h))) (fun h => (of_decide_eq_true h)) (andT hA))
              exact R_index_pure (H160.sl 4 rfl) (n := a.length) rfl (j := findRow a ((nth l34 i).node)) (oo := (ha.o + ((findRow a ((nth l34 i).node)).toNat) * 8)) Try.underlying22 Try.sizeOf44 (gv_t hA) (gv_t hA) (by omega) (by omega) rfl ⟨rfl, Gr.refl _ _⟩) ?_
     refine Lx_qg (i := 28) true ((((decide ((nth l34 i).kind = 1)) && (decide (0 ≤ findRow a ((nth l34 i).node)))) && (decide (0 ≤ findRow b ((nth l34 i).node)))) && (decide (((nth a ((findRow a ((nth l34 i).node)).toNat)).par) = ((nth b ((findRow b ((nth l34 i).node)).toNat)).par)))) rfl rfl rfl rfl rfl ((((decide ((nth l34 i).kind = 1)) && (decide (0 ≤ findRow a ((nth l34 i).node)))) && (decide (0 ≤ findRow b ((nth l34 i).node)))) && (decide (((nth a ((findRow a ((nth l34 i).node)).toNat)).par) = ((nth b ((findRow b ((nth l34 i).node)).toNat)).par)))) ga_t _ (fun hA v217 hv218 => R_fieldAddr (off := 6) (oo := ((ha.o + ((findRow a ((nth l34 i).node)).toNat) * 8) + 6)) Try.underlying44 rfl rfl Try.sizeOf9 (gv_t hA) rfl ⟨rfl, Gr.refl _ _⟩) ?_
     refine Lx_qg (i := 29) true ((((decide ((nth l34 i).kind = 1)) && (decide (0 ≤ findRow a ((nth l34 i).node)))) && (decide (0 ≤ findRow b ((nth l34 i).node)))) && (decide (((nth a ((findRow a ((nth l34 i).node)).toNat)).par) = ((nth b ((findRow b ((nth l34 i).node)).toNat)).par)))) rfl rfl rfl rfl rfl ((((decide ((nth l34 i).kind = 1)) && (decide (0 ≤ findRow a ((nth l34 i).node)))) && (decide (0 ≤ findRow b ((nth l34 i).node)))) && (decide (((nth a ((findRow a ((nth l34 i).node)).toNat)).par) = ((nth b ((findRow b ((nth l34 i).node)).toNat)).par)))) ga_t _ (fun hA v219 hv220 => by
              have hP : (((((nth l34 i).kind = 1) ∧ (0 ≤ findRow a ((nth l34 i).node))) ∧ (0 ≤ findRow b ((nth l34 i).node))) ∧ (((nth a ((findRow a ((nth l34 i).node)).toNat)).par) = ((nth b ((findRow b ((nth l34 i).node)).toNat)).par))) := (And.imp (fun h => (And.imp (fun h => (And.imp (fun h => (of_decide_eq_true h)) (fun h => (of_decide_eq_true h)) (andT h))) (fun h => (of_decide_eq_true h)) (andT h))) (fun h => (of_decide_eq_true h)) (andT hA))
              exact R_load1 (v := (.string ((nth a ((findRow a ((nth l34 i).node)).toNat)).name))) Try.isAgg9 (gv_t hA) ((Sl.elem ((H160.ext hv220).sl 4 rfl) (i := (findRow a ((nth l34 i).node)).toNat) (by omega) rfl).chunks 6 1 6 ((ha.o + ((findRow a ((nth l34 i).node)).toNat) * 8) + 6) _ rfl rfl rfl) ⟨rfl, Gr.refl _ _⟩) ?_
     refine Lx_qg (i := 30) true ((((decide ((nth l34 i).kind = 1)) && (decide (0 ≤ findRow a ((nth l34 i).node)))) && (decide (0 ≤ findRow b ((nth l34 i).node)))) && (decide (((nth a ((findRow a ((nth l34 i).node)).toNat)).par) = ((nth b ((findRow b ((nth l34 i).node)).toNat)).par)))) rfl rfl rfl rfl rfl ((((decide ((nth l34 i).kind = 1)) && (decide (0 ≤ findRow a ((nth l34 i).node)))) && (decide (0 ≤ findRow b ((nth l34 i).node)))) && (decide (((nth a ((findRow a ((nth l34 i).node)).toNat)).par) = ((nth b ((findRow b ((nth l34 i).node)).toNat)).par)))) ga_t _ (fun hA v221 hv222 => R_move (v := (slV hb b)) rfl ⟨rfl, Gr.refl _ _⟩) ?_
     refine Lx_qg (i := 31) true ((((decide ((nth l34 i).kind = 1)) && (decide (0 ≤ findRow a ((nth l34 i).node)))) && (decide (0 ≤ findRow b ((nth l34 i).node)))) && (decide (((nth a ((findRow a ((nth l34 i).node)).toNat)).par) = ((nth b ((findRow b ((nth l34 i).node)).toNat)).par)))) rfl rfl rfl rfl rfl ((((decide ((nth l34 i).kind = 1)) && (decide (0 ≤ findRow a ((nth l34 i).node)))) && (decide (0 ≤ findRow b ((nth l34 i).node)))) && (decide (((nth a ((findRow a ((nth l34 i).node)).toNat)).par) = ((nth b ((findRow b ((nth l34 i).node)).toNat)).par)))) ga_t _ (fun hA v223 hv224 => R_move (v := (.int .i64 (findRow b ((nth l34 i).node)))) rfl ⟨rfl, Gr.refl _ _⟩) ?_
     refine Lx_qg (i := 32) true ((((decide ((nth l34 i).kind = 1)) && (decide (0 ≤ findRow a ((nth l34 i).node)))) && (decide (0 ≤ findRow b ((nth l34 i).node)))) && (decide (((nth a ((findRow a ((nth l34 i).node)).toNat)).par) = ((nth b ((findRow b ((nth l34 i).node)).toNat)).par)))) rfl rfl rfl rfl rfl ((((decide ((nth l34 i).kind = 1)) && (decide (0 ≤ findRow a ((nth l34 i).node)))) && (decide (0 ≤ findRow b ((nth l34 i).node)))) && (decide (((nth a ((findRow a ((nth l34 i).node)).toNat)).par) = ((nth b ((findRow b ((nth l34 i).node)).toNat)).par)))) ga_t _ (fun hA v225 hv226 => by
              have hP : (((((nth l34 i).kind = 1) ∧ (0 ≤ findRow a ((nth l34 i).node))) ∧ (0 ≤ findRow b ((nth l34 i).node))) ∧ (((nth a ((findRow a ((nth l34 i).node)).toNat)).par) = ((nth b ((findRow b ((nth l34 i).node)).toNat)).par))) := (And.imp (fun h => (And.imp (fun h => (And.imp (fun h => (of_decide_eq_true h)) (fun h => (of_decide_eq_true h)) (andT h))) (fun h => (of_decide_eq_true h)) (andT h))) (fun h => (of_decide_eq_true h)) (andT hA))
              exact R_index_pure (H160.sl 2 rfl) (n := b.length) rfl (j := findRow b ((nth l34 i).node)) (oo := (hb.o + ((findRow b ((nth l34 i).node)).toNat) * 8)) Try.underlying22 Try.sizeOf44 (gv_t hA) (gv_t hA) (by omega) (by omega) rfl ⟨rfl, Gr.refl _ _⟩) ?_
     refine Lx_qg (i := 33) true ((((decide ((nth l34 i).kind = 1)) && (decide (0 ≤ findRow a ((nth l34 i).node)))) && (decide (0 ≤ findRow b ((nth l34 i).node)))) && (decide (((nth a ((findRow a ((nth l34 i).node)).toNat)).par) = ((nth b ((findRow b ((nth l34 i).node)).toNat)).par)))) rfl rfl rfl rfl rfl ((((decide ((nth l34 i).kind = 1)) && (decide (0 ≤ findRow a ((nth l34 i).node)))) && (decide (0 ≤ findRow b ((nth l34 i).node)))) && (decide (((nth a ((findRow a ((nth l34 i).node)).toNat)).par) = ((nth b ((findRow b ((nth l34 i).node)).toNat)).par)))) ga_t _ (fun hA v227 hv228 => R_fieldAddr (off := 6) (oo := ((hb.o + ((findRow b ((nth l34 i).node)).toNat) * 8) + 6)) Try.underlying44 rfl rfl Try.sizeOf9 (gv_t hA) rfl ⟨rfl, Gr.refl _ _⟩) ?_
     refine Lx_qg (i := 34) true ((((decide ((nth l34 i).kind = 1)) && (decide (0 ≤ findRow a ((nth l34 i).node)))) && (decide (0 ≤ findRow b ((nth l34 i).node)))) && (decide (((nth a ((findRow a ((nth l34 i).node)).toNat)).par) = ((nth b ((findRow b ((nth l34 i).node)).toNat)).par)))) rfl rfl rfl rfl rfl ((((decide ((nth l34 i).kind = 1)) && (decide (0 ≤ findRow a ((nth l34 i).node)))) && (decide (0 ≤ findRow b ((nth l34 i).node)))) && (decide (((nth a ((findRow a ((nth l34 i).node)).toNat)).par) = ((nth b ((findRow b ((nth l34 i).node)).toNat)).par)))) ga_t _ (fun hA v229 hv230 => by
              have hP : (((((nth l34 i).kind = 1) ∧ (0 ≤ findRow a ((nth l34 i).node))) ∧ (0 ≤ findRow b ((nth l34 i).node))) ∧ (((nth a ((findRow a ((nth l34 i).node)).toNat)).par) = ((nth b ((findRow b ((nth l34 i).node)).toNat)).par))) := (And.imp (fun h => (And.imp (fun h => (And.imp (fun h => (of_decide_eq_true h)) (fun h => (of_decide_eq_true h)) (andT h))) (fun h => (of_decide_eq_true h)) (andT h))) (fun h => (of_decide_eq_true h)) (andT hA))
              exact R_load1 (v := (.string ((nth b ((findRow b ((nth l34 i).node)).toNat)).name))) Try.isAgg9 (gv_t hA) ((Sl.elem ((H160.ext hv230).sl 2 rfl) (i := (findRow b ((nth l34 i).node)).toNat) (by omega) rfl).chunks 6 1 6 ((hb.o + ((findRow b ((nth l34 i).node)).toNat) * 8) + 6) _ rfl rfl rfl) ⟨rfl, Gr.refl _ _⟩) ?_
     refine Lx_qg (i := 35) true ((((decide ((nth l34 i).kind = 1)) && (decide (0 ≤ findRow a ((nth l34 i).node)))) && (decide (0 ≤ findRow b ((nth l34 i).node)))) && (decide (((nth a ((findRow a ((nth l34 i).node)).toNat)).par) = ((nth b ((findRow b ((nth l34 i).node)).toNat)).par)))) rfl rfl rfl rfl rfl ((((decide ((nth l34 i).kind = 1)) && (decide (0 ≤ findRow a ((nth l34 i).node)))) && (decide (0 ≤ findRow b ((nth l34 i).node)))) && (decide (((nth a ((findRow a ((nth l34 i).node)).toNat)).par) = ((nth b ((findRow b ((nth l34 i).node)).toNat)).par)))) ga_t _ (fun hA v231 hv232 => R_cmpS (a := (nth a ((findRow a ((nth l34 i).node)).toNat)).name) (b := (nth b ((findRow b ((nth l34 i).node)).toNat)).name) (r := (decide ((nth a ((findRow a ((nth l34 i).node)).toNat)).name = (nth b ((findRow b ((nth l34 i).node)).toNat)).name))) (gv_t hA) (gv_t hA) rfl ⟨rfl, Gr.refl _ _⟩) ?_
     refine Lx_q (i := 36) rfl rfl _ (fun v233 hv234 => R_pick (t := ((((decide ((nth l34 i).kind = 1)) && (decide (0 ≤ findRow a ((nth l34 i).node)))) && (decide (0 ≤ findRow b ((nth l34 i).node)))) && (decide (((nth a ((findRow a ((nth l34 i).node)).toNat)).par) = ((nth b ((findRow b ((nth l34 i).node)).toNat)).par))))) (v := (.bool (((((decide ((nth l34 i).kind = 1)) && (decide (0 ≤ findRow a ((nth l34 i).node)))) && (decide (0 ≤ findRow b ((nth l34 i).node)))) && (decide (((nth a ((findRow a ((nth l34 i).node)).toNat)).par) = ((nth b ((findRow b ((nth l34 i).node)).toNat)).par)))) && (decide ((nth a ((findRow a ((nth l34 i).node)).toNat)).name = (nth b ((findRow b ((nth l34 i).node)).toNat)).name))))) rfl pk_and ⟨rfl, Gr.refl _ _⟩) ?_
     refine Lx_q (i := 37) rfl rfl _ (fun v235 hv236 => R_move (v := (.bool (((((decide ((nth l34 i).kind = 1)) && (decide (0 ≤ findRow a ((nth l34 i).node)))) && (decide (0 ≤ findRow b ((nth l34 i).node)))) && (decide (((nth a ((findRow a ((nth l34 i).node)).toNat)).par) = ((nth b ((findRow b ((nth l34 i).node)).toNat)).par)))) && (decide ((nth a ((findRow a ((nth l34 i).node)).toNat)).name = (nth b ((findRow b ((nth l34 i).node)).toNat)).name))))) rfl ⟨rfl, Gr.refl _ _⟩) ?_
     refine Lx_qg (i := 38) true (((((decide ((nth l34 i).kind = 1)) && (decide (0 ≤ findRow a ((nth l34 i).node)))) && (decide (0 ≤ findRow b ((nth l34 i).node)))) && (decide (((nth a ((findRow a ((nth l34 i).node)).toNat)).par) = ((nth b ((findRow b ((nth l34 i).node)).toNat)).par)))) && (decide ((nth a ((findRow a ((nth l34 i).node)).toNat)).name = (nth b ((findRow b ((nth l34 i).node)).toNat)).name))) rfl rfl rfl rfl rfl (!(((((decide ((nth l34 i).kind = 1)) && (decide (0 ≤ findRow a ((nth l34 i).node)))) && (decide (0 ≤ findRow b ((nth l34 i).node)))) && (decide (((nth a ((findRow a ((nth l34 i).node)).toNat)).par) = ((nth b ((findRow b ((nth l34 i).node)).toNat)).par)))) && (decide ((nth a ((findRow a ((nth l34 i).node)).toNat)).name = (nth b ((findRow b ((nth l34 i).node)).toNat)).name)))) ga_f _ (fun hA v237 hv238 => R_fieldAddr (off := 0) (oo := 0) Try.underlying39 rfl rfl Try.sizeOf3 rfl rfl ⟨rfl, Gr.refl _ _⟩) ?_
     refine Lx_qg (i := 39) true (((((decide ((nth l34 i).kind = 1)) && (decide (0 ≤ findRow a ((nth l34 i).node)))) && (decide (0 ≤ findRow b ((nth l34 i).node)))) && (decide (((nth a ((findRow a ((nth l34 i).node)).toNat)).par) = ((nth b ((findRow b ((nth l34 i).node)).toNat)).par)))) && (decide ((nth a ((findRow a ((nth l34 i).node)).toNat)).name = (nth b ((findRow b ((nth l34 i).node)).toNat)).name))) rfl rfl rfl rfl rfl (!(((((decide ((nth l34 i).kind = 1)) && (decide (0 ≤ findRow a ((nth l34 i).node)))) && (decide (0 ≤ findRow b ((nth l34 i).node)))) && (decide (((nth a ((findRow a ((nth l34 i).node)).toNat)).par) = ((nth b ((findRow b ((nth l34 i).node)).toNat)).par)))) && (decide ((nth a ((findRow a ((nth l34 i).node)).toNat)).name = (nth b ((findRow b ((nth l34 i).node)).toNat)).name)))) ga_f _ (fun hA v239 hv240 => R_load1 (v := (.int .i64 ((nth l34 i).kind))) Try.isAgg3 (gv_t hA) ((boxR_at ((H160.ext hv240).getOwn 0 rfl)).chunks 0 1 0 0 _ rfl rfl rfl) ⟨rfl, Gr.refl _ _⟩) ?_
     refine Lx_qg (i := 40) true (((((decide ((nth l34 i).kind = 1)) && (decide (0 ≤ findRow a ((nth l34 i).node)))) && (decide (0 ≤ findRow b ((nth l34 i).node)))) && (decide (((nth a ((findRow a ((nth l34 i).node)).toNat)).par) = ((nth b ((findRow b ((nth l34 i).node)).toNat)).par)))) && (decide ((nth a ((findRow a ((nth l34 i).node)).toNat)).name = (nth b ((findRow b ((nth l34 i).node)).toNat)).name))) rfl rfl rfl rfl rfl (!(((((decide ((nth l34 i).kind = 1)) && (decide (0 ≤ findRow a ((nth l34 i).node)))) && (decide (0 ≤ findRow b ((nth l34 i).node)))) && (decide (((nth a ((findRow a ((nth l34 i).node)).toNat)).par) = ((nth b ((findRow b ((nth l34 i).node)).toNat)).par)))) && (decide ((nth a ((findRow a ((nth l34 i).node)).toNat)).name = (nth b ((findRow b ((nth l34 i).node)).toNat)).name)))) ga_f _ (fun hA v241 hv242 => R_cmp (a := (nth l34 i).kind) (b := 2) (r := (decide ((nth l34 i).kind = 2))) (gv_t hA) rfl rfl ⟨rfl, Gr.refl _ _⟩) ?_
     refine Lx_qg (i := 41) true (((((decide ((nth l34 i).kind = 1)) && (decide (0 ≤ findRow a ((nth l34 i).node)))) && (decide (0 ≤ findRow b ((nth l34 i).node)))) && (decide (((nth a ((findRow a ((nth l34 i).node)).toNat)).par) = ((nth b ((findRow b ((nth l34 i).node)).toNat)).par)))) && (decide ((nth a ((findRow a ((nth l34 i).node)).toNat)).name = (nth b ((findRow b ((nth l34 i).node)).toNat)).name))) rfl rfl rfl rfl rfl (!(((((decide ((nth l34 i).kind = 1)) && (decide (0 ≤ findRow a ((nth l34 i).node)))) && (decide (0 ≤ findRow b ((nth l34 i).node)))) && (decide (((nth a ((findRow a ((nth l34 i).node)).toNat)).par) = ((nth b ((findRow b ((nth l34 i).node)).toNat)).par)))) && (decide ((nth a ((findRow a ((nth l34 i).node)).toNat)).name = (nth b ((findRow b ((nth l34 i).node)).toNat)).name)))) ga_f _ (fun hA v243 hv244 => R_move (v := (.bool (decide ((nth l34 i).kind = 2)))) (gv_t hA) ⟨rfl, Gr.refl _ _⟩) ?_
     refine Lx_qg (i := 42) (!(((((decide ((nth l34 i).kind = 1)) && (decide (0 ≤ findRow a ((nth l34 i).node)))) && (decide (0 ≤ findRow b ((nth l34 i).node)))) && (decide (((nth a ((findRow a ((nth l34 i).node)).toNat)).par) = ((nth b ((findRow b ((nth l34 i).node)).toNat)).par)))) && (decide ((nth a ((findRow a ((nth l34 i).node)).toNat)).name = (nth b ((findRow b ((nth l34 i).node)).toNat)).name)))) (decide ((nth l34 i).kind = 2)) rfl rfl rfl rfl rfl ((!(((((decide ((nth l34 i).kind = 1)) && (decide (0 ≤ findRow a ((nth l34 i).node)))) && (decide (0 ≤ findRow b ((nth l34 i).node)))) && (decide (((nth a ((findRow a ((nth l34 i).node)).toNat)).par) = ((nth b ((findRow b ((nth l34 i).node)).toNat)).par)))) && (decide ((nth a ((findRow a ((nth l34 i).node)).toNat)).name = (nth b ((findRow b ((nth l34 i).node)).toNat)).name)))) && (decide ((nth l34 i).kind = 2))) gb_t _ (fun hA v245 hv246 => R_move (v := (.int .i64 (findRow b ((nth l34 i).node)))) rfl ⟨rfl, Gr.refl _ _⟩) ?_
     refine Lx_qg (i := 43) (!(((((decide ((nth l34 i).kind = 1)) && (decide (0 ≤ findRow a ((nth l34 i).node)))) && (decide (0 ≤ findRow b ((nth l34 i).node)))) && (decide (((nth a ((findRow a ((nth l34 i).node)).toNat)).par) = ((nth b ((findRow b ((nth l34 i).node)).toNat)).par)))) && (decide ((nth a ((findRow a ((nth l34 i).node)).toNat)).name = (nth b ((findRow b ((nth l34 i).node)).toNat)).name)))) (decide ((nth l34 i).kind = 2)) rfl rfl rfl rfl rfl ((!(((((decide ((nth l34 i).kind = 1)) && (decide (0 ≤ findRow a ((nth l34 i).node)))) && (decide (0 ≤ findRow b ((nth l34 i).node)))) && (decide (((nth a ((findRow a ((nth l34 i).node)).toNat)).par) = ((nth b ((findRow b ((nth l34 i).node)).toNat)).par)))) && (decide ((nth a ((findRow a ((nth l34 i).node)).toNat)).name = (nth b ((findRow b ((nth l34 i).node)).toNat)).name)))) && (decide ((nth l34 i).kind = 2))) gb_t _ (fun hA v247 hv248 => R_cmp (a := findRow b ((nth l34 i).node)) (b := 0) (r := (decide (findRow b ((nth l34 i).node) < 0))) (gv_t hA) rfl rfl ⟨rfl, Gr.refl _ _⟩) ?_
     refine Lx_qg (i := 44) true (((((decide ((nth l34 i).kind = 1)) && (decide (0 ≤ findRow a ((nth l34 i).node)))) && (decide (0 ≤ findRow b ((nth l34 i).node)))) && (decide (((nth a ((findRow a ((nth l34 i).node)).toNat)).par) = ((nth b ((findRow b ((nth l34 i).node)).toNat)).par)))) && (decide ((nth a ((findRow a ((nth l34 i).node)).toNat)).name = (nth b ((findRow b ((nth l34 i).node)).toNat)).name))) rfl rfl rfl rfl rfl (!(((((decide ((nth l34 i).kind = 1)) && (decide (0 ≤ findRow a ((nth l34 i).node)))) && (decide (0 ≤ findRow b ((nth l34 i).node)))) && (decide (((nth a ((findRow a ((nth l34 i).node)).toNat)).par) = ((nth b ((findRow b ((nth l34 i).node)).toNat)).par)))) && (decide ((nth a ((findRow a ((nth l34 i).node)).toNat)).name = (nth b ((findRow b ((nth l34 i).node)).toNat)).name)))) ga_f _ (fun hA v249 hv250 => R_pick (t := (decide ((nth l34 i).kind = 2))) (v := (.bool ((decide ((nth l34 i).kind = 2)) && (decide (findRow b ((nth l34 i).node) < 0))))) (gv_t hA) (pk_andA hA) ⟨rfl, Gr.refl _ _⟩) ?_
     refine Lx_q (i := 45) rfl rfl _ (fun v251 hv252 => R_pick (t := (((((decide ((nth l34 i).kind = 1)) && (decide (0 ≤ findRow a ((nth l34 i).node)))) && (decide (0 ≤ findRow b ((nth l34 i).node)))) && (decide (((nth a ((findRow a ((nth l34 i).node)).toNat)).par) = ((nth b ((findRow b ((nth l34 i).node)).toNat)).par)))) && (decide ((nth a ((findRow a ((nth l34 i).node)).toNat)).name = (nth b ((findRow b ((nth l34 i).node)).toNat)).name)))) (v := (.bool ((((((decide ((nth l34 i).kind = 1)) && (decide (0 ≤ findRow a ((nth l34 i).node)))) && (decide (0 ≤ findRow b ((nth l34 i).node)))) && (decide (((nth a ((findRow a ((nth l34 i).node)).toNat)).par) = ((nth b ((findRow b ((nth l34 i).node)).toNat)).par)))) && (decide ((nth a ((findRow a ((nth l34 i).node)).toNat)).name = (nth b ((findRow b ((nth l34 i).node)).toNat)).name))) || ((decide ((nth l34 i).kind = 2)) && (decide (findRow b ((nth l34 i).node) < 0)))))) rfl pk_or ⟨rfl, Gr.refl _ _⟩) ?_
     refine Lx_nil (fun w253 hw254 => ?_)
     have H255 := H160.ext hw254
     refine Then_n ?_
     refine W_cond (t := ((((((decide ((nth l34 i).kind = 1)) && (decide (0 ≤ findRow a ((nth l34 i).node)))) && (decide (0 ≤ findRow b ((nth l34 i).node)))) && (decide (((nth a ((findRow a ((nth l34 i).node)).toNat)).par) = ((nth b ((findRow b ((nth l34 i).node)).toNat)).par)))) && (decide ((nth a ((findRow a ((nth l34 i).node)).toNat)).name = (nth b ((findRow b ((nth l34 i).node)).toNat)).name))) || ((decide ((nth l34 i).kind = 2)) && (decide (findRow b ((nth l34 i).node) < 0))))) rfl (fun hc256 => ?_) (fun hc256 => ?_)
     ·have hc256 : (((((((nth l34 i).kind = 1) ∧ (0 ≤ findRow a ((nth l34 i).node))) ∧ (0 ≤ findRow b ((nth l34 i).node))) ∧ (((nth a ((findRow a ((nth l34 i).node)).toNat)).par) = ((nth b ((findRow b ((nth l34 i).node)).toNat)).par))) ∧ ((nth a ((findRow a ((nth l34 i).node)).toNat)).name = (nth b ((findRow b ((nth l34 i).node)).toNat)).name)) ∨ (((nth l34 i).kind = 2) ∧ (findRow b ((nth l34 i).node) < 0))) := (Or.imp (fun h => (And.imp (fun h => (And.imp (fun h => (And.imp (fun h => (And.imp (fun h => (of_decide_eq_true h)) (fun h => (of_decide_eq_true h)) (andT h))) (fun h => (of_decide_eq_true h)) (andT h))) (fun h => (of_decide_eq_true h)) (andT h))) (fun h => (of_decide_eq_true h)) (andT h))) (fun h => (And.imp (fun h => (of_decide_eq_true h)) (fun h => (of_decide_eq_true h)) (andT h))) (orT hc256))
      refine W_seq (W_reg ?_)
      refine O_v rfl (R_assign (v := (.bool false)) rfl ?_)
      refine O_nil (Then_n (W_ret (Blk_r (Then_r (Then_r (Blk_r (Then_r ?_)))))))
      refine ret_1 (v := (.bool false)) Try.results4 rfl ?_
      exact ⟨(order_f2 (hO.2.2 i (by omega)) (by assumption)).elim, H255.gr⟩
     ·have hc256 : (((((¬ ((nth l34 i).kind = 1) ∨ ¬ (0 ≤ findRow a ((nth l34 i).node))) ∨ ¬ (0 ≤ findRow b ((nth l34 i).node))) ∨ ¬ (((nth a ((findRow a ((nth l34 i).node)).toNat)).par) = ((nth b ((findRow b ((nth l34 i).node)).toNat)).par))) ∨ ¬ ((nth a ((findRow a ((nth l34 i).node)).toNat)).name = (nth b ((findRow b ((nth l34 i).node)).toNat)).name)) ∧ (¬ ((nth l34 i).kind = 2) ∨ ¬ (findRow b ((nth l34 i).node) < 0))) := (And.imp (fun h => (Or.imp (fun h => (Or.imp (fun h => (Or.imp (fun h => (Or.imp (fun h => (of_decide_eq_false h)) (fun h => (of_decide_eq_false h)) (andF h))) (fun h => (of_decide_eq_false h)) (andF h))) (fun h => (of_decide_eq_false h)) (andF h))) (fun h => (of_decide_eq_false h)) (andF h))) (fun h => (Or.imp (fun h => (of_decide_eq_false h)) (fun h => (of_decide_eq_false h)) (andF h))) (orF hc256))
      refine W_skip (Blk_n (Then_n (W_reg ?_)))
      refine O_v rfl (R_arith (a := ((i : Nat) : Int)) (b := 1) (r0 := ((i : Nat) : Int) + 1) (r := ((i + 1 : Nat) : Int)) rfl rfl rfl (wrapN _ (by omega)) ?_)
      refine O_v rfl (R_move (v := (.int .i64 ((i + 1 : Nat) : Int))) rfl ?_)
      refine O_nil (Then_n ?_)
      have H257 := H255.sub (B' := [rowR 39 41 opCh h33 l34, boxR b5 24 [[(.int .i64 at_.T)], [(.int .i64 at_.R)]]]) (I' := [deepI S35 stampCh 2 (fun x : OpS => x.oh) (fun x : OpS => x.over) l34, deepI (Old w) headCh 34 (fun x : RowS => x.hh) (fun x : RowS => x.heads) b, slI (Old w) rowCh 8 hb b, deepI (Old w) headCh 34 (fun x : RowS => x.hh) (fun x : RowS => x.heads) a, slI (Old w) rowCh 8 ha a]) (List.Sublist.cons _ (List.Sublist.cons_cons _ (List.Sublist.cons_cons _ List.Sublist.slnil))) (List.forall_mem_cons.2 ⟨List.mem_of_getElem? (i := 0) rfl, List.forall_mem_cons.2 ⟨List.mem_of_getElem? (i := 1) rfl, List.forall_mem_cons.2 ⟨List.mem_of_getElem? (i := 2) rfl, List.forall_mem_cons.2 ⟨List.mem_of_getElem? (i := 3) rfl, List.forall_mem_cons.2 ⟨List.mem_of_getElem? (i := 4) rfl, fun _ h => (nomatch h)⟩⟩⟩⟩⟩)
      refine ⟨_, ?_, (i + 1), (ed || (decide ((nth l34 i).kind = 2))), rfl, (by omega), (by rw [hed]; exact (anyEdit_succ (by omega)).symm), _, envL_self ⟨rfl, rfl, rfl, rfl, rfl, rfl, rfl, rfl, trivial⟩, H257⟩
      omega
   ·have hc50 : ¬ (((i : Nat) : Int) < ((l34.length : Nat) : Int)) := (of_decide_eq_false hc50)
    refine W_exit (Then_x (Then_x (Blk_x (Then_n (W_seq (W_reg ?_))))))
    refine O_v rfl (R_move (v := (slV h33 l34)) rfl ?_)
    refine O_v rfl (R_len_slice (a := h33.a) (n := l34.length) (c := h33.c) Try.underlying31 rfl ?_)
    refine O_v rfl (R_cmp (a := ((l34.length : Nat) : Int)) (b := 64) (r := (decide (((l34.length : Nat) : Int) ≤ 64))) rfl rfl rfl ?_)
    refine O_v rfl (R_assign (v := (.bool (decide (((l34.length : Nat) : Int) ≤ 64)))) rfl ?_)
    refine O_nil (Then_n (W_ret ?_))
    refine ret_1 (v := (.bool (decide (((l34.length : Nat) : Int) ≤ 64)))) Try.results4 rfl ?_
    exact ⟨(boolT (by have := hO.1; omega)).symm, H49.gr⟩

end Go.Proofs.Ytiknfldhommmpaa
