/- Proved: for every input, pollardlaw04.ObjChanges returns true and leaves its argument as it was. No condition. -/
import Derived.Test.YthjdhfoeckfmbaaGreatX5
namespace Go.Proofs.YthjdhfoeckfmbaaGreat
open Go
set_option maxRecDepth 100000
set_option linter.unusedVariables false
set_option linter.unusedSimpArgs false
set_option linter.unusedSectionVars false
variable [DD]
set_option maxHeartbeats 1000000 in
theorem ref03_Same (a : OpS) (b : OpS) (w : World) (Sa_over : Sl (Old w) stampCh 2 a.oh a.over w) (Sb_over : Sl (Old w) stampCh 2 b.oh b.over w) :
    Calls Tryz.prog 107 #[(aggOf (opCh a)), (aggOf (opCh b))] w (Ret fun v w' => v = (.bool (decide (a.core = b.core))) ∧ Ext w w') := by
 refine calls_W Tryz.func107 rfl Tryz.ntmps107 rfl ?_
 have H0 := Ctx.start w nob
 have H1 := H0.addSl _ Sa_over (fun b hb => ⟨hb, fun _ ho => (nomatch ho)⟩)
 have LSa_over := Sa_over.len
 have H2 := H1.addSl _ Sb_over (fun b hb => ⟨hb, fun _ ho => (nomatch ho)⟩)
 have LSb_over := Sb_over.len
 refine W_seq (W_reg ?_)
 refine O_v rfl (C_box H2 [[(.int .i64 a.kind)], [(.int .i64 a.tm.T)], [(.int .i64 a.tm.R)], [(.int .i64 a.node.T)], [(.int .i64 a.node.R)], [(.int .i64 a.par.T)], [(.int .i64 a.par.R)], [(.string a.name)], (idCells a.data), [(slV a.oh a.over)]] rfl ?_)
 intro b3 w4 hb5 hx6 H7
 refine O_v rfl (C_box H7 [[(.int .i64 b.kind)], [(.int .i64 b.tm.T)], [(.int .i64 b.tm.R)], [(.int .i64 b.node.T)], [(.int .i64 b.node.R)], [(.int .i64 b.par.T)], [(.int .i64 b.par.R)], [(.string b.name)], (idCells b.data), [(slV b.oh b.over)]] rfl ?_)
 intro b8 w9 hb10 hx11 H12
 refine O_as (v := (.bool false)) rfl rfl ?_
 refine O_nil (Then_n (W_seq (W_seq (W_reg ?_))))
 refine O_v rfl (R_fieldAddr (off := 40) (oo := 40) Tryz.underlying72 rfl rfl Tryz.sizeOf70 rfl rfl ?_)
 refine O_v rfl (R_load1 (v := (slV a.oh a.over)) Tryz.isAgg70 rfl (H12.bx 1 rfl 9 1 40 40 _ rfl rfl rfl) ?_)
 refine O_v rfl (R_len_slice (a := a.oh.a) (n := a.over.length) (c := a.oh.c) Tryz.underlying70 rfl ?_)
 refine O_v rfl (R_fieldAddr (off := 40) (oo := 40) Tryz.underlying72 rfl rfl Tryz.sizeOf70 rfl rfl ?_)
 refine O_v rfl (R_load1 (v := (slV b.oh b.over)) Tryz.isAgg70 rfl (H12.bx 0 rfl 9 1 40 40 _ rfl rfl rfl) ?_)
 refine O_v rfl (R_len_slice (a := b.oh.a) (n := b.over.length) (c := b.oh.c) Tryz.underlying70 rfl ?_)
 refine O_v rfl (R_cmp (a := (a.over.length : Int)) (b := (b.over.length : Int)) (r := (!(decide ((a.over.length : Int) = (b.over.length : Int))))) rfl rfl rfl ?_)
 refine O_nil (Then_n ?_)
 refine W_cond rfl (fun hc13 => ?_) (fun hc13 => ?_)
 ·have hc13 : ¬ ((a.over.length : Int) = (b.over.length : Int)) := (of_decide_eq_false (notT hc13))
  refine W_seq (W_reg ?_)
  refine O_as (v := (.bool false)) rfl rfl ?_
  refine O_nil (Then_n (W_ret (Then_r ?_)))
  refine ret_1 (v := (.bool false)) Tryz.results107 rfl ?_
  exact ⟨(sameR_len (by assumption)), H12.gr⟩
 ·have hc13 : ((a.over.length : Int) = (b.over.length : Int)) := (of_decide_eq_true (notF hc13))
  refine W_skip (Then_n (W_seq (W_seq (W_reg ?_))))
  refine O_as (v := (.int .i64 0)) rfl rfl ?_
  refine O_nil (Then_n (W_block ?_))
  refine W_loop (fun m14 e15 w16 => ∃ (k : Nat), m14 = a.over.length - k ∧ (k ≤ a.over.length) ∧ (∀ i, i < k → nth a.over i = nth b.over i) ∧ ∃ eb17, e15 = envL [(2, (.pointer (some ⟨b3, 0, none⟩))), (3, (.pointer (some ⟨b8, 0, none⟩))), (5, (.int .i64 (k : Int)))] eb17 ∧ Ctx w nob w16 [boxR b8 72 [[(.int .i64 b.kind)], [(.int .i64 b.tm.T)], [(.int .i64 b.tm.R)], [(.int .i64 b.node.T)], [(.int .i64 b.node.R)], [(.int .i64 b.par.T)], [(.int .i64 b.par.R)], [(.string b.name)], (idCells b.data), [(slV b.oh b.over)]], boxR b3 72 [[(.int .i64 a.kind)], [(.int .i64 a.tm.T)], [(.int .i64 a.tm.R)], [(.int .i64 a.node.T)], [(.int .i64 a.node.R)], [(.int .i64 a.par.T)], [(.int .i64 a.par.R)], [(.string a.name)], (idCells a.data), [(slV a.oh a.over)]]] [slI (Old w) stampCh 2 b.oh b.over, slI (Old w) stampCh 2 a.oh a.over]) _ ⟨0, rfl, (by omega), (all_zero _), _, envL_self ⟨rfl, rfl, rfl, trivial⟩, H12⟩ ?_
  rintro m14 _ w16 ⟨k, rfl, hk, hn, eb17, rfl, H18⟩
  refine W_seq (W_seq (W_reg ?_))
  refine O_mv (v := (.int .i64 (k : Int))) rfl rfl ?_
  refine O_v rfl (R_fieldAddr (off := 40) (oo := 40) Tryz.underlying72 rfl rfl Tryz.sizeOf70 rfl rfl ?_)
  refine O_v rfl (R_load1 (v := (slV a.oh a.over)) Tryz.isAgg70 rfl (H18.bx 1 rfl 9 1 40 40 _ rfl rfl rfl) ?_)
  refine O_v rfl (R_len_slice (a := a.oh.a) (n := a.over.length) (c := a.oh.c) Tryz.underlying70 rfl ?_)
  refine O_v rfl (R_cmp (a := (k : Int)) (b := (a.over.length : Int)) (r := (decide ((k : Int) < (a.over.length : Int)))) rfl rfl rfl ?_)
  refine O_nil (Then_n ?_)
  refine W_cond rfl (fun hc19 => ?_) (fun hc19 => ?_)
  ·have hc19 := (of_decide_eq_true hc19)
   refine W_skip (Then_n (W_seq (W_block (W_seq ?_))))
   refine W_rgd TryzMixed [(0, .q 0), (1, .q 0), (2, .q 0), (3, .q 0), (4, .q 0), (5, .q 0), (6, .q 0), (7, .q 0), (8, .q 0), (9, .q 0), (10, .q 0)] (by kernel_rfl) ?_
   refine Lx_q rfl rfl _ (fun v20 hv21 => R_fieldAddr (off := 40) (oo := 40) Tryz.underlying72 rfl rfl Tryz.sizeOf70 rfl rfl qk) (Lx_q rfl rfl _ (fun v22 hv23 => R_load1 (v := (slV a.oh a.over)) Tryz.isAgg70 rfl ((H18.ext hv23).bx 1 rfl 9 1 40 40 _ rfl rfl rfl) qk) (Lx_mv (v := (.int .i64 (k : Int))) rfl rfl rfl (Lx_q rfl rfl _ (fun v26 hv27 => R_index_pure (H18.sl 1 rfl) (n := a.over.length) rfl (j := (k : Int)) (oo := (a.oh.o + k * 2)) Tryz.underlying70 Tryz.sizeOf69 rfl rfl (by omega) (by omega) rfl qk) ?_)))
   refine Lx_q rfl rfl _ (fun v28 hv29 => R_loadA (cs := [[(.int .i64 ((nth a.over k).T))], [(.int .i64 ((nth a.over k).R))]]) Tryz.isAgg69 Tryz.sizeOf69 rfl rfl ((Sl.elem ((H18.ext hv29).sl 1 rfl) (i := k) (by omega) rfl).chunks 0 2 0 (a.oh.o + k * 2) _ rfl rfl rfl) qk) (Lx_q rfl rfl _ (fun v30 hv31 => R_fieldAddr (off := 40) (oo := 40) Tryz.underlying72 rfl rfl Tryz.sizeOf70 rfl rfl qk) (Lx_q rfl rfl _ (fun v32 hv33 => R_load1 (v := (slV b.oh b.over)) Tryz.isAgg70 rfl ((H18.ext hv33).bx 0 rfl 9 1 40 40 _ rfl rfl rfl) qk) (Lx_mv (v := (.int .i64 (k : Int))) rfl rfl rfl ?_)))
   refine Lx_q rfl rfl _ (fun v36 hv37 => R_index_pure (H18.sl 0 rfl) (n := b.over.length) rfl (j := (k : Int)) (oo := (b.oh.o + k * 2)) Tryz.underlying70 Tryz.sizeOf69 rfl rfl (by omega) (by omega) rfl qk) (Lx_q rfl rfl _ (fun v38 hv39 => R_loadA (cs := [[(.int .i64 ((nth b.over k).T))], [(.int .i64 ((nth b.over k).R))]]) Tryz.isAgg69 Tryz.sizeOf69 rfl rfl ((Sl.elem ((H18.ext hv39).sl 0 rfl) (i := k) (by omega) rfl).chunks 0 2 0 (b.oh.o + k * 2) _ rfl rfl rfl) qk) (Lx_q rfl rfl _ (fun v40 hv41 => R_nev (a := (nth a.over k)) (b := (nth b.over k)) eqv_Stamp69 rfl Tryz.eqGuardType69 rfl rfl qk) ?_))
   refine Lx_nil (fun w42 hw43 => ?_)
   have H44 := H18.ext hw43
   refine Then_n ?_
   refine W_cond rfl (fun hc45 => ?_) (fun hc45 => ?_)
   ·have hc45 : ¬ ((nth a.over k) = (nth b.over k)) := (of_decide_eq_false (notT hc45))
    refine W_seq (W_reg ?_)
    refine O_as (v := (.bool false)) rfl rfl ?_
    refine O_nil (Then_n (W_ret (Blk_r (Then_r (Then_r (Blk_r (Then_r ?_)))))))
    refine ret_1 (v := (.bool false)) Tryz.results107 rfl ?_
    exact ⟨(sameR_at (by assumption)), H44.gr⟩
   ·have hc45 : ((nth a.over k) = (nth b.over k)) := (of_decide_eq_true (notF hc45))
    refine W_skip (Blk_n (Then_n (W_reg ?_)))
    refine O_mv (v := (.int .i64 (k : Int))) rfl rfl ?_
    refine O_v rfl (R_arith (a := (k : Int)) (b := 1) (r0 := (k : Int) + 1) (r := ((k + 1 : Nat) : Int)) rfl rfl rfl (wrapN _ (by omega)) ?_)
    refine O_as (v := (.int .i64 ((k + 1 : Nat) : Int))) rfl rfl ?_
    refine O_nil (Then_n ?_)
    refine ⟨_, ?_, (k + 1), rfl, (by omega), (all_succ hn (by assumption)), _, envL_self ⟨rfl, rfl, rfl, trivial⟩, H44⟩
    omega
  ·have hc19 := (of_decide_eq_false hc19)
   refine W_exit (Then_x (Then_x (Blk_x (Then_n (W_seq ?_)))))
   refine W_rg [(0, .q 0), (1, .q 0), (2, .q 0), (3, .q 0), (4, .q 0), (5, .q 0), (6, .q 0), (7, .q 0), (8, .q 0), (9, .q 0), (10, .q 0), (11, .q 0), (12, .q 0), (13, .q 0), (14, .q 0), (15, .q 0), (16, .q 0), (17, .q 0), (18, .q 0), (19, .q 0), (20, .q 0), (21, .q 0), (22, .q 0), (23, .q 0), (24, .q 0), (25, .q 0), (26, .q 0), (27, .q 0), (28, .q 0), (29, .q 0), (30, .q 0), (31, .q 0), (32, .q 0), (33, .q 0), (34, .q 0), (35, .q 0), (36, .q 0), (37, .q 0), (38, .q 0), (39, .q 0), (40, .q 0)] (by kernel_rfl) ?_
   refine Lx_q rfl rfl _ (fun v46 hv47 => R_fieldAddr (off := 0) (oo := 0) Tryz.underlying72 rfl rfl Tryz.sizeOf3 rfl rfl qk) (Lx_q rfl rfl _ (fun v48 hv49 => R_load1 (v := (.int .i64 a.kind)) Tryz.isAgg3 rfl ((H18.ext hv49).bx 1 rfl 0 1 0 0 _ rfl rfl rfl) qk) (Lx_q rfl rfl _ (fun v50 hv51 => R_fieldAddr (off := 0) (oo := 0) Tryz.underlying72 rfl rfl Tryz.sizeOf3 rfl rfl qk) (Lx_q rfl rfl _ (fun v52 hv53 => R_load1 (v := (.int .i64 b.kind)) Tryz.isAgg3 rfl ((H18.ext hv53).bx 0 rfl 0 1 0 0 _ rfl rfl rfl) qk) ?_)))
   refine Lx_q rfl rfl _ (fun v54 hv55 => R_cmp (a := a.kind) (b := b.kind) (r := (decide (a.kind = b.kind))) rfl rfl rfl qk) (Lx_mv (v := (.bool (decide (a.kind = b.kind)))) rfl rfl rfl (Lx_qt rfl rfl rfl rfl rfl _ (fun hA v58 hv59 => R_fieldAddr (off := 1) (oo := 1) Tryz.underlying72 rfl rfl Tryz.sizeOf69 rfl rfl qk) (Lx_qt rfl rfl rfl rfl rfl _ (fun hA v60 hv61 => R_loadA (cs := [[(.int .i64 a.tm.T)], [(.int .i64 a.tm.R)]]) Tryz.isAgg69 Tryz.sizeOf69 rfl (gv_t hA) ((H18.ext hv61).bx 1 rfl 1 2 1 1 _ rfl rfl rfl) qk) ?_)))
   refine Lx_qt rfl rfl rfl rfl rfl _ (fun hA v62 hv63 => R_fieldAddr (off := 1) (oo := 1) Tryz.underlying72 rfl rfl Tryz.sizeOf69 rfl rfl qk) (Lx_qt rfl rfl rfl rfl rfl _ (fun hA v64 hv65 => R_loadA (cs := [[(.int .i64 b.tm.T)], [(.int .i64 b.tm.R)]]) Tryz.isAgg69 Tryz.sizeOf69 rfl (gv_t hA) ((H18.ext hv65).bx 0 rfl 1 2 1 1 _ rfl rfl rfl) qk) (Lx_qt rfl rfl rfl rfl rfl _ (fun hA v66 hv67 => R_eqv (a := a.tm) (b := b.tm) eqv_Stamp69 rfl Tryz.eqGuardType69 (gv_t hA) (gv_t hA) qk) (Lx_q rfl rfl _ (fun v68 hv69 => R_pick rfl pk_and qk) ?_)))
   refine Lx_mv (v := (.bool ((decide (a.kind = b.kind)) && (decide (a.tm = b.tm))))) rfl rfl rfl (Lx_qt rfl rfl rfl rfl rfl _ (fun hA v72 hv73 => R_fieldAddr (off := 3) (oo := 3) Tryz.underlying72 rfl rfl Tryz.sizeOf69 rfl rfl qk) (Lx_qt rfl rfl rfl rfl rfl _ (fun hA v74 hv75 => R_loadA (cs := [[(.int .i64 a.node.T)], [(.int .i64 a.node.R)]]) Tryz.isAgg69 Tryz.sizeOf69 rfl (gv_t hA) ((H18.ext hv75).bx 1 rfl 3 2 3 3 _ rfl rfl rfl) qk) (Lx_qt rfl rfl rfl rfl rfl _ (fun hA v76 hv77 => R_fieldAddr (off := 3) (oo := 3) Tryz.underlying72 rfl rfl Tryz.sizeOf69 rfl rfl qk) ?_)))
   refine Lx_qt rfl rfl rfl rfl rfl _ (fun hA v78 hv79 => R_loadA (cs := [[(.int .i64 b.node.T)], [(.int .i64 b.node.R)]]) Tryz.isAgg69 Tryz.sizeOf69 rfl (gv_t hA) ((H18.ext hv79).bx 0 rfl 3 2 3 3 _ rfl rfl rfl) qk) (Lx_qt rfl rfl rfl rfl rfl _ (fun hA v80 hv81 => R_eqv (a := a.node) (b := b.node) eqv_Stamp69 rfl Tryz.eqGuardType69 (gv_t hA) (gv_t hA) qk) (Lx_q rfl rfl _ (fun v82 hv83 => R_pick rfl pk_and qk) (Lx_mv (v := (.bool (((decide (a.kind = b.kind)) && (decide (a.tm = b.tm))) && (decide (a.node = b.node))))) rfl rfl rfl ?_)))
   refine Lx_qt rfl rfl rfl rfl rfl _ (fun hA v86 hv87 => R_fieldAddr (off := 5) (oo := 5) Tryz.underlying72 rfl rfl Tryz.sizeOf69 rfl rfl qk) (Lx_qt rfl rfl rfl rfl rfl _ (fun hA v88 hv89 => R_loadA (cs := [[(.int .i64 a.par.T)], [(.int .i64 a.par.R)]]) Tryz.isAgg69 Tryz.sizeOf69 rfl (gv_t hA) ((H18.ext hv89).bx 1 rfl 5 2 5 5 _ rfl rfl rfl) qk) (Lx_qt rfl rfl rfl rfl rfl _ (fun hA v90 hv91 => R_fieldAddr (off := 5) (oo := 5) Tryz.underlying72 rfl rfl Tryz.sizeOf69 rfl rfl qk) (Lx_qt rfl rfl rfl rfl rfl _ (fun hA v92 hv93 => R_loadA (cs := [[(.int .i64 b.par.T)], [(.int .i64 b.par.R)]]) Tryz.isAgg69 Tryz.sizeOf69 rfl (gv_t hA) ((H18.ext hv93).bx 0 rfl 5 2 5 5 _ rfl rfl rfl) qk) ?_)))
   refine Lx_qt rfl rfl rfl rfl rfl _ (fun hA v94 hv95 => R_eqv (a := a.par) (b := b.par) eqv_Stamp69 rfl Tryz.eqGuardType69 (gv_t hA) (gv_t hA) qk) (Lx_q rfl rfl _ (fun v96 hv97 => R_pick rfl pk_and qk) (Lx_mv (v := (.bool ((((decide (a.kind = b.kind)) && (decide (a.tm = b.tm))) && (decide (a.node = b.node))) && (decide (a.par = b.par))))) rfl rfl rfl (Lx_qt rfl rfl rfl rfl rfl _ (fun hA v100 hv101 => R_fieldAddr (off := 7) (oo := 7) Tryz.underlying72 rfl rfl Tryz.sizeOf9 rfl rfl qk) ?_)))
   refine Lx_qt rfl rfl rfl rfl rfl _ (fun hA v102 hv103 => R_load1 (v := (.string a.name)) Tryz.isAgg9 (gv_t hA) ((H18.ext hv103).bx 1 rfl 7 1 7 7 _ rfl rfl rfl) qk) (Lx_qt rfl rfl rfl rfl rfl _ (fun hA v104 hv105 => R_fieldAddr (off := 7) (oo := 7) Tryz.underlying72 rfl rfl Tryz.sizeOf9 rfl rfl qk) (Lx_qt rfl rfl rfl rfl rfl _ (fun hA v106 hv107 => R_load1 (v := (.string b.name)) Tryz.isAgg9 (gv_t hA) ((H18.ext hv107).bx 0 rfl 7 1 7 7 _ rfl rfl rfl) qk) (Lx_qt rfl rfl rfl rfl rfl _ (fun hA v108 hv109 => R_cmpS (a := a.name) (b := b.name) (r := (decide (a.name = b.name))) (gv_t hA) (gv_t hA) rfl qk) ?_)))
   refine Lx_q rfl rfl _ (fun v110 hv111 => R_pick rfl pk_and qk) (Lx_mv (v := (.bool (((((decide (a.kind = b.kind)) && (decide (a.tm = b.tm))) && (decide (a.node = b.node))) && (decide (a.par = b.par))) && (decide (a.name = b.name))))) rfl rfl rfl (Lx_qt rfl rfl rfl rfl rfl _ (fun hA v114 hv115 => R_fieldAddr (off := 8) (oo := 8) Tryz.underlying72 rfl rfl Tryz.sizeOf45 rfl rfl qk) (Lx_qt rfl rfl rfl rfl rfl _ (fun hA v116 hv117 => R_loadA (cs := [(idCells a.data)]) Tryz.isAgg45 Tryz.sizeOf45 rfl (gv_t hA) ((H18.ext hv117).bx 1 rfl 8 1 8 8 _ rfl rfl rfl) qk) ?_)))
   refine Lx_qt rfl rfl rfl rfl rfl _ (fun hA v118 hv119 => R_fieldAddr (off := 8) (oo := 8) Tryz.underlying72 rfl rfl Tryz.sizeOf45 rfl rfl qk) (Lx_qt rfl rfl rfl rfl rfl _ (fun hA v120 hv121 => R_loadA (cs := [(idCells b.data)]) Tryz.isAgg45 Tryz.sizeOf45 rfl (gv_t hA) ((H18.ext hv121).bx 0 rfl 8 1 8 8 _ rfl rfl rfl) qk) (Lx_qt rfl rfl rfl rfl rfl _ (fun hA v122 hv123 => R_eqv (a := a.data) (b := b.data) eqv_ID45 rfl Tryz.eqGuardType45 (gv_t hA) (gv_t hA) qk) (Lx_q rfl rfl _ (fun v124 hv125 => R_pick rfl pk_and qk) ?_)))
   refine Lx_q rfl rfl _ (fun v126 hv127 => R_assign (v := (.bool ((((((decide (a.kind = b.kind)) && (decide (a.tm = b.tm))) && (decide (a.node = b.node))) && (decide (a.par = b.par))) && (decide (a.name = b.name))) && (decide (a.data = b.data))))) rfl qk) ?_
   refine Lx_nil (fun w128 hw129 => ?_)
   have H130 := H18.ext hw129
   refine Then_n (W_ret ?_)
   refine ret_1 (v := (.bool ((((((decide (a.kind = b.kind)) && (decide (a.tm = b.tm))) && (decide (a.node = b.node))) && (decide (a.par = b.par))) && (decide (a.name = b.name))) && (decide (a.data = b.data))))) Tryz.results107 rfl ?_
   exact ⟨(sameR_end (by assumption) (by rwa [show a.over.length = k from by omega])), H130.gr⟩
theorem cF107 : callable Tryz.prog 107 = true := by kernel_rfl
set_option maxHeartbeats 1000000 in
theorem ref03_SameAll (ha : SlH) (a : List OpS) (hb : SlH) (b : List OpS) (w : World) (Sa : Sl (Old w) opCh 41 ha a w) (Da_over : ∀ x ∈ a, Sl (Old w) stampCh 2 x.oh x.over w) (Sb : Sl (Old w) opCh 41 hb b w) (Db_over : ∀ x ∈ b, Sl (Old w) stampCh 2 x.oh x.over w) :
    Calls Tryz.prog 69 #[(slV ha a), (slV hb b)] w (Ret fun v w' => v = (.bool (decide (a.map OpS.core = b.map OpS.core))) ∧ Ext w w') := by
 refine calls_W Tryz.func69 rfl Tryz.ntmps69 rfl ?_
 have H0 := Ctx.start w nob
 have H1 := H0.addSl _ Sa (fun b hb => ⟨hb, fun _ ho => (nomatch ho)⟩)
 have LSa := Sa.len
 have H2 := H1.addImm' (deepI (Old w) stampCh 2 (fun x : OpS => x.oh) (fun x : OpS => x.over) a) Da_over (fun b hb => ⟨hb, fun _ ho => (nomatch ho)⟩)
 have H3 := H2.addSl _ Sb (fun b hb => ⟨hb, fun _ ho => (nomatch ho)⟩)
 have LSb := Sb.len
 have H4 := H3.addImm' (deepI (Old w) stampCh 2 (fun x : OpS => x.oh) (fun x : OpS => x.over) b) Db_over (fun b hb => ⟨hb, fun _ ho => (nomatch ho)⟩)
 refine W_seq (W_reg ?_)
 refine O_as (v := (.bool false)) rfl rfl ?_
 refine O_nil (Then_n (W_seq (W_seq (W_reg ?_))))
 refine O_mv (v := (slV ha a)) rfl rfl ?_
 refine O_v rfl (R_len_slice (a := ha.a) (n := a.length) (c := ha.c) Tryz.underlying43 rfl ?_)
 refine O_mv (v := (slV hb b)) rfl rfl ?_
 refine O_v rfl (R_len_slice (a := hb.a) (n := b.length) (c := hb.c) Tryz.underlying43 rfl ?_)
 refine O_v rfl (R_cmp (a := (a.length : Int)) (b := (b.length : Int)) (r := (!(decide ((a.length : Int) = (b.length : Int))))) rfl rfl rfl ?_)
 refine O_nil (Then_n ?_)
 refine W_cond rfl (fun hc5 => ?_) (fun hc5 => ?_)
 ·have hc5 : ¬ ((a.length : Int) = (b.length : Int)) := (of_decide_eq_false (notT hc5))
  refine W_seq (W_reg ?_)
  refine O_as (v := (.bool false)) rfl rfl ?_
  refine O_nil (Then_n (W_ret (Then_r ?_)))
  refine ret_1 (v := (.bool false)) Tryz.results69 rfl ?_
  exact ⟨(boolF (map_ne_len OpS.core (by assumption))), H4.gr⟩
 ·have hc5 : ((a.length : Int) = (b.length : Int)) := (of_decide_eq_true (notF hc5))
  refine W_skip (Then_n (W_seq (W_seq (W_reg ?_))))
  refine O_as (v := (.int .i64 0)) rfl rfl ?_
  refine O_nil (Then_n (W_block ?_))
  refine W_loop (fun m6 e7 w8 => ∃ (k : Nat), m6 = a.length - k ∧ (k ≤ a.length) ∧ (∀ i, i < k → (nth a i).core = (nth b i).core) ∧ ∃ eb9, e7 = envL [(0, (slV ha a)), (1, (slV hb b)), (5, (.int .i64 (k : Int)))] eb9 ∧ Ctx w nob w8 [] [deepI (Old w) stampCh 2 (fun x : OpS => x.oh) (fun x : OpS => x.over) b, slI (Old w) opCh 41 hb b, deepI (Old w) stampCh 2 (fun x : OpS => x.oh) (fun x : OpS => x.over) a, slI (Old w) opCh 41 ha a]) _ ⟨0, rfl, (by omega), (all_zero _), _, envL_self ⟨rfl, rfl, rfl, trivial⟩, H4⟩ ?_
  rintro m6 _ w8 ⟨k, rfl, hk, hn, eb9, rfl, H10⟩
  refine W_seq (W_seq (W_reg ?_))
  refine O_mv (v := (.int .i64 (k : Int))) rfl rfl (O_mv (v := (slV ha a)) rfl rfl ?_)
  refine O_v rfl (R_len_slice (a := ha.a) (n := a.length) (c := ha.c) Tryz.underlying43 rfl ?_)
  refine O_v rfl (R_cmp (a := (k : Int)) (b := (a.length : Int)) (r := (decide ((k : Int) < (a.length : Int)))) rfl rfl rfl ?_)
  refine O_nil (Then_n ?_)
  refine W_cond rfl (fun hc11 => ?_) (fun hc11 => ?_)
  ·have hc11 := (of_decide_eq_true hc11)
   refine W_skip (Then_n (W_seq (W_block (W_seq ?_))))
   refine W_rgd TryzMixed [(0, .q 0), (1, .q 0), (2, .q 0), (3, .q 0), (4, .q 0), (5, .q 0), (6, .q 0), (7, .q 0), (8, .q 0), (9, .q 0)] (by kernel_rfl) ?_
   refine Lx_mv (v := (slV ha a)) rfl rfl rfl (Lx_mv (v := (.int .i64 (k : Int))) rfl rfl rfl (Lx_q rfl rfl _ (fun v16 hv17 => R_index_pure (H10.sl 3 rfl) (n := a.length) rfl (j := (k : Int)) (oo := (ha.o + k * 41)) Tryz.underlying43 Tryz.sizeOf72 rfl rfl (by omega) (by omega) rfl qk) (Lx_q rfl rfl _ (fun v18 hv19 => R_loadA (cs := [[(.int .i64 ((nth a k).kind))], [(.int .i64 (((nth a k).tm).T))], [(.int .i64 (((nth a k).tm).R))], [(.int .i64 (((nth a k).node).T))], [(.int .i64 (((nth a k).node).R))], [(.int .i64 (((nth a k).par).T))], [(.int .i64 (((nth a k).par).R))], [(.string ((nth a k).name))], (idCells ((nth a k).data)), [(slV ((nth a k).oh) ((nth a k).over))]]) Tryz.isAgg72 Tryz.sizeOf72 rfl rfl ((Sl.elem ((H10.ext hv19).sl 3 rfl) (i := k) (by omega) rfl).chunks 0 10 0 (ha.o + k * 41) _ rfl rfl rfl) qk) ?_)))
   refine Lx_mv (v := (slV hb b)) rfl rfl rfl (Lx_mv (v := (.int .i64 (k : Int))) rfl rfl rfl (Lx_q rfl rfl _ (fun v24 hv25 => R_index_pure (H10.sl 1 rfl) (n := b.length) rfl (j := (k : Int)) (oo := (hb.o + k * 41)) Tryz.underlying43 Tryz.sizeOf72 rfl rfl (by omega) (by omega) rfl qk) (Lx_q rfl rfl _ (fun v26 hv27 => R_loadA (cs := [[(.int .i64 ((nth b k).kind))], [(.int .i64 (((nth b k).tm).T))], [(.int .i64 (((nth b k).tm).R))], [(.int .i64 (((nth b k).node).T))], [(.int .i64 (((nth b k).node).R))], [(.int .i64 (((nth b k).par).T))], [(.int .i64 (((nth b k).par).R))], [(.string ((nth b k).name))], (idCells ((nth b k).data)), [(slV ((nth b k).oh) ((nth b k).over))]]) Tryz.isAgg72 Tryz.sizeOf72 rfl rfl ((Sl.elem ((H10.ext hv27).sl 1 rfl) (i := k) (by omega) rfl).chunks 0 10 0 (hb.o + k * 41) _ rfl rfl rfl) qk) ?_)))
   refine Lx_q rfl rfl (.bool (decide ((nth a k).core = (nth b k).core))) (fun v28 hv29 => R_callL (vs := [(aggOf (opCh (nth a k))), (aggOf (opCh (nth b k)))]) cF107 rfl rfl (ref03_Same (nth a k) (nth b k) v28 ((H10.ext hv29).deepOld 2 rfl _ (nth_mem (by omega))) ((H10.ext hv29).deepOld 0 rfl _ (nth_mem (by omega))))) (Lx_q rfl rfl _ (fun v30 hv31 => R_not rfl qk) ?_)
   refine Lx_nil (fun w32 hw33 => ?_)
   have H34 := H10.ext hw33
   refine Then_n ?_
   refine W_cond rfl (fun hc35 => ?_) (fun hc35 => ?_)
   ·have hc35 : ¬ ((nth a k).core = (nth b k).core) := (of_decide_eq_false (notT hc35))
    refine W_seq (W_reg ?_)
    refine O_as (v := (.bool false)) rfl rfl ?_
    refine O_nil (Then_n (W_ret (Blk_r (Then_r (Then_r (Blk_r (Then_r ?_)))))))
    refine ret_1 (v := (.bool false)) Tryz.results69 rfl ?_
    exact ⟨(boolF (map_ne_nth OpS.core (k := k) (by omega) (by assumption) (by assumption))), H34.gr⟩
   ·have hc35 : ((nth a k).core = (nth b k).core) := (of_decide_eq_true (notF hc35))
    refine W_skip (Blk_n (Then_n (W_reg ?_)))
    refine O_mv (v := (.int .i64 (k : Int))) rfl rfl ?_
    refine O_v rfl (R_arith (a := (k : Int)) (b := 1) (r0 := (k : Int) + 1) (r := ((k + 1 : Nat) : Int)) rfl rfl rfl (wrapN _ (by omega)) ?_)
    refine O_as (v := (.int .i64 ((k + 1 : Nat) : Int))) rfl rfl ?_
    refine O_nil (Then_n ?_)
    refine ⟨_, ?_, (k + 1), rfl, (by omega), (all_succ hn (by assumption)), _, envL_self ⟨rfl, rfl, rfl, trivial⟩, H34⟩
    omega
  ·have hc11 := (of_decide_eq_false hc11)
   refine W_exit (Then_x (Then_x (Blk_x (Then_n (W_seq (W_reg ?_))))))
   refine O_as (v := (.bool true)) rfl rfl ?_
   refine O_nil (Then_n (W_ret ?_))
   refine ret_1 (v := (.bool true)) Tryz.results69 rfl ?_
   exact ⟨(boolT (map_eqN OpS.core (by omega) (by rwa [show a.length = k from by omega]))), H10.gr⟩
theorem cF69 : callable Tryz.prog 69 = true := by kernel_rfl
set_option maxHeartbeats 4000000 in
theorem ref04_SameChange (a : ChangeS) (b : ChangeS) (w : World) (Sa_parents : Sl (Old w) idCh 32 a.ph a.parents w) (Sa_ops : Sl (Old w) opCh 41 a.oh a.ops w) (Da_over : ∀ x ∈ a.ops, Sl (Old w) stampCh 2 x.oh x.over w) (Sb_parents : Sl (Old w) idCh 32 b.ph b.parents w) (Sb_ops : Sl (Old w) opCh 41 b.oh b.ops w) (Db_over : ∀ x ∈ b.ops, Sl (Old w) stampCh 2 x.oh x.over w) :
    Calls Tryz.prog 27 #[(aggOf (changeCh a)), (aggOf (changeCh b))] w (Ret fun v w' => v = (.bool (decide (a.core = b.core))) ∧ Ext w w') := by
 refine calls_W Tryz.func27 rfl Tryz.ntmps27 rfl ?_
 have H0 := Ctx.start w nob
 have H1 := H0.addSl _ Sa_parents (fun b hb => ⟨hb, fun _ ho => (nomatch ho)⟩)
 have LSa_parents := Sa_parents.len
 have H2 := H1.addSl _ Sa_ops (fun b hb => ⟨hb, fun _ ho => (nomatch ho)⟩)
 have LSa_ops := Sa_ops.len
 have H3 := H2.addImm' (deepI (Old w) stampCh 2 (fun x : OpS => x.oh) (fun x : OpS => x.over) a.ops) Da_over (fun b hb => ⟨hb, fun _ ho => (nomatch ho)⟩)
 have H4 := H3.addSl _ Sb_parents (fun b hb => ⟨hb, fun _ ho => (nomatch ho)⟩)
 have LSb_parents := Sb_parents.len
 have H5 := H4.addSl _ Sb_ops (fun b hb => ⟨hb, fun _ ho => (nomatch ho)⟩)
 have LSb_ops := Sb_ops.len
 have H6 := H5.addImm' (deepI (Old w) stampCh 2 (fun x : OpS => x.oh) (fun x : OpS => x.over) b.ops) Db_over (fun b hb => ⟨hb, fun _ ho => (nomatch ho)⟩)
 refine W_seq (W_reg ?_)
 refine O_v rfl (C_box H6 [[(slV a.ph a.parents)], [(.int .i64 a.time)], [(.int .i64 a.r)], [(slV a.oh a.ops)], (idCells a.tree), [(.string a.msg)]] rfl ?_)
 intro b7 w8 hb9 hx10 H11
 refine O_v rfl (C_box H11 [[(slV b.ph b.parents)], [(.int .i64 b.time)], [(.int .i64 b.r)], [(slV b.oh b.ops)], (idCells b.tree), [(.string b.msg)]] rfl ?_)
 intro b12 w13 hb14 hx15 H16
 refine O_as (v := (.bool false)) rfl rfl ?_
 refine O_nil (Then_n (W_seq (W_seq ?_)))
 refine W_rg [(0, .q 0), (1, .q 0), (2, .q 0), (3, .q 0), (4, .q 0), (5, .q 0), (6, .q 0), (7, .q 0), (8, .q 0), (9, .q 0), (10, .q 0), (11, .q 0), (12, .q 0), (13, .q 0), (14, .q 0), (15, .q 0), (16, .q 0), (17, .q 0), (18, .q 0), (19, .q 0), (20, .q 0), (21, .q 0), (22, .q 0), (23, .q 0), (24, .q 0), (25, .q 0), (26, .q 0), (27, .q 0), (28, .q 0), (29, .q 0), (30, .q 0), (31, .q 0), (32, .q 0), (33, .q 0), (34, .q 0), (35, .q 0), (36, .q 0), (37, .q 0), (38, .q 0), (39, .q 0), (40, .q 0), (41, .q 0), (42, .q 0)] (by kernel_rfl) ?_
 refine Lx_q rfl rfl _ (fun v17 hv18 => R_fieldAddr (off := 0) (oo := 0) Tryz.underlying47 rfl rfl Tryz.sizeOf39 rfl rfl qk) (Lx_q rfl rfl _ (fun v19 hv20 => R_load1 (v := (slV a.ph a.parents)) Tryz.isAgg39 rfl ((H16.ext hv20).bx 1 rfl 0 1 0 0 _ rfl rfl rfl) qk) (Lx_q rfl rfl _ (fun v21 hv22 => R_len_slice (a := a.ph.a) (n := a.parents.length) (c := a.ph.c) Tryz.underlying39 rfl qk) (Lx_q rfl rfl _ (fun v23 hv24 => R_fieldAddr (off := 0) (oo := 0) Tryz.underlying47 rfl rfl Tryz.sizeOf39 rfl rfl qk) ?_)))
 refine Lx_q rfl rfl _ (fun v25 hv26 => R_load1 (v := (slV b.ph b.parents)) Tryz.isAgg39 rfl ((H16.ext hv26).bx 0 rfl 0 1 0 0 _ rfl rfl rfl) qk) (Lx_q rfl rfl _ (fun v27 hv28 => R_len_slice (a := b.ph.a) (n := b.parents.length) (c := b.ph.c) Tryz.underlying39 rfl qk) (Lx_q rfl rfl _ (fun v29 hv30 => R_cmp (a := (a.parents.length : Int)) (b := (b.parents.length : Int)) (r := (!(decide ((a.parents.length : Int) = (b.parents.length : Int))))) rfl rfl rfl qk) (Lx_mv (v := (.bool (!(decide ((a.parents.length : Int) = (b.parents.length : Int)))))) rfl rfl rfl ?_)))
 refine Lx_qf rfl rfl rfl rfl rfl _ (fun hA v33 hv34 => R_fieldAddr (off := 1) (oo := 1) Tryz.underlying47 rfl rfl Tryz.sizeOf2 rfl rfl qk) (Lx_qf rfl rfl rfl rfl rfl _ (fun hA v35 hv36 => R_load1 (v := (.int .i64 a.time)) Tryz.isAgg2 (gv_t hA) ((H16.ext hv36).bx 1 rfl 1 1 1 1 _ rfl rfl rfl) qk) (Lx_qf rfl rfl rfl rfl rfl _ (fun hA v37 hv38 => R_fieldAddr (off := 1) (oo := 1) Tryz.underlying47 rfl rfl Tryz.sizeOf2 rfl rfl qk) (Lx_qf rfl rfl rfl rfl rfl _ (fun hA v39 hv40 => R_load1 (v := (.int .i64 b.time)) Tryz.isAgg2 (gv_t hA) ((H16.ext hv40).bx 0 rfl 1 1 1 1 _ rfl rfl rfl) qk) ?_)))
 refine Lx_qf rfl rfl rfl rfl rfl _ (fun hA v41 hv42 => R_cmp (a := a.time) (b := b.time) (r := (!(decide (a.time = b.time)))) (gv_t hA) (gv_t hA) rfl qk) (Lx_q rfl rfl _ (fun v43 hv44 => R_pick rfl pk_or qk) (Lx_mv (v := (.bool ((!(decide ((a.parents.length : Int) = (b.parents.length : Int)))) || (!(decide (a.time = b.time)))))) rfl rfl rfl (Lx_qf rfl rfl rfl rfl rfl _ (fun hA v47 hv48 => R_fieldAddr (off := 2) (oo := 2) Tryz.underlying47 rfl rfl Tryz.sizeOf3 rfl rfl qk) ?_)))
 refine Lx_qf rfl rfl rfl rfl rfl _ (fun hA v49 hv50 => R_load1 (v := (.int .i64 a.r)) Tryz.isAgg3 (gv_t hA) ((H16.ext hv50).bx 1 rfl 2 1 2 2 _ rfl rfl rfl) qk) (Lx_qf rfl rfl rfl rfl rfl _ (fun hA v51 hv52 => R_fieldAddr (off := 2) (oo := 2) Tryz.underlying47 rfl rfl Tryz.sizeOf3 rfl rfl qk) (Lx_qf rfl rfl rfl rfl rfl _ (fun hA v53 hv54 => R_load1 (v := (.int .i64 b.r)) Tryz.isAgg3 (gv_t hA) ((H16.ext hv54).bx 0 rfl 2 1 2 2 _ rfl rfl rfl) qk) (Lx_qf rfl rfl rfl rfl rfl _ (fun hA v55 hv56 => R_cmp (a := a.r) (b := b.r) (r := (!(decide (a.r = b.r)))) (gv_t hA) (gv_t hA) rfl qk) ?_)))
 refine Lx_q rfl rfl _ (fun v57 hv58 => R_pick rfl pk_or qk) (Lx_mv (v := (.bool (((!(decide ((a.parents.length : Int) = (b.parents.length : Int)))) || (!(decide (a.time = b.time)))) || (!(decide (a.r = b.r)))))) rfl rfl rfl (Lx_qf rfl rfl rfl rfl rfl _ (fun hA v61 hv62 => R_fieldAddr (off := 4) (oo := 4) Tryz.underlying47 rfl rfl Tryz.sizeOf45 rfl rfl qk) (Lx_qf rfl rfl rfl rfl rfl _ (fun hA v63 hv64 => R_loadA (cs := [(idCells a.tree)]) Tryz.isAgg45 Tryz.sizeOf45 rfl (gv_t hA) ((H16.ext hv64).bx 1 rfl 4 1 4 4 _ rfl rfl rfl) qk) ?_)))
 refine Lx_qf rfl rfl rfl rfl rfl _ (fun hA v65 hv66 => R_fieldAddr (off := 4) (oo := 4) Tryz.underlying47 rfl rfl Tryz.sizeOf45 rfl rfl qk) (Lx_qf rfl rfl rfl rfl rfl _ (fun hA v67 hv68 => R_loadA (cs := [(idCells b.tree)]) Tryz.isAgg45 Tryz.sizeOf45 rfl (gv_t hA) ((H16.ext hv68).bx 0 rfl 4 1 4 4 _ rfl rfl rfl) qk) (Lx_qf rfl rfl rfl rfl rfl _ (fun hA v69 hv70 => R_nev (a := a.tree) (b := b.tree) eqv_ID45 rfl Tryz.eqGuardType45 (gv_t hA) (gv_t hA) qk) (Lx_q rfl rfl _ (fun v71 hv72 => R_pick rfl pk_or qk) ?_)))
 refine Lx_mv (v := (.bool ((((!(decide ((a.parents.length : Int) = (b.parents.length : Int)))) || (!(decide (a.time = b.time)))) || (!(decide (a.r = b.r)))) || (!(decide (a.tree = b.tree)))))) rfl rfl rfl (Lx_qf rfl rfl rfl rfl rfl _ (fun hA v75 hv76 => R_fieldAddr (off := 36) (oo := 36) Tryz.underlying47 rfl rfl Tryz.sizeOf9 rfl rfl qk) (Lx_qf rfl rfl rfl rfl rfl _ (fun hA v77 hv78 => R_load1 (v := (.string a.msg)) Tryz.isAgg9 (gv_t hA) ((H16.ext hv78).bx 1 rfl 5 1 36 36 _ rfl rfl rfl) qk) (Lx_qf rfl rfl rfl rfl rfl _ (fun hA v79 hv80 => R_fieldAddr (off := 36) (oo := 36) Tryz.underlying47 rfl rfl Tryz.sizeOf9 rfl rfl qk) ?_)))
 refine Lx_qf rfl rfl rfl rfl rfl _ (fun hA v81 hv82 => R_load1 (v := (.string b.msg)) Tryz.isAgg9 (gv_t hA) ((H16.ext hv82).bx 0 rfl 5 1 36 36 _ rfl rfl rfl) qk) (Lx_qf rfl rfl rfl rfl rfl _ (fun hA v83 hv84 => R_cmpS (a := a.msg) (b := b.msg) (r := (!(decide (a.msg = b.msg)))) (gv_t hA) (gv_t hA) rfl qk) (Lx_q rfl rfl _ (fun v85 hv86 => R_pick rfl pk_or qk) (Lx_mv (v := (.bool (((((!(decide ((a.parents.length : Int) = (b.parents.length : Int)))) || (!(decide (a.time = b.time)))) || (!(decide (a.r = b.r)))) || (!(decide (a.tree = b.tree)))) || (!(decide (a.msg = b.msg)))))) rfl rfl rfl ?_)))
 refine Lx_qf rfl rfl rfl rfl rfl _ (fun hA v89 hv90 => R_fieldAddr (off := 3) (oo := 3) Tryz.underlying47 rfl rfl Tryz.sizeOf43 rfl rfl qk) (Lx_qf rfl rfl rfl rfl rfl _ (fun hA v91 hv92 => R_load1 (v := (slV a.oh a.ops)) Tryz.isAgg43 (gv_t hA) ((H16.ext hv92).bx 1 rfl 3 1 3 3 _ rfl rfl rfl) qk) (Lx_qf rfl rfl rfl rfl rfl _ (fun hA v93 hv94 => R_fieldAddr (off := 3) (oo := 3) Tryz.underlying47 rfl rfl Tryz.sizeOf43 rfl rfl qk) (Lx_qf rfl rfl rfl rfl rfl _ (fun hA v95 hv96 => R_load1 (v := (slV b.oh b.ops)) Tryz.isAgg43 (gv_t hA) ((H16.ext hv96).bx 0 rfl 3 1 3 3 _ rfl rfl rfl) qk) ?_)))
 refine Lx_qf rfl rfl rfl rfl rfl (.bool (decide (a.ops.map OpS.core = b.ops.map OpS.core))) (fun hA v97 hv98 => R_callL (vs := [(slV a.oh a.ops), (slV b.oh b.ops)]) cF69 rfl (lst2 (gv_t hA) (gv_t hA)) (ref03_SameAll a.oh a.ops b.oh b.ops v97 ((H16.ext hv98).slOld 4 rfl) ((H16.ext hv98).deepOld 3 rfl) ((H16.ext hv98).slOld 1 rfl) ((H16.ext hv98).deepOld 0 rfl))) (Lx_qf rfl rfl rfl rfl rfl _ (fun hA v99 hv100 => R_not (gv_t hA) qk) (Lx_q rfl rfl _ (fun v101 hv102 => R_pick rfl pk_or qk) ?_))
 refine Lx_nil (fun w103 hw104 => ?_)
 have H105 := H16.ext hw104
 refine Then_n ?_
 refine W_cond rfl (fun hc106 => ?_) (fun hc106 => ?_)
 ·have hc106 : (((((¬ ((a.parents.length : Int) = (b.parents.length : Int)) ∨ ¬ (a.time = b.time)) ∨ ¬ (a.r = b.r)) ∨ ¬ (a.tree = b.tree)) ∨ ¬ (a.msg = b.msg)) ∨ ¬ (a.ops.map OpS.core = b.ops.map OpS.core)) := (Or.imp (fun h => (Or.imp (fun h => (Or.imp (fun h => (Or.imp (fun h => (Or.imp (fun h => (of_decide_eq_false (notT h))) (fun h => (of_decide_eq_false (notT h))) (orT h))) (fun h => (of_decide_eq_false (notT h))) (orT h))) (fun h => (of_decide_eq_false (notT h))) (orT h))) (fun h => (of_decide_eq_false (notT h))) (orT h))) (fun h => (of_decide_eq_false (notT h))) (orT hc106))
  refine W_seq (W_reg ?_)
  refine O_as (v := (.bool false)) rfl rfl ?_
  refine O_nil (Then_n (W_ret (Then_r ?_)))
  refine ret_1 (v := (.bool false)) Tryz.results27 rfl ?_
  exact ⟨(chgNe (by assumption)), H105.gr⟩
 ·have hc106 : (((((((a.parents.length : Int) = (b.parents.length : Int)) ∧ (a.time = b.time)) ∧ (a.r = b.r)) ∧ (a.tree = b.tree)) ∧ (a.msg = b.msg)) ∧ (a.ops.map OpS.core = b.ops.map OpS.core)) := (And.imp (fun h => (And.imp (fun h => (And.imp (fun h => (And.imp (fun h => (And.imp (fun h => (of_decide_eq_true (notF h))) (fun h => (of_decide_eq_true (notF h))) (orF h))) (fun h => (of_decide_eq_true (notF h))) (orF h))) (fun h => (of_decide_eq_true (notF h))) (orF h))) (fun h => (of_decide_eq_true (notF h))) (orF h))) (fun h => (of_decide_eq_true (notF h))) (orF hc106))
  refine W_skip (Then_n (W_seq (W_seq (W_reg ?_))))
  refine O_as (v := (.int .i64 0)) rfl rfl ?_
  refine O_nil (Then_n (W_block ?_))
  refine W_loop (fun m107 e108 w109 => ∃ (k : Nat), m107 = a.parents.length - k ∧ (k ≤ a.parents.length) ∧ (∀ i, i < k → nth a.parents i = nth b.parents i) ∧ ∃ eb110, e108 = envL [(2, (.pointer (some ⟨b7, 0, none⟩))), (3, (.pointer (some ⟨b12, 0, none⟩))), (5, (.int .i64 (k : Int)))] eb110 ∧ Ctx w nob w109 [boxR b12 47 [[(slV b.ph b.parents)], [(.int .i64 b.time)], [(.int .i64 b.r)], [(slV b.oh b.ops)], (idCells b.tree), [(.string b.msg)]], boxR b7 47 [[(slV a.ph a.parents)], [(.int .i64 a.time)], [(.int .i64 a.r)], [(slV a.oh a.ops)], (idCells a.tree), [(.string a.msg)]]] [deepI (Old w) stampCh 2 (fun x : OpS => x.oh) (fun x : OpS => x.over) b.ops, slI (Old w) opCh 41 b.oh b.ops, slI (Old w) idCh 32 b.ph b.parents, deepI (Old w) stampCh 2 (fun x : OpS => x.oh) (fun x : OpS => x.over) a.ops, slI (Old w) opCh 41 a.oh a.ops, slI (Old w) idCh 32 a.ph a.parents]) _ ⟨0, rfl, (by omega), (all_zero _), _, envL_self ⟨rfl, rfl, rfl, trivial⟩, H105⟩ ?_
  rintro m107 _ w109 ⟨k, rfl, hk, hn, eb110, rfl, H111⟩
  refine W_seq (W_seq (W_reg ?_))
  refine O_mv (v := (.int .i64 (k : Int))) rfl rfl ?_
  refine O_v rfl (R_fieldAddr (off := 0) (oo := 0) Tryz.underlying47 rfl rfl Tryz.sizeOf39 rfl rfl ?_)
  refine O_v rfl (R_load1 (v := (slV a.ph a.parents)) Tryz.isAgg39 rfl (H111.bx 1 rfl 0 1 0 0 _ rfl rfl rfl) ?_)
  refine O_v rfl (R_len_slice (a := a.ph.a) (n := a.parents.length) (c := a.ph.c) Tryz.underlying39 rfl ?_)
  refine O_v rfl (R_cmp (a := (k : Int)) (b := (a.parents.length : Int)) (r := (decide ((k : Int) < (a.parents.length : Int)))) rfl rfl rfl ?_)
  refine O_nil (Then_n ?_)
  refine W_cond rfl (fun hc112 => ?_) (fun hc112 => ?_)
  ·have hc112 := (of_decide_eq_true hc112)
   refine W_skip (Then_n (W_seq (W_block (W_seq ?_))))
   refine W_rgd TryzMixed [(0, .q 0), (1, .q 0), (2, .q 0), (3, .q 0), (4, .q 0), (5, .q 0), (6, .q 0), (7, .q 0), (8, .q 0), (9, .q 0), (10, .q 0)] (by kernel_rfl) ?_
   refine Lx_q rfl rfl _ (fun v113 hv114 => R_fieldAddr (off := 0) (oo := 0) Tryz.underlying47 rfl rfl Tryz.sizeOf39 rfl rfl qk) (Lx_q rfl rfl _ (fun v115 hv116 => R_load1 (v := (slV a.ph a.parents)) Tryz.isAgg39 rfl ((H111.ext hv116).bx 1 rfl 0 1 0 0 _ rfl rfl rfl) qk) (Lx_mv (v := (.int .i64 (k : Int))) rfl rfl rfl (Lx_q rfl rfl _ (fun v119 hv120 => R_index_pure (H111.sl 5 rfl) (n := a.parents.length) rfl (j := (k : Int)) (oo := (a.ph.o + k * 32)) Tryz.underlying39 Tryz.sizeOf45 rfl rfl (by omega) (by omega) rfl qk) ?_)))
   refine Lx_q rfl rfl _ (fun v121 hv122 => R_loadA (cs := [(idCells (nth a.parents k))]) Tryz.isAgg45 Tryz.sizeOf45 rfl rfl ((Sl.elem ((H111.ext hv122).sl 5 rfl) (i := k) (by omega) rfl).chunks 0 1 0 (a.ph.o + k * 32) _ rfl rfl rfl) qk) (Lx_q rfl rfl _ (fun v123 hv124 => R_fieldAddr (off := 0) (oo := 0) Tryz.underlying47 rfl rfl Tryz.sizeOf39 rfl rfl qk) (Lx_q rfl rfl _ (fun v125 hv126 => R_load1 (v := (slV b.ph b.parents)) Tryz.isAgg39 rfl ((H111.ext hv126).bx 0 rfl 0 1 0 0 _ rfl rfl rfl) qk) (Lx_mv (v := (.int .i64 (k : Int))) rfl rfl rfl ?_)))
   refine Lx_q rfl rfl _ (fun v129 hv130 => R_index_pure (H111.sl 2 rfl) (n := b.parents.length) rfl (j := (k : Int)) (oo := (b.ph.o + k * 32)) Tryz.underlying39 Tryz.sizeOf45 rfl rfl (by omega) (by omega) rfl qk) (Lx_q rfl rfl _ (fun v131 hv132 => R_loadA (cs := [(idCells (nth b.parents k))]) Tryz.isAgg45 Tryz.sizeOf45 rfl rfl ((Sl.elem ((H111.ext hv132).sl 2 rfl) (i := k) (by omega) rfl).chunks 0 1 0 (b.ph.o + k * 32) _ rfl rfl rfl) qk) (Lx_q rfl rfl _ (fun v133 hv134 => R_nev (a := (nth a.parents k)) (b := (nth b.parents k)) eqv_ID45 rfl Tryz.eqGuardType45 rfl rfl qk) ?_))
   refine Lx_nil (fun w135 hw136 => ?_)
   have H137 := H111.ext hw136
   refine Then_n ?_
   refine W_cond rfl (fun hc138 => ?_) (fun hc138 => ?_)
   ·have hc138 : ¬ ((nth a.parents k) = (nth b.parents k)) := (of_decide_eq_false (notT hc138))
    refine W_seq (W_reg ?_)
    refine O_as (v := (.bool false)) rfl rfl ?_
    refine O_nil (Then_n (W_ret (Blk_r (Then_r (Then_r (Blk_r (Then_r ?_)))))))
    refine ret_1 (v := (.bool false)) Tryz.results27 rfl ?_
    exact ⟨(chgNeP (by assumption)), H137.gr⟩
   ·have hc138 : ((nth a.parents k) = (nth b.parents k)) := (of_decide_eq_true (notF hc138))
    refine W_skip (Blk_n (Then_n (W_reg ?_)))
    refine O_mv (v := (.int .i64 (k : Int))) rfl rfl ?_
    refine O_v rfl (R_arith (a := (k : Int)) (b := 1) (r0 := (k : Int) + 1) (r := ((k + 1 : Nat) : Int)) rfl rfl rfl (wrapN _ (by omega)) ?_)
    refine O_as (v := (.int .i64 ((k + 1 : Nat) : Int))) rfl rfl ?_
    refine O_nil (Then_n ?_)
    refine ⟨_, ?_, (k + 1), rfl, (by omega), (all_succ hn (by assumption)), _, envL_self ⟨rfl, rfl, rfl, trivial⟩, H137⟩
    omega
  ·have hc112 := (of_decide_eq_false hc112)
   refine W_exit (Then_x (Then_x (Blk_x (Then_n (W_seq (W_reg ?_))))))
   refine O_as (v := (.bool true)) rfl rfl ?_
   refine O_nil (Then_n (W_ret ?_))
   refine ret_1 (v := (.bool true)) Tryz.results27 rfl ?_
   exact ⟨(chgEq (by assumption) (by rwa [show a.parents.length = k from by omega])), H111.gr⟩
set_option maxHeartbeats 1000000 in
theorem ref04_SameIDs (ha : SlH) (a : List ID) (hb : SlH) (b : List ID) (w : World) (Sa : Sl (Old w) idCh 32 ha a w) (Sb : Sl (Old w) idCh 32 hb b w) :
    Calls Tryz.prog 20 #[(slV ha a), (slV hb b)] w (Ret fun v w' => v = (.bool (decide (a = b))) ∧ Ext w w') := by
 refine calls_W Tryz.func20 rfl Tryz.ntmps20 rfl ?_
 have H0 := Ctx.start w nob
 have H1 := H0.addSl _ Sa (fun b hb => ⟨hb, fun _ ho => (nomatch ho)⟩)
 have LSa := Sa.len
 have H2 := H1.addSl _ Sb (fun b hb => ⟨hb, fun _ ho => (nomatch ho)⟩)
 have LSb := Sb.len
 refine W_seq (W_reg ?_)
 refine O_as (v := (.bool false)) rfl rfl ?_
 refine O_nil (Then_n (W_seq (W_seq (W_reg ?_))))
 refine O_mv (v := (slV ha a)) rfl rfl ?_
 refine O_v rfl (R_len_slice (a := ha.a) (n := a.length) (c := ha.c) Tryz.underlying39 rfl ?_)
 refine O_mv (v := (slV hb b)) rfl rfl ?_
 refine O_v rfl (R_len_slice (a := hb.a) (n := b.length) (c := hb.c) Tryz.underlying41 rfl ?_)
 refine O_v rfl (R_cmp (a := (a.length : Int)) (b := (b.length : Int)) (r := (!(decide ((a.length : Int) = (b.length : Int))))) rfl rfl rfl ?_)
 refine O_nil (Then_n ?_)
 refine W_cond rfl (fun hc3 => ?_) (fun hc3 => ?_)
 ·have hc3 : ¬ ((a.length : Int) = (b.length : Int)) := (of_decide_eq_false (notT hc3))
  refine W_seq (W_reg ?_)
  refine O_as (v := (.bool false)) rfl rfl ?_
  refine O_nil (Then_n (W_ret (Then_r ?_)))
  refine ret_1 (v := (.bool false)) Tryz.results20 rfl ?_
  exact ⟨(boolF (fun h => by subst h; omega)), H2.gr⟩
 ·have hc3 : ((a.length : Int) = (b.length : Int)) := (of_decide_eq_true (notF hc3))
  refine W_skip (Then_n (W_seq (W_seq (W_reg ?_))))
  refine O_as (v := (.int .i64 0)) rfl rfl ?_
  refine O_nil (Then_n (W_block ?_))
  refine W_loop (fun m4 e5 w6 => ∃ (k : Nat), m4 = a.length - k ∧ (k ≤ a.length) ∧ (∀ i, i < k → nth a i = nth b i) ∧ ∃ eb7, e5 = envL [(0, (slV ha a)), (1, (slV hb b)), (5, (.int .i64 (k : Int)))] eb7 ∧ Ctx w nob w6 [] [slI (Old w) idCh 32 hb b, slI (Old w) idCh 32 ha a]) _ ⟨0, rfl, (by omega), (all_zero _), _, envL_self ⟨rfl, rfl, rfl, trivial⟩, H2⟩ ?_
  rintro m4 _ w6 ⟨k, rfl, hk, hn, eb7, rfl, H8⟩
  refine W_seq (W_seq (W_reg ?_))
  refine O_mv (v := (.int .i64 (k : Int))) rfl rfl (O_mv (v := (slV ha a)) rfl rfl ?_)
  refine O_v rfl (R_len_slice (a := ha.a) (n := a.length) (c := ha.c) Tryz.underlying39 rfl ?_)
  refine O_v rfl (R_cmp (a := (k : Int)) (b := (a.length : Int)) (r := (decide ((k : Int) < (a.length : Int)))) rfl rfl rfl ?_)
  refine O_nil (Then_n ?_)
  refine W_cond rfl (fun hc9 => ?_) (fun hc9 => ?_)
  ·have hc9 := (of_decide_eq_true hc9)
   refine W_skip (Then_n (W_seq (W_block (W_seq ?_))))
   refine W_rgd TryzMixed [(0, .q 0), (1, .q 0), (2, .q 0), (3, .q 0), (4, .q 0), (5, .q 0), (6, .q 0), (7, .q 0), (8, .q 0)] (by kernel_rfl) ?_
   refine Lx_mv (v := (slV ha a)) rfl rfl rfl (Lx_mv (v := (.int .i64 (k : Int))) rfl rfl rfl (Lx_q rfl rfl _ (fun v14 hv15 => R_index_pure (H8.sl 1 rfl) (n := a.length) rfl (j := (k : Int)) (oo := (ha.o + k * 32)) Tryz.underlying39 Tryz.sizeOf45 rfl rfl (by omega) (by omega) rfl qk) (Lx_q rfl rfl _ (fun v16 hv17 => R_loadA (cs := [(idCells (nth a k))]) Tryz.isAgg45 Tryz.sizeOf45 rfl rfl ((Sl.elem ((H8.ext hv17).sl 1 rfl) (i := k) (by omega) rfl).chunks 0 1 0 (ha.o + k * 32) _ rfl rfl rfl) qk) ?_)))
   refine Lx_mv (v := (slV hb b)) rfl rfl rfl (Lx_mv (v := (.int .i64 (k : Int))) rfl rfl rfl (Lx_q rfl rfl _ (fun v22 hv23 => R_index_pure (H8.sl 0 rfl) (n := b.length) rfl (j := (k : Int)) (oo := (hb.o + k * 32)) Tryz.underlying41 Tryz.sizeOf44 rfl rfl (by omega) (by omega) rfl qk) (Lx_q rfl rfl _ (fun v24 hv25 => R_loadA (cs := [(idCells (nth b k))]) Tryz.isAgg44 Tryz.sizeOf44 rfl rfl ((Sl.elem ((H8.ext hv25).sl 0 rfl) (i := k) (by omega) rfl).chunks 0 1 0 (hb.o + k * 32) _ rfl rfl rfl) qk) ?_)))
   refine Lx_q rfl rfl _ (fun v26 hv27 => R_nev (a := (nth a k)) (b := (nth b k)) eqv_ID45 rfl Tryz.eqGuardType45 rfl rfl qk) ?_
   refine Lx_nil (fun w28 hw29 => ?_)
   have H30 := H8.ext hw29
   refine Then_n ?_
   refine W_cond rfl (fun hc31 => ?_) (fun hc31 => ?_)
   ·have hc31 : ¬ ((nth a k) = (nth b k)) := (of_decide_eq_false (notT hc31))
    refine W_seq (W_reg ?_)
    refine O_as (v := (.bool false)) rfl rfl ?_
    refine O_nil (Then_n (W_ret (Blk_r (Then_r (Then_r (Blk_r (Then_r ?_)))))))
    refine ret_1 (v := (.bool false)) Tryz.results20 rfl ?_
    exact ⟨(boolF (fun h => by subst h; exact absurd rfl (by assumption))), H30.gr⟩
   ·have hc31 : ((nth a k) = (nth b k)) := (of_decide_eq_true (notF hc31))
    refine W_skip (Blk_n (Then_n (W_reg ?_)))
    refine O_mv (v := (.int .i64 (k : Int))) rfl rfl ?_
    refine O_v rfl (R_arith (a := (k : Int)) (b := 1) (r0 := (k : Int) + 1) (r := ((k + 1 : Nat) : Int)) rfl rfl rfl (wrapN _ (by omega)) ?_)
    refine O_as (v := (.int .i64 ((k + 1 : Nat) : Int))) rfl rfl ?_
    refine O_nil (Then_n ?_)
    refine ⟨_, ?_, (k + 1), rfl, (by omega), (all_succ hn (by assumption)), _, envL_self ⟨rfl, rfl, rfl, trivial⟩, H30⟩
    omega
  ·have hc9 := (of_decide_eq_false hc9)
   refine W_exit (Then_x (Then_x (Blk_x (Then_n (W_seq (W_reg ?_))))))
   refine O_as (v := (.bool true)) rfl rfl ?_
   refine O_nil (Then_n (W_ret ?_))
   refine ret_1 (v := (.bool true)) Tryz.results20 rfl ?_
   exact ⟨(boolT (eq_of_nth (by omega) (by rwa [show a.length = k from by omega]))), H8.gr⟩
end Go.Proofs.YthjdhfoeckfmbaaGreat
namespace Go.Proofs.YthjdhfoeckfmbaaGreat
open Go
set_option maxRecDepth 100000
set_option linter.unusedVariables false
set_option linter.unusedSimpArgs false
set_option linter.unusedSectionVars false
theorem cF9 : callable Tryz.prog 9 = true := by kernel_rfl
theorem cF12 : callable Tryz.prog 12 = true := by kernel_rfl
theorem cF20 : callable Tryz.prog 20 = true := by kernel_rfl
theorem cF22 : callable Tryz.prog 22 = true := by kernel_rfl
theorem cF26 : callable Tryz.prog 26 = true := by kernel_rfl
theorem cF27 : callable Tryz.prog 27 = true := by kernel_rfl
set_option maxHeartbeats 4000000 in
theorem law04_ObjChanges (c : ChangeS) (w : World) (Sc_parents : Sl (Old w) idCh 32 c.ph c.parents w) (Sc_ops : Sl (Old w) opCh 41 c.oh c.ops w) (Dc_over : ∀ x ∈ c.ops, Sl (Old w) stampCh 2 x.oh x.over w) (hn : ∀ o ∈ c.ops, o.name.size ≤ 9223372036854775807) :
    Calls Tryz.prog 5 #[(aggOf (changeCh c))] w (Ret fun v w' => v = (.bool true) ∧ Ext w w') := by
 refine calls_W Tryz.func5 rfl Tryz.ntmps5 rfl ?_
 have H0 := Ctx.start w nob
 have H1 := H0.addSl _ Sc_parents (fun b hb => ⟨hb, fun _ ho => (nomatch ho)⟩)
 have LSc_parents := Sc_parents.len
 have H2 := H1.addSl _ Sc_ops (fun b hb => ⟨hb, fun _ ho => (nomatch ho)⟩)
 have LSc_ops := Sc_ops.len
 have H3 := H2.addImm' (deepI (Old w) stampCh 2 (fun x : OpS => x.oh) (fun x : OpS => x.over) c.ops) Dc_over (fun b hb => ⟨hb, fun _ ho => (nomatch ho)⟩)
 refine W_seq (W_reg ?_)
 refine O_v rfl (C_box H3 [[(slV c.ph c.parents)], [(.int .i64 c.time)], [(.int .i64 c.r)], [(slV c.oh c.ops)], (idCells c.tree), [(.string c.msg)]] rfl ?_)
 intro b4 w5 hb6 hx7 H8
 refine O_as (v := (.bool false)) rfl rfl ?_
 refine O_nil (Then_n (W_seq (W_seq (W_reg ?_))))
 refine O_v rfl (R_callL (vs := []) cF9 rfl rfl ((law04_alive  w5 ).ret ?_))
 rintro _ w9 ⟨rfl, hx10⟩
 have H11 := H8.ext hx10
 refine O_v rfl (R_not rfl ?_)
 refine O_nil (Then_n ?_)
 refine W_cond_f rfl ?_
 refine W_skip (Then_n (W_seq (W_reg ?_)))
 refine O_v rfl (R_loadA (cs := [[(slV c.ph c.parents)], [(.int .i64 c.time)], [(.int .i64 c.r)], [(slV c.oh c.ops)], (idCells c.tree), [(.string c.msg)]]) Tryz.isAgg47 Tryz.sizeOf47 rfl rfl (H11.bx 0 rfl 0 6 0 0 _ rfl rfl rfl) ?_)
 refine O_v rfl (R_callL (vs := [(aggOf (changeCh c))]) cF23 rfl rfl ((obj_PutChange c w9 (H11.slOld 2 rfl) (H11.slOld 1 rfl) (H11.deepOld 0 rfl)).ret ?_))
 rintro _ w13 ⟨h12, rfl, hx14, ho15⟩
 have H16 := H11.addRow hx14 ho15
 refine O_mv (v := (.tuple #[(slV h12 (putChangeB c)), (.int .i64 (putChangeE c))])) rfl rfl (O_ex (v := (slV h12 (putChangeB c))) rfl rfl rfl (O_ex (v := (.int .i64 (putChangeE c))) rfl rfl rfl (O_as (v := (slV h12 (putChangeB c))) rfl rfl ?_)))
 refine O_as (v := (.int .i64 (putChangeE c))) rfl rfl ?_
 refine O_nil (Then_n (W_seq (W_seq (W_reg ?_))))
 refine O_v rfl (R_loadA (cs := [[(slV c.ph c.parents)], [(.int .i64 c.time)], [(.int .i64 c.r)], [(slV c.oh c.ops)], (idCells c.tree), [(.string c.msg)]]) Tryz.isAgg47 Tryz.sizeOf47 rfl rfl (H16.bx 1 rfl 0 6 0 0 _ rfl rfl rfl) ?_)
 refine O_v rfl (R_callL (vs := [(aggOf (changeCh c))]) cF24 rfl rfl ((ref04_RightChange c w13 (H16.slOld 2 rfl) (H16.slOld 1 rfl) (H16.deepOld 0 rfl) hn).ret ?_))
 rintro _ w17 ⟨rfl, hx18⟩
 have H19 := H16.ext hx18
 refine O_v rfl (R_not rfl ?_)
 refine O_nil (Then_n ?_)
 refine W_cond rfl (fun hc20 => ?_) (fun hc20 => ?_)
 ·have hc20 : (changeOk c) = false := (notT hc20)
  refine W_seq (W_reg ?_)
  refine O_mv (v := (.int .i64 (putChangeE c))) rfl rfl ?_
  refine O_v rfl (R_cmp (a := putChangeE c) (b := 1) (r := (decide (putChangeE c = 1))) rfl rfl rfl ?_)
  refine O_mv (v := (.bool (decide (putChangeE c = 1)))) rfl rfl ?_
  refine O_g true (decide (putChangeE c = 1)) rfl rfl rfl rfl (decide (putChangeE c = 1)) ga_t (slV h12 (putChangeB c)) (fun hA => R_move (v := (slV h12 (putChangeB c))) rfl qk) (fun w21 hx22 => ?_)
  have H23 := H19.ext hx22
  refine O_g true (decide (putChangeE c = 1)) rfl rfl rfl rfl (decide (putChangeE c = 1)) ga_t (.int .i64 (((putChangeB c).length : Nat) : Int)) (fun hA => R_len_slice (a := h12.a) (n := (putChangeB c).length) (c := h12.c) Tryz.underlying22 (gv_t hA) qk) (fun w24 hx25 => ?_)
  have H26 := H23.ext hx25
  refine O_g true (decide (putChangeE c = 1)) rfl rfl rfl rfl (decide (putChangeE c = 1)) ga_t (.bool (decide ((((putChangeB c).length : Nat) : Int) = 0))) (fun hA => R_cmp (a := (((putChangeB c).length : Nat) : Int)) (b := 0) (r := (decide ((((putChangeB c).length : Nat) : Int) = 0))) (gv_t hA) rfl rfl qk) (fun w27 hx28 => ?_)
  have H29 := H26.ext hx28
  refine O_v rfl (R_pick (t := (decide (putChangeE c = 1))) (v := (.bool ((decide (putChangeE c = 1)) && (decide ((((putChangeB c).length : Nat) : Int) = 0))))) rfl pk_and ?_)
  refine O_as (v := (.bool ((decide (putChangeE c = 1)) && (decide ((((putChangeB c).length : Nat) : Int) = 0))))) rfl rfl ?_
  refine O_nil (Then_n (W_ret (Then_r ?_)))
  refine ret_1 (v := (.bool ((decide (putChangeE c = 1)) && (decide ((((putChangeB c).length : Nat) : Int) = 0))))) Tryz.results5 rfl ?_
  exact ⟨(chgs_no (by assumption)), H29.gr⟩
 ·have hc20 : (changeOk c) = true := (notF hc20)
  have hC := hc20
  refine W_skip (Then_n (W_seq (W_reg ?_)))
  refine O_mv (v := (slV h12 (putChangeB c))) rfl rfl ?_
  refine O_v rfl (R_callL (vs := [(slV h12 (putChangeB c))]) cF25 rfl rfl ((obj_Change h12 (putChangeB c) w17 (H19.rowSl 0 rfl (fun _ => rfl)) (chgs_len hC)).ret ?_))
  rintro _ w33 ⟨x30, S31, e32, rfl, hx34, hS35, hs36, hs37, hs38, hr39⟩
  have H41 := H19.addImm hx34 (slI S31 idCh 32 x30.ph x30.parents) hs36 hS35
  have H42 := H41.immOf 0 rfl (slI S31 opCh 41 x30.oh x30.ops) (fun _ h => h) (fun _ => hs37)
  have H43 := H42.immOf 0 rfl (deepI S31 stampCh 2 (fun x : OpS => x.oh) (fun x : OpS => x.over) x30.ops) (fun _ h => h) (fun _ => hs38)
  refine O_mv (v := (.tuple #[(aggOf (changeCh x30)), (.int .i64 e32)])) rfl rfl (O_ex (v := (aggOf (changeCh x30))) rfl rfl rfl (O_ex (v := (.int .i64 e32)) rfl rfl rfl ?_))
  refine O_v rfl (C_alloc H43 [[(.slice none 0 0)], [(.int .i64 0)], [(.int .i64 0)], [(.slice none 0 0)], (idCells zeroId), [(.string ByteArray.empty)]] Tryz.zeroValue47 ?_)
  intro b44 w45 hb46 hx47 H48
  refine O_u (C_storeW H48 0 rfl (sub := [[(slV x30.ph x30.parents)], [(.int .i64 x30.time)], [(.int .i64 x30.r)], [(slV x30.oh x30.ops)], (idCells x30.tree), [(.string x30.msg)]]) Tryz.sizeOf47 rfl rfl rfl rfl rfl ?_)
  intro w49 hg50 H51
  refine O_as (v := (.int .i64 e32)) rfl rfl ?_
  refine O_nil (Then_n (W_seq (W_reg ?_)))
  refine O_mv (v := (.int .i64 (putChangeE c))) rfl rfl ?_
  refine O_k rfl (.bool true) (R_cmp (a := putChangeE c) (b := 0) (r := (decide (putChangeE c = 0))) rfl rfl rfl ⟨(boolK (decide_eq_true (if_pos hC))), Gr.refl _ _⟩) (fun w52 hx53 => ?_)
  have H54 := H51.ext hx53
  refine O_mv (v := (.bool true)) rfl rfl ?_
  refine O_vT rfl rfl rfl rfl (R_move (v := (slV h12 (putChangeB c))) rfl ?_)
  refine O_vT rfl rfl rfl rfl (R_loadA (cs := [[(slV c.ph c.parents)], [(.int .i64 c.time)], [(.int .i64 c.r)], [(slV c.oh c.ops)], (idCells c.tree), [(.string c.msg)]]) Tryz.isAgg47 Tryz.sizeOf47 rfl rfl (H54.bx 2 rfl 0 6 0 0 _ rfl rfl rfl) ?_)
  refine O_vT rfl rfl rfl rfl (R_callL (vs := [(aggOf (changeCh c))]) cF26 rfl rfl ((ref04_PutChange c w52 (H54.slOld 5 rfl) (H54.slOld 4 rfl) (H54.deepOld 3 rfl) hC hn).ret ?_))
  rintro _ w56 ⟨h55, rfl, hx57, ho58⟩
  have H59 := H54.addRow hx57 ho58
  refine O_kT rfl rfl rfl rfl (.bool true) (R_callL (vs := [(slV h12 (putChangeB c)), (slV h55 (changeB c))]) cF12 rfl rfl ((ref01_SameBytes h12 (putChangeB c) h55 (changeB c) w56 (H59.rowSl 2 rfl (fun _ => rfl)) (H59.rowSl 0 rfl (fun _ => rfl))).ret (fun _ _ h => ⟨h.1.trans (boolK (decide_eq_true (if_pos hC))), h.2⟩))) (fun w60 hx61 => ?_)
  have H62 := H59.ext hx61
  refine O_v rfl (R_pick (t := true) (v := (.bool true)) rfl rfl ?_)
  refine O_mv (v := (.bool true)) rfl rfl ?_
  refine O_vT rfl rfl rfl rfl (R_move (v := (.int .i64 e32)) rfl ?_)
  refine O_kT rfl rfl rfl rfl (.bool true) (R_cmp (a := e32) (b := 0) (r := (decide (e32 = 0))) rfl rfl rfl ⟨(boolK (decide_eq_true (chgs_e hC hr39))), Gr.refl _ _⟩) (fun w63 hx64 => ?_)
  have H65 := H62.ext hx64
  refine O_v rfl (R_pick (t := true) (v := (.bool true)) rfl rfl ?_)
  refine O_mv (v := (.bool true)) rfl rfl ?_
  refine O_vT rfl rfl rfl rfl (R_loadA (cs := [[(slV x30.ph x30.parents)], [(.int .i64 x30.time)], [(.int .i64 x30.r)], [(slV x30.oh x30.ops)], (idCells x30.tree), [(.string x30.msg)]]) Tryz.isAgg47 Tryz.sizeOf47 rfl rfl (H65.bx 1 rfl 0 6 0 0 _ rfl rfl rfl) ?_)
  refine O_vT rfl rfl rfl rfl (R_loadA (cs := [[(slV c.ph c.parents)], [(.int .i64 c.time)], [(.int .i64 c.r)], [(slV c.oh c.ops)], (idCells c.tree), [(.string c.msg)]]) Tryz.isAgg47 Tryz.sizeOf47 rfl rfl (H65.bx 3 rfl 0 6 0 0 _ rfl rfl rfl) ?_)
  refine O_kT rfl rfl rfl rfl (.bool true) (R_callL (vs := [(aggOf (changeCh x30)), (aggOf (changeCh c))]) cF27 rfl rfl ((ref04_SameChange x30 c w63 (H65.slOld 2 rfl) (H65.slOld 1 rfl) (H65.deepOld 0 rfl) (H65.slOld 5 rfl) (H65.slOld 4 rfl) (H65.deepOld 3 rfl)).ret (fun _ _ h => ⟨h.1.trans (boolK (decide_eq_true (chgs_same hC hr39))), h.2⟩))) (fun w66 hx67 => ?_)
  have H68 := H65.ext hx67
  refine O_v rfl (R_pick (t := true) (v := (.bool true)) rfl rfl ?_)
  refine O_mv (v := (.bool true)) rfl rfl ?_
  refine O_vT rfl rfl rfl rfl (R_move (v := (slV h12 (putChangeB c))) rfl ?_)
  refine O_kT rfl rfl rfl rfl (.int .i64 (kindOf (putChangeB c))) (R_callL (vs := [(slV h12 (putChangeB c))]) cF14 rfl rfl (obj_Kind h12 (putChangeB c) w66 (H68.rowSl 2 rfl (fun _ => rfl)) (chgs_len hC))) (fun w69 hx70 => ?_)
  have H71 := H68.ext hx70
  refine O_kT rfl rfl rfl rfl (.bool true) (R_cmp (a := kindOf (putChangeB c)) (b := 3) (r := (decide (kindOf (putChangeB c) = 3))) rfl rfl rfl ⟨(boolK (decide_eq_true (chgs_kind hC))), Gr.refl _ _⟩) (fun w72 hx73 => ?_)
  have H74 := H71.ext hx73
  refine O_v rfl (R_pick (t := true) (v := (.bool true)) rfl rfl ?_)
  refine O_mv (v := (.bool true)) rfl rfl ?_
  refine O_vT rfl rfl rfl rfl (R_move (v := (slV h12 (putChangeB c))) rfl ?_)
  refine O_vT rfl rfl rfl rfl (R_callL (vs := [(slV h12 (putChangeB c))]) cF21 rfl rfl ((obj_LinksG h12 (putChangeB c) w72 (H74.rowSl 2 rfl (fun _ => rfl)) (chgs_len hC)).ret ?_))
  rintro _ w77 ⟨h75, S76, rfl, hx78, hS79, hv80⟩
  have H81 := H74.addImm hx78 (slI S76 idCh 32 h75 (linksOf (putChangeB c))) hv80 hS79
  refine O_vT rfl rfl rfl rfl (R_move (v := (slV h12 (putChangeB c))) rfl ?_)
  refine O_vT rfl rfl rfl rfl (R_callL (vs := [(slV h12 (putChangeB c))]) cF22 rfl rfl ((ref04_LinksG h12 (putChangeB c) w77 (H81.rowSl 2 rfl (fun _ => rfl))).ret ?_))
  rintro _ w83 ⟨h82, rfl, hx84, ho85⟩
  have H86 := H81.addRow hx84 ho85
  refine O_kT rfl rfl rfl rfl (.bool true) (R_callL (vs := [(slV h75 (linksOf (putChangeB c))), (slV h82 (linksOf (putChangeB c)))]) cF20 rfl rfl ((ref04_SameIDs h75 (linksOf (putChangeB c)) h82 (linksOf (putChangeB c)) w83 (H86.slOld 0 rfl) (H86.rowSl 0 rfl (fun _ => rfl))).ret (fun _ _ h => ⟨h.1.trans (boolK (decide_eq_true rfl)), h.2⟩))) (fun w87 hx88 => ?_)
  have H89 := H86.ext hx88
  refine O_v rfl (R_pick (t := true) (v := (.bool true)) rfl rfl ?_)
  refine O_as (v := (.bool true)) rfl rfl ?_
  refine O_nil (Then_n (W_ret ?_))
  refine ret_1 (v := (.bool true)) Tryz.results5 rfl ?_
  exact ⟨rfl, H89.gr⟩
end Go.Proofs.YthjdhfoeckfmbaaGreat
