/- Proved: for every input, pollardlaw04.ObjDirs returns true and leaves its argument as it was. No condition. -/
import Derived.Test.YthjdhfoeckfmbaaGreatX5
namespace Go.Proofs.YthjdhfoeckfmbaaGreat
open Go
set_option maxRecDepth 100000
set_option linter.unusedVariables false
set_option linter.unusedSimpArgs false
set_option linter.unusedSectionVars false
variable [DD]
theorem cF52 : callable Tryz.prog 52 = true := by kernel_rfl
set_option maxHeartbeats 4000000 in
theorem ref04_SameDir (ha : SlH) (a : List ItemS) (hb : SlH) (b : List ItemS) (w : World) (Sa : Sl (Old w) itemCh 38 ha a w) (Da_heads : ∀ x ∈ a, Sl (Old w) headCh 34 x.hh x.heads w) (Sb : Sl (Old w) itemCh 38 hb b w) (Db_heads : ∀ x ∈ b, Sl (Old w) headCh 34 x.hh x.heads w) :
    Calls Tryz.prog 19 #[(slV ha a), (slV hb b)] w (Ret fun v w' => v = (.bool (decide (a.map ItemS.core = b.map ItemS.core))) ∧ Ext w w') := by
 refine calls_W Tryz.func19 rfl Tryz.ntmps19 rfl ?_
 have H0 := Ctx.start w nob
 have H1 := H0.addSl _ Sa (fun b hb => ⟨hb, fun _ ho => (nomatch ho)⟩)
 have LSa := Sa.len
 have H2 := H1.addImm' (deepI (Old w) headCh 34 (fun x : ItemS => x.hh) (fun x : ItemS => x.heads) a) Da_heads (fun b hb => ⟨hb, fun _ ho => (nomatch ho)⟩)
 have H3 := H2.addSl _ Sb (fun b hb => ⟨hb, fun _ ho => (nomatch ho)⟩)
 have LSb := Sb.len
 have H4 := H3.addImm' (deepI (Old w) headCh 34 (fun x : ItemS => x.hh) (fun x : ItemS => x.heads) b) Db_heads (fun b hb => ⟨hb, fun _ ho => (nomatch ho)⟩)
 refine W_seq (W_reg ?_)
 refine O_as (v := (.bool false)) rfl rfl ?_
 refine O_nil (Then_n (W_seq (W_seq (W_reg ?_))))
 refine O_mv (v := (slV ha a)) rfl rfl ?_
 refine O_v rfl (R_len_slice (a := ha.a) (n := a.length) (c := ha.c) Tryz.underlying31 rfl ?_)
 refine O_mv (v := (slV hb b)) rfl rfl ?_
 refine O_v rfl (R_len_slice (a := hb.a) (n := b.length) (c := hb.c) Tryz.underlying31 rfl ?_)
 refine O_v rfl (R_cmp (a := (a.length : Int)) (b := (b.length : Int)) (r := (!(decide ((a.length : Int) = (b.length : Int))))) rfl rfl rfl ?_)
 refine O_nil (Then_n ?_)
 refine W_cond rfl (fun hc5 => ?_) (fun hc5 => ?_)
 ·have hc5 : ¬ ((a.length : Int) = (b.length : Int)) := (of_decide_eq_false (notT hc5))
  refine W_seq (W_reg ?_)
  refine O_as (v := (.bool false)) rfl rfl ?_
  refine O_nil (Then_n (W_ret (Then_r ?_)))
  refine ret_1 (v := (.bool false)) Tryz.results19 rfl ?_
  exact ⟨(boolF (map_ne_len ItemS.core (by assumption))), H4.gr⟩
 ·have hc5 : ((a.length : Int) = (b.length : Int)) := (of_decide_eq_true (notF hc5))
  refine W_skip (Then_n (W_seq (W_seq (W_reg ?_))))
  refine O_as (v := (.int .i64 0)) rfl rfl ?_
  refine O_nil (Then_n (W_block ?_))
  refine W_loop (fun m6 e7 w8 => ∃ (k : Nat), m6 = a.length - k ∧ (k ≤ a.length) ∧ (∀ i, i < k → (nth a i).core = (nth b i).core) ∧ ∃ eb9, e7 = envL [(0, (slV ha a)), (1, (slV hb b)), (5, (.int .i64 (k : Int)))] eb9 ∧ Ctx w nob w8 [] [deepI (Old w) headCh 34 (fun x : ItemS => x.hh) (fun x : ItemS => x.heads) b, slI (Old w) itemCh 38 hb b, deepI (Old w) headCh 34 (fun x : ItemS => x.hh) (fun x : ItemS => x.heads) a, slI (Old w) itemCh 38 ha a]) _ ⟨0, rfl, (by omega), (all_zero _), _, envL_self ⟨rfl, rfl, rfl, trivial⟩, H4⟩ ?_
  rintro m6 _ w8 ⟨k, rfl, hk, hn, eb9, rfl, H10⟩
  refine W_seq (W_seq (W_reg ?_))
  refine O_mv (v := (.int .i64 (k : Int))) rfl rfl (O_mv (v := (slV ha a)) rfl rfl ?_)
  refine O_v rfl (R_len_slice (a := ha.a) (n := a.length) (c := ha.c) Tryz.underlying31 rfl ?_)
  refine O_v rfl (R_cmp (a := (k : Int)) (b := (a.length : Int)) (r := (decide ((k : Int) < (a.length : Int)))) rfl rfl rfl ?_)
  refine O_nil (Then_n ?_)
  refine W_cond rfl (fun hc11 => ?_) (fun hc11 => ?_)
  ·have hc11 := (of_decide_eq_true hc11)
   refine W_skip (Then_n (W_seq (W_block (W_seq ?_))))
   refine W_rgd TryzMixed [(0, .q 0), (1, .q 0), (2, .q 0), (3, .q 0), (4, .q 0), (5, .q 0), (6, .q 0), (7, .q 0), (8, .q 0), (9, .q 0), (10, .q 0), (11, .q 0), (12, .q 0), (13, .q 0), (14, .q 0), (15, .q 0), (16, .q 0), (17, .q 0), (18, .q 0), (19, .q 0), (20, .q 0), (21, .q 0), (22, .q 0), (23, .q 0), (24, .q 0), (25, .q 0), (26, .q 0), (27, .q 0), (28, .q 0), (29, .q 0), (30, .q 0), (31, .q 0), (32, .q 0), (33, .q 0), (34, .q 0), (35, .q 0), (36, .q 0), (37, .q 0), (38, .q 0), (39, .q 0), (40, .q 0), (41, .q 0), (42, .q 0), (43, .q 0), (44, .q 0), (45, .q 0), (46, .q 0), (47, .q 0), (48, .q 0), (49, .q 0), (50, .q 0), (51, .q 0), (52, .q 0), (53, .q 0), (54, .q 0), (55, .q 0), (56, .q 0), (57, .q 0), (58, .q 0), (59, .q 0), (60, .q 0), (61, .q 0), (62, .q 0), (63, .q 0)] (by kernel_rfl) ?_
   refine Lx_mv (v := (slV ha a)) rfl rfl rfl (Lx_mv (v := (.int .i64 (k : Int))) rfl rfl rfl (Lx_q rfl rfl _ (fun v16 hv17 => R_index_pure (H10.sl 3 rfl) (n := a.length) rfl (j := (k : Int)) (oo := (ha.o + k * 38)) Tryz.underlying31 Tryz.sizeOf77 rfl rfl (by omega) (by omega) rfl qk) (Lx_q rfl rfl _ (fun v18 hv19 => R_fieldAddr (off := 0) (oo := (ha.o + k * 38)) Tryz.underlying77 rfl rfl Tryz.sizeOf69 rfl rfl qk) ?_)))
   refine Lx_q rfl rfl _ (fun v20 hv21 => R_loadA (cs := [[(.int .i64 (((nth a k).node).T))], [(.int .i64 (((nth a k).node).R))]]) Tryz.isAgg69 Tryz.sizeOf69 rfl rfl ((Sl.elem ((H10.ext hv21).sl 3 rfl) (i := k) (by omega) rfl).chunks 0 2 0 (ha.o + k * 38) _ rfl rfl rfl) qk) (Lx_mv (v := (slV hb b)) rfl rfl rfl (Lx_mv (v := (.int .i64 (k : Int))) rfl rfl rfl (Lx_q rfl rfl _ (fun v26 hv27 => R_index_pure (H10.sl 1 rfl) (n := b.length) rfl (j := (k : Int)) (oo := (hb.o + k * 38)) Tryz.underlying31 Tryz.sizeOf77 rfl rfl (by omega) (by omega) rfl qk) ?_)))
   refine Lx_q rfl rfl _ (fun v28 hv29 => R_fieldAddr (off := 0) (oo := (hb.o + k * 38)) Tryz.underlying77 rfl rfl Tryz.sizeOf69 rfl rfl qk) (Lx_q rfl rfl _ (fun v30 hv31 => R_loadA (cs := [[(.int .i64 (((nth b k).node).T))], [(.int .i64 (((nth b k).node).R))]]) Tryz.isAgg69 Tryz.sizeOf69 rfl rfl ((Sl.elem ((H10.ext hv31).sl 1 rfl) (i := k) (by omega) rfl).chunks 0 2 0 (hb.o + k * 38) _ rfl rfl rfl) qk) (Lx_q rfl rfl _ (fun v32 hv33 => R_nev (a := ((nth a k).node)) (b := ((nth b k).node)) eqv_Stamp69 rfl Tryz.eqGuardType69 rfl rfl qk) (Lx_mv (v := (.bool (!(decide (((nth a k).node) = ((nth b k).node)))))) rfl rfl rfl ?_)))
   refine Lx_qf rfl rfl rfl rfl rfl _ (fun hA v36 hv37 => R_move (v := (slV ha a)) rfl qk) (Lx_qf rfl rfl rfl rfl rfl _ (fun hA v38 hv39 => R_move (v := (.int .i64 (k : Int))) rfl qk) ?_)
   refine Lx_qf rfl rfl rfl rfl rfl _ (fun hA v40 hv41 => by
          have hP : (((nth a k).node) = ((nth b k).node)) := (of_decide_eq_true (notF (notT hA)))
          exact R_index_pure (H10.sl 3 rfl) (n := a.length) rfl (j := (k : Int)) (oo := (ha.o + k * 38)) Tryz.underlying31 Tryz.sizeOf77 (gv_t hA) (gv_t hA) (by omega) (by omega) rfl qk) ?_
   refine Lx_qf rfl rfl rfl rfl rfl _ (fun hA v42 hv43 => R_fieldAddr (off := 2) (oo := ((ha.o + k * 38) + 2)) Tryz.underlying77 rfl rfl Tryz.sizeOf69 (gv_t hA) rfl qk) ?_
   refine Lx_qf rfl rfl rfl rfl rfl _ (fun hA v44 hv45 => by
          have hP : (((nth a k).node) = ((nth b k).node)) := (of_decide_eq_true (notF (notT hA)))
          exact R_loadA (cs := [[(.int .i64 (((nth a k).tm).T))], [(.int .i64 (((nth a k).tm).R))]]) Tryz.isAgg69 Tryz.sizeOf69 rfl (gv_t hA) ((Sl.elem ((H10.ext hv45).sl 3 rfl) (i := k) (by omega) rfl).chunks 2 2 2 ((ha.o + k * 38) + 2) _ rfl rfl rfl) qk) ?_
   refine Lx_qf rfl rfl rfl rfl rfl _ (fun hA v46 hv47 => R_move (v := (slV hb b)) rfl qk) (Lx_qf rfl rfl rfl rfl rfl _ (fun hA v48 hv49 => R_move (v := (.int .i64 (k : Int))) rfl qk) ?_)
   refine Lx_qf rfl rfl rfl rfl rfl _ (fun hA v50 hv51 => by
          have hP : (((nth a k).node) = ((nth b k).node)) := (of_decide_eq_true (notF (notT hA)))
          exact R_index_pure (H10.sl 1 rfl) (n := b.length) rfl (j := (k : Int)) (oo := (hb.o + k * 38)) Tryz.underlying31 Tryz.sizeOf77 (gv_t hA) (gv_t hA) (by omega) (by omega) rfl qk) ?_
   refine Lx_qf rfl rfl rfl rfl rfl _ (fun hA v52 hv53 => R_fieldAddr (off := 2) (oo := ((hb.o + k * 38) + 2)) Tryz.underlying77 rfl rfl Tryz.sizeOf69 (gv_t hA) rfl qk) ?_
   refine Lx_qf rfl rfl rfl rfl rfl _ (fun hA v54 hv55 => by
          have hP : (((nth a k).node) = ((nth b k).node)) := (of_decide_eq_true (notF (notT hA)))
          exact R_loadA (cs := [[(.int .i64 (((nth b k).tm).T))], [(.int .i64 (((nth b k).tm).R))]]) Tryz.isAgg69 Tryz.sizeOf69 rfl (gv_t hA) ((Sl.elem ((H10.ext hv55).sl 1 rfl) (i := k) (by omega) rfl).chunks 2 2 2 ((hb.o + k * 38) + 2) _ rfl rfl rfl) qk) ?_
   refine Lx_qf rfl rfl rfl rfl rfl _ (fun hA v56 hv57 => R_nev (a := ((nth a k).tm)) (b := ((nth b k).tm)) eqv_Stamp69 rfl Tryz.eqGuardType69 (gv_t hA) (gv_t hA) qk) (Lx_q rfl rfl _ (fun v58 hv59 => R_pick rfl pk_or qk) (Lx_mv (v := (.bool ((!(decide (((nth a k).node) = ((nth b k).node)))) || (!(decide (((nth a k).tm) = ((nth b k).tm))))))) rfl rfl rfl (Lx_qf rfl rfl rfl rfl rfl _ (fun hA v62 hv63 => R_move (v := (slV ha a)) rfl qk) ?_)))
   refine Lx_qf rfl rfl rfl rfl rfl _ (fun hA v64 hv65 => R_move (v := (.int .i64 (k : Int))) rfl qk) ?_
   refine Lx_qf rfl rfl rfl rfl rfl _ (fun hA v66 hv67 => by
          have hP : ((((nth a k).node) = ((nth b k).node)) ∧ (((nth a k).tm) = ((nth b k).tm))) := (And.imp (fun h => (of_decide_eq_true (notF h))) (fun h => (of_decide_eq_true (notF h))) (orF (notT hA)))
          exact R_index_pure (H10.sl 3 rfl) (n := a.length) rfl (j := (k : Int)) (oo := (ha.o + k * 38)) Tryz.underlying31 Tryz.sizeOf77 (gv_t hA) (gv_t hA) (by omega) (by omega) rfl qk) ?_
   refine Lx_qf rfl rfl rfl rfl rfl _ (fun hA v68 hv69 => R_fieldAddr (off := 4) (oo := ((ha.o + k * 38) + 4)) Tryz.underlying77 rfl rfl Tryz.sizeOf9 (gv_t hA) rfl qk) ?_
   refine Lx_qf rfl rfl rfl rfl rfl _ (fun hA v70 hv71 => by
          have hP : ((((nth a k).node) = ((nth b k).node)) ∧ (((nth a k).tm) = ((nth b k).tm))) := (And.imp (fun h => (of_decide_eq_true (notF h))) (fun h => (of_decide_eq_true (notF h))) (orF (notT hA)))
          exact R_load1 (v := (.string ((nth a k).name))) Tryz.isAgg9 (gv_t hA) ((Sl.elem ((H10.ext hv71).sl 3 rfl) (i := k) (by omega) rfl).chunks 4 1 4 ((ha.o + k * 38) + 4) _ rfl rfl rfl) qk) ?_
   refine Lx_qf rfl rfl rfl rfl rfl _ (fun hA v72 hv73 => R_move (v := (slV hb b)) rfl qk) (Lx_qf rfl rfl rfl rfl rfl _ (fun hA v74 hv75 => R_move (v := (.int .i64 (k : Int))) rfl qk) ?_)
   refine Lx_qf rfl rfl rfl rfl rfl _ (fun hA v76 hv77 => by
          have hP : ((((nth a k).node) = ((nth b k).node)) ∧ (((nth a k).tm) = ((nth b k).tm))) := (And.imp (fun h => (of_decide_eq_true (notF h))) (fun h => (of_decide_eq_true (notF h))) (orF (notT hA)))
          exact R_index_pure (H10.sl 1 rfl) (n := b.length) rfl (j := (k : Int)) (oo := (hb.o + k * 38)) Tryz.underlying31 Tryz.sizeOf77 (gv_t hA) (gv_t hA) (by omega) (by omega) rfl qk) ?_
   refine Lx_qf rfl rfl rfl rfl rfl _ (fun hA v78 hv79 => R_fieldAddr (off := 4) (oo := ((hb.o + k * 38) + 4)) Tryz.underlying77 rfl rfl Tryz.sizeOf9 (gv_t hA) rfl qk) ?_
   refine Lx_qf rfl rfl rfl rfl rfl _ (fun hA v80 hv81 => by
          have hP : ((((nth a k).node) = ((nth b k).node)) ∧ (((nth a k).tm) = ((nth b k).tm))) := (And.imp (fun h => (of_decide_eq_true (notF h))) (fun h => (of_decide_eq_true (notF h))) (orF (notT hA)))
          exact R_load1 (v := (.string ((nth b k).name))) Tryz.isAgg9 (gv_t hA) ((Sl.elem ((H10.ext hv81).sl 1 rfl) (i := k) (by omega) rfl).chunks 4 1 4 ((hb.o + k * 38) + 4) _ rfl rfl rfl) qk) ?_
   refine Lx_qf rfl rfl rfl rfl rfl _ (fun hA v82 hv83 => R_cmpS (a := (nth a k).name) (b := (nth b k).name) (r := (!(decide ((nth a k).name = (nth b k).name)))) (gv_t hA) (gv_t hA) rfl qk) (Lx_q rfl rfl _ (fun v84 hv85 => R_pick rfl pk_or qk) (Lx_mv (v := (.bool (((!(decide (((nth a k).node) = ((nth b k).node)))) || (!(decide (((nth a k).tm) = ((nth b k).tm))))) || (!(decide ((nth a k).name = (nth b k).name)))))) rfl rfl rfl (Lx_qf rfl rfl rfl rfl rfl _ (fun hA v88 hv89 => R_move (v := (slV ha a)) rfl qk) ?_)))
   refine Lx_qf rfl rfl rfl rfl rfl _ (fun hA v90 hv91 => R_move (v := (.int .i64 (k : Int))) rfl qk) ?_
   refine Lx_qf rfl rfl rfl rfl rfl _ (fun hA v92 hv93 => by
          have hP : (((((nth a k).node) = ((nth b k).node)) ∧ (((nth a k).tm) = ((nth b k).tm))) ∧ ((nth a k).name = (nth b k).name)) := (And.imp (fun h => (And.imp (fun h => (of_decide_eq_true (notF h))) (fun h => (of_decide_eq_true (notF h))) (orF h))) (fun h => (of_decide_eq_true (notF h))) (orF (notT hA)))
          exact R_index_pure (H10.sl 3 rfl) (n := a.length) rfl (j := (k : Int)) (oo := (ha.o + k * 38)) Tryz.underlying31 Tryz.sizeOf77 (gv_t hA) (gv_t hA) (by omega) (by omega) rfl qk) ?_
   refine Lx_qf rfl rfl rfl rfl rfl _ (fun hA v94 hv95 => R_fieldAddr (off := 5) (oo := ((ha.o + k * 38) + 5)) Tryz.underlying77 rfl rfl Tryz.sizeOf45 (gv_t hA) rfl qk) ?_
   refine Lx_qf rfl rfl rfl rfl rfl _ (fun hA v96 hv97 => by
          have hP : (((((nth a k).node) = ((nth b k).node)) ∧ (((nth a k).tm) = ((nth b k).tm))) ∧ ((nth a k).name = (nth b k).name)) := (And.imp (fun h => (And.imp (fun h => (of_decide_eq_true (notF h))) (fun h => (of_decide_eq_true (notF h))) (orF h))) (fun h => (of_decide_eq_true (notF h))) (orF (notT hA)))
          exact R_loadA (cs := [(idCells ((nth a k).sub))]) Tryz.isAgg45 Tryz.sizeOf45 rfl (gv_t hA) ((Sl.elem ((H10.ext hv97).sl 3 rfl) (i := k) (by omega) rfl).chunks 5 1 5 ((ha.o + k * 38) + 5) _ rfl rfl rfl) qk) ?_
   refine Lx_qf rfl rfl rfl rfl rfl _ (fun hA v98 hv99 => R_move (v := (slV hb b)) rfl qk) (Lx_qf rfl rfl rfl rfl rfl _ (fun hA v100 hv101 => R_move (v := (.int .i64 (k : Int))) rfl qk) ?_)
   refine Lx_qf rfl rfl rfl rfl rfl _ (fun hA v102 hv103 => by
          have hP : (((((nth a k).node) = ((nth b k).node)) ∧ (((nth a k).tm) = ((nth b k).tm))) ∧ ((nth a k).name = (nth b k).name)) := (And.imp (fun h => (And.imp (fun h => (of_decide_eq_true (notF h))) (fun h => (of_decide_eq_true (notF h))) (orF h))) (fun h => (of_decide_eq_true (notF h))) (orF (notT hA)))
          exact R_index_pure (H10.sl 1 rfl) (n := b.length) rfl (j := (k : Int)) (oo := (hb.o + k * 38)) Tryz.underlying31 Tryz.sizeOf77 (gv_t hA) (gv_t hA) (by omega) (by omega) rfl qk) ?_
   refine Lx_qf rfl rfl rfl rfl rfl _ (fun hA v104 hv105 => R_fieldAddr (off := 5) (oo := ((hb.o + k * 38) + 5)) Tryz.underlying77 rfl rfl Tryz.sizeOf45 (gv_t hA) rfl qk) ?_
   refine Lx_qf rfl rfl rfl rfl rfl _ (fun hA v106 hv107 => by
          have hP : (((((nth a k).node) = ((nth b k).node)) ∧ (((nth a k).tm) = ((nth b k).tm))) ∧ ((nth a k).name = (nth b k).name)) := (And.imp (fun h => (And.imp (fun h => (of_decide_eq_true (notF h))) (fun h => (of_decide_eq_true (notF h))) (orF h))) (fun h => (of_decide_eq_true (notF h))) (orF (notT hA)))
          exact R_loadA (cs := [(idCells ((nth b k).sub))]) Tryz.isAgg45 Tryz.sizeOf45 rfl (gv_t hA) ((Sl.elem ((H10.ext hv107).sl 1 rfl) (i := k) (by omega) rfl).chunks 5 1 5 ((hb.o + k * 38) + 5) _ rfl rfl rfl) qk) ?_
   refine Lx_qf rfl rfl rfl rfl rfl _ (fun hA v108 hv109 => R_nev (a := (nth a k).sub) (b := (nth b k).sub) eqv_ID45 rfl Tryz.eqGuardType45 (gv_t hA) (gv_t hA) qk) (Lx_q rfl rfl _ (fun v110 hv111 => R_pick rfl pk_or qk) (Lx_mv (v := (.bool ((((!(decide (((nth a k).node) = ((nth b k).node)))) || (!(decide (((nth a k).tm) = ((nth b k).tm))))) || (!(decide ((nth a k).name = (nth b k).name)))) || (!(decide ((nth a k).sub = (nth b k).sub)))))) rfl rfl rfl (Lx_qf rfl rfl rfl rfl rfl _ (fun hA v114 hv115 => R_move (v := (slV ha a)) rfl qk) ?_)))
   refine Lx_qf rfl rfl rfl rfl rfl _ (fun hA v116 hv117 => R_move (v := (.int .i64 (k : Int))) rfl qk) ?_
   refine Lx_qf rfl rfl rfl rfl rfl _ (fun hA v118 hv119 => by
          have hP : ((((((nth a k).node) = ((nth b k).node)) ∧ (((nth a k).tm) = ((nth b k).tm))) ∧ ((nth a k).name = (nth b k).name)) ∧ ((nth a k).sub = (nth b k).sub)) := (And.imp (fun h => (And.imp (fun h => (And.imp (fun h => (of_decide_eq_true (notF h))) (fun h => (of_decide_eq_true (notF h))) (orF h))) (fun h => (of_decide_eq_true (notF h))) (orF h))) (fun h => (of_decide_eq_true (notF h))) (orF (notT hA)))
          exact R_index_pure (H10.sl 3 rfl) (n := a.length) rfl (j := (k : Int)) (oo := (ha.o + k * 38)) Tryz.underlying31 Tryz.sizeOf77 (gv_t hA) (gv_t hA) (by omega) (by omega) rfl qk) ?_
   refine Lx_qf rfl rfl rfl rfl rfl _ (fun hA v120 hv121 => R_fieldAddr (off := 37) (oo := ((ha.o + k * 38) + 37)) Tryz.underlying77 rfl rfl Tryz.sizeOf75 (gv_t hA) rfl qk) ?_
   refine Lx_qf rfl rfl rfl rfl rfl _ (fun hA v122 hv123 => by
          have hP : ((((((nth a k).node) = ((nth b k).node)) ∧ (((nth a k).tm) = ((nth b k).tm))) ∧ ((nth a k).name = (nth b k).name)) ∧ ((nth a k).sub = (nth b k).sub)) := (And.imp (fun h => (And.imp (fun h => (And.imp (fun h => (of_decide_eq_true (notF h))) (fun h => (of_decide_eq_true (notF h))) (orF h))) (fun h => (of_decide_eq_true (notF h))) (orF h))) (fun h => (of_decide_eq_true (notF h))) (orF (notT hA)))
          exact R_load1 (v := (slV ((nth a k).hh) ((nth a k).heads))) Tryz.isAgg75 (gv_t hA) ((Sl.elem ((H10.ext hv123).sl 3 rfl) (i := k) (by omega) rfl).chunks 6 1 37 ((ha.o + k * 38) + 37) _ rfl rfl rfl) qk) ?_
   refine Lx_qf rfl rfl rfl rfl rfl _ (fun hA v124 hv125 => R_move (v := (slV hb b)) rfl qk) (Lx_qf rfl rfl rfl rfl rfl _ (fun hA v126 hv127 => R_move (v := (.int .i64 (k : Int))) rfl qk) ?_)
   refine Lx_qf rfl rfl rfl rfl rfl _ (fun hA v128 hv129 => by
          have hP : ((((((nth a k).node) = ((nth b k).node)) ∧ (((nth a k).tm) = ((nth b k).tm))) ∧ ((nth a k).name = (nth b k).name)) ∧ ((nth a k).sub = (nth b k).sub)) := (And.imp (fun h => (And.imp (fun h => (And.imp (fun h => (of_decide_eq_true (notF h))) (fun h => (of_decide_eq_true (notF h))) (orF h))) (fun h => (of_decide_eq_true (notF h))) (orF h))) (fun h => (of_decide_eq_true (notF h))) (orF (notT hA)))
          exact R_index_pure (H10.sl 1 rfl) (n := b.length) rfl (j := (k : Int)) (oo := (hb.o + k * 38)) Tryz.underlying31 Tryz.sizeOf77 (gv_t hA) (gv_t hA) (by omega) (by omega) rfl qk) ?_
   refine Lx_qf rfl rfl rfl rfl rfl _ (fun hA v130 hv131 => R_fieldAddr (off := 37) (oo := ((hb.o + k * 38) + 37)) Tryz.underlying77 rfl rfl Tryz.sizeOf75 (gv_t hA) rfl qk) ?_
   refine Lx_qf rfl rfl rfl rfl rfl _ (fun hA v132 hv133 => by
          have hP : ((((((nth a k).node) = ((nth b k).node)) ∧ (((nth a k).tm) = ((nth b k).tm))) ∧ ((nth a k).name = (nth b k).name)) ∧ ((nth a k).sub = (nth b k).sub)) := (And.imp (fun h => (And.imp (fun h => (And.imp (fun h => (of_decide_eq_true (notF h))) (fun h => (of_decide_eq_true (notF h))) (orF h))) (fun h => (of_decide_eq_true (notF h))) (orF h))) (fun h => (of_decide_eq_true (notF h))) (orF (notT hA)))
          exact R_load1 (v := (slV ((nth b k).hh) ((nth b k).heads))) Tryz.isAgg75 (gv_t hA) ((Sl.elem ((H10.ext hv133).sl 1 rfl) (i := k) (by omega) rfl).chunks 6 1 37 ((hb.o + k * 38) + 37) _ rfl rfl rfl) qk) ?_
   refine Lx_qf rfl rfl rfl rfl rfl (.bool (decide (((nth a k).heads) = ((nth b k).heads)))) (fun hA v134 hv135 => by
          have hP : ((((((nth a k).node) = ((nth b k).node)) ∧ (((nth a k).tm) = ((nth b k).tm))) ∧ ((nth a k).name = (nth b k).name)) ∧ ((nth a k).sub = (nth b k).sub)) := (And.imp (fun h => (And.imp (fun h => (And.imp (fun h => (of_decide_eq_true (notF h))) (fun h => (of_decide_eq_true (notF h))) (orF h))) (fun h => (of_decide_eq_true (notF h))) (orF h))) (fun h => (of_decide_eq_true (notF h))) (orF (notT hA)))
          exact R_callL (vs := [(slV ((nth a k).hh) ((nth a k).heads)), (slV ((nth b k).hh) ((nth b k).heads))]) cF52 rfl (lst2 (gv_t hA) (gv_t hA)) (ref04_SameHeads ((nth a k).hh) ((nth a k).heads) ((nth b k).hh) ((nth b k).heads) v134 ((H10.ext hv135).deepOld 2 rfl _ (nth_mem (by omega))) ((H10.ext hv135).deepOld 0 rfl _ (nth_mem (by omega))))) ?_
   refine Lx_qf rfl rfl rfl rfl rfl _ (fun hA v136 hv137 => R_not (gv_t hA) qk) (Lx_q rfl rfl _ (fun v138 hv139 => R_pick rfl pk_or qk) ?_)
   refine Lx_nil (fun w140 hw141 => ?_)
   have H142 := H10.ext hw141
   refine Then_n ?_
   refine W_cond rfl (fun hc143 => ?_) (fun hc143 => ?_)
   ·have hc143 : ((((¬ (((nth a k).node) = ((nth b k).node)) ∨ ¬ (((nth a k).tm) = ((nth b k).tm))) ∨ ¬ ((nth a k).name = (nth b k).name)) ∨ ¬ ((nth a k).sub = (nth b k).sub)) ∨ ¬ (((nth a k).heads) = ((nth b k).heads))) := (Or.imp (fun h => (Or.imp (fun h => (Or.imp (fun h => (Or.imp (fun h => (of_decide_eq_false (notT h))) (fun h => (of_decide_eq_false (notT h))) (orT h))) (fun h => (of_decide_eq_false (notT h))) (orT h))) (fun h => (of_decide_eq_false (notT h))) (orT h))) (fun h => (of_decide_eq_false (notT h))) (orT hc143))
    refine W_seq (W_reg ?_)
    refine O_as (v := (.bool false)) rfl rfl ?_
    refine O_nil (Then_n (W_ret (Blk_r (Then_r (Then_r (Blk_r (Then_r ?_)))))))
    refine ret_1 (v := (.bool false)) Tryz.results19 rfl ?_
    exact ⟨(boolF (map_ne_nth ItemS.core (k := k) (by omega) (by assumption) (itemNe (by assumption)))), H142.gr⟩
   ·have hc143 : (((((((nth a k).node) = ((nth b k).node)) ∧ (((nth a k).tm) = ((nth b k).tm))) ∧ ((nth a k).name = (nth b k).name)) ∧ ((nth a k).sub = (nth b k).sub)) ∧ (((nth a k).heads) = ((nth b k).heads))) := (And.imp (fun h => (And.imp (fun h => (And.imp (fun h => (And.imp (fun h => (of_decide_eq_true (notF h))) (fun h => (of_decide_eq_true (notF h))) (orF h))) (fun h => (of_decide_eq_true (notF h))) (orF h))) (fun h => (of_decide_eq_true (notF h))) (orF h))) (fun h => (of_decide_eq_true (notF h))) (orF hc143))
    refine W_skip (Blk_n (Then_n (W_reg ?_)))
    refine O_mv (v := (.int .i64 (k : Int))) rfl rfl ?_
    refine O_v rfl (R_arith (a := (k : Int)) (b := 1) (r0 := (k : Int) + 1) (r := ((k + 1 : Nat) : Int)) rfl rfl rfl (wrapN _ (by omega)) ?_)
    refine O_as (v := (.int .i64 ((k + 1 : Nat) : Int))) rfl rfl ?_
    refine O_nil (Then_n ?_)
    refine ⟨_, ?_, (k + 1), rfl, (by omega), (all_succ hn (itemEq (by assumption))), _, envL_self ⟨rfl, rfl, rfl, trivial⟩, H142⟩
    omega
  ·have hc11 := (of_decide_eq_false hc11)
   refine W_exit (Then_x (Then_x (Blk_x (Then_n (W_seq (W_reg ?_))))))
   refine O_as (v := (.bool true)) rfl rfl ?_
   refine O_nil (Then_n (W_ret ?_))
   refine ret_1 (v := (.bool true)) Tryz.results19 rfl ?_
   exact ⟨(boolT (map_eqN ItemS.core (by omega) (by rwa [show a.length = k from by omega]))), H10.gr⟩
set_option maxHeartbeats 1000000 in
theorem ref04_SameIDs (ha : SlH) (a : List ID) (hb : SlH) (b : List ID) (w : World) (Sa : Sl (Old w) idCh 32 ha a w) (Sb : Sl (Old w) idCh 32 hb b w) :
    Calls Tryz.prog 20 #[(slV ha a), (slV hb b)] w (Ret fun v w' => v = (.bool (decide (a = b))) ∧ Ext w w') := by
 refine calls_W Tryz.func20 rfl Tryz.ntmps20 rfl ?_
 have H0 := Ctx.start w nob
 have H1 := H0.addSl _ Sa (fun b hb => ⟨hb, fun _ ho => (nomatch ho)⟩)
 have LSa := Sa.len
 have H2 := H1.addSl _ Sb (fun b hb => ⟨hb, fun _ ho => (nomatch ho)⟩)
 have LSb := Sb.len
 refine W_seq (W_reg ?_)
 refine O_as (v := (.bool false)) rfl rfl ?_
 refine O_nil (Then_n (W_seq (W_seq (W_reg ?_))))
 refine O_mv (v := (slV ha a)) rfl rfl ?_
 refine O_v rfl (R_len_slice (a := ha.a) (n := a.length) (c := ha.c) Tryz.underlying39 rfl ?_)
 refine O_mv (v := (slV hb b)) rfl rfl ?_
 refine O_v rfl (R_len_slice (a := hb.a) (n := b.length) (c := hb.c) Tryz.underlying41 rfl ?_)
 refine O_v rfl (R_cmp (a := (a.length : Int)) (b := (b.length : Int)) (r := (!(decide ((a.length : Int) = (b.length : Int))))) rfl rfl rfl ?_)
 refine O_nil (Then_n ?_)
 refine W_cond rfl (fun hc3 => ?_) (fun hc3 => ?_)
 ·have hc3 : ¬ ((a.length : Int) = (b.length : Int)) := (of_decide_eq_false (notT hc3))
  refine W_seq (W_reg ?_)
  refine O_as (v := (.bool false)) rfl rfl ?_
  refine O_nil (Then_n (W_ret (Then_r ?_)))
  refine ret_1 (v := (.bool false)) Tryz.results20 rfl ?_
  exact ⟨(boolF (fun h => by subst h; omega)), H2.gr⟩
 ·have hc3 : ((a.length : Int) = (b.length : Int)) := (of_decide_eq_true (notF hc3))
  refine W_skip (Then_n (W_seq (W_seq (W_reg ?_))))
  refine O_as (v := (.int .i64 0)) rfl rfl ?_
  refine O_nil (Then_n (W_block ?_))
  refine W_loop (fun m4 e5 w6 => ∃ (k : Nat), m4 = a.length - k ∧ (k ≤ a.length) ∧ (∀ i, i < k → nth a i = nth b i) ∧ ∃ eb7, e5 = envL [(0, (slV ha a)), (1, (slV hb b)), (5, (.int .i64 (k : Int)))] eb7 ∧ Ctx w nob w6 [] [slI (Old w) idCh 32 hb b, slI (Old w) idCh 32 ha a]) _ ⟨0, rfl, (by omega), (all_zero _), _, envL_self ⟨rfl, rfl, rfl, trivial⟩, H2⟩ ?_
  rintro m4 _ w6 ⟨k, rfl, hk, hn, eb7, rfl, H8⟩
  refine W_seq (W_seq (W_reg ?_))
  refine O_mv (v := (.int .i64 (k : Int))) rfl rfl (O_mv (v := (slV ha a)) rfl rfl ?_)
  refine O_v rfl (R_len_slice (a := ha.a) (n := a.length) (c := ha.c) Tryz.underlying39 rfl ?_)
  refine O_v rfl (R_cmp (a := (k : Int)) (b := (a.length : Int)) (r := (decide ((k : Int) < (a.length : Int)))) rfl rfl rfl ?_)
  refine O_nil (Then_n ?_)
  refine W_cond rfl (fun hc9 => ?_) (fun hc9 => ?_)
  ·have hc9 := (of_decide_eq_true hc9)
   refine W_skip (Then_n (W_seq (W_block (W_seq ?_))))
   refine W_rgd TryzMixed [(0, .q 0), (1, .q 0), (2, .q 0), (3, .q 0), (4, .q 0), (5, .q 0), (6, .q 0), (7, .q 0), (8, .q 0)] (by kernel_rfl) ?_
   refine Lx_mv (v := (slV ha a)) rfl rfl rfl (Lx_mv (v := (.int .i64 (k : Int))) rfl rfl rfl (Lx_q rfl rfl _ (fun v14 hv15 => R_index_pure (H8.sl 1 rfl) (n := a.length) rfl (j := (k : Int)) (oo := (ha.o + k * 32)) Tryz.underlying39 Tryz.sizeOf45 rfl rfl (by omega) (by omega) rfl qk) (Lx_q rfl rfl _ (fun v16 hv17 => R_loadA (cs := [(idCells (nth a k))]) Tryz.isAgg45 Tryz.sizeOf45 rfl rfl ((Sl.elem ((H8.ext hv17).sl 1 rfl) (i := k) (by omega) rfl).chunks 0 1 0 (ha.o + k * 32) _ rfl rfl rfl) qk) ?_)))
   refine Lx_mv (v := (slV hb b)) rfl rfl rfl (Lx_mv (v := (.int .i64 (k : Int))) rfl rfl rfl (Lx_q rfl rfl _ (fun v22 hv23 => R_index_pure (H8.sl 0 rfl) (n := b.length) rfl (j := (k : Int)) (oo := (hb.o + k * 32)) Tryz.underlying41 Tryz.sizeOf44 rfl rfl (by omega) (by omega) rfl qk) (Lx_q rfl rfl _ (fun v24 hv25 => R_loadA (cs := [(idCells (nth b k))]) Tryz.isAgg44 Tryz.sizeOf44 rfl rfl ((Sl.elem ((H8.ext hv25).sl 0 rfl) (i := k) (by omega) rfl).chunks 0 1 0 (hb.o + k * 32) _ rfl rfl rfl) qk) ?_)))
   refine Lx_q rfl rfl _ (fun v26 hv27 => R_nev (a := (nth a k)) (b := (nth b k)) eqv_ID45 rfl Tryz.eqGuardType45 rfl rfl qk) ?_
   refine Lx_nil (fun w28 hw29 => ?_)
   have H30 := H8.ext hw29
   refine Then_n ?_
   refine W_cond rfl (fun hc31 => ?_) (fun hc31 => ?_)
   ·have hc31 : ¬ ((nth a k) = (nth b k)) := (of_decide_eq_false (notT hc31))
    refine W_seq (W_reg ?_)
    refine O_as (v := (.bool false)) rfl rfl ?_
    refine O_nil (Then_n (W_ret (Blk_r (Then_r (Then_r (Blk_r (Then_r ?_)))))))
    refine ret_1 (v := (.bool false)) Tryz.results20 rfl ?_
    exact ⟨(boolF (fun h => by subst h; exact absurd rfl (by assumption))), H30.gr⟩
   ·have hc31 : ((nth a k) = (nth b k)) := (of_decide_eq_true (notF hc31))
    refine W_skip (Blk_n (Then_n (W_reg ?_)))
    refine O_mv (v := (.int .i64 (k : Int))) rfl rfl ?_
    refine O_v rfl (R_arith (a := (k : Int)) (b := 1) (r0 := (k : Int) + 1) (r := ((k + 1 : Nat) : Int)) rfl rfl rfl (wrapN _ (by omega)) ?_)
    refine O_as (v := (.int .i64 ((k + 1 : Nat) : Int))) rfl rfl ?_
    refine O_nil (Then_n ?_)
    refine ⟨_, ?_, (k + 1), rfl, (by omega), (all_succ hn (by assumption)), _, envL_self ⟨rfl, rfl, rfl, trivial⟩, H30⟩
    omega
  ·have hc9 := (of_decide_eq_false hc9)
   refine W_exit (Then_x (Then_x (Blk_x (Then_n (W_seq (W_reg ?_))))))
   refine O_as (v := (.bool true)) rfl rfl ?_
   refine O_nil (Then_n (W_ret ?_))
   refine ret_1 (v := (.bool true)) Tryz.results20 rfl ?_
   exact ⟨(boolT (eq_of_nth (by omega) (by rwa [show a.length = k from by omega]))), H8.gr⟩
end Go.Proofs.YthjdhfoeckfmbaaGreat
namespace Go.Proofs.YthjdhfoeckfmbaaGreat
open Go
set_option maxRecDepth 100000
set_option linter.unusedVariables false
set_option linter.unusedSimpArgs false
set_option linter.unusedSectionVars false
theorem cF9 : callable Tryz.prog 9 = true := by kernel_rfl
theorem cF12 : callable Tryz.prog 12 = true := by kernel_rfl
theorem cF18 : callable Tryz.prog 18 = true := by kernel_rfl
theorem cF19 : callable Tryz.prog 19 = true := by kernel_rfl
theorem cF20 : callable Tryz.prog 20 = true := by kernel_rfl
theorem cF22 : callable Tryz.prog 22 = true := by kernel_rfl
set_option maxHeartbeats 4000000 in
theorem law04_ObjDirs (hitems : SlH) (items : List ItemS) (w : World) (Sitems : Sl (Old w) itemCh 38 hitems items w) (Ditems_heads : ∀ x ∈ items, Sl (Old w) headCh 34 x.hh x.heads w) (hn : ∀ x ∈ items, x.name.size ≤ 9223372036854775807) :
    Calls Tryz.prog 4 #[(slV hitems items)] w (Ret fun v w' => v = (.bool true) ∧ Ext w w') := by
 refine calls_W Tryz.func4 rfl Tryz.ntmps4 rfl ?_
 have H0 := Ctx.start w nob
 have H1 := H0.addSl _ Sitems (fun b hb => ⟨hb, fun _ ho => (nomatch ho)⟩)
 have LSitems := Sitems.len
 have H2 := H1.addImm' (deepI (Old w) headCh 34 (fun x : ItemS => x.hh) (fun x : ItemS => x.heads) items) Ditems_heads (fun b hb => ⟨hb, fun _ ho => (nomatch ho)⟩)
 refine W_seq (W_reg ?_)
 refine O_as (v := (.bool false)) rfl rfl ?_
 refine O_nil (Then_n (W_seq (W_seq (W_reg ?_))))
 refine O_v rfl (R_callL (vs := []) cF9 rfl rfl ((law04_alive  w ).ret ?_))
 rintro _ w3 ⟨rfl, hx4⟩
 have H5 := H2.ext hx4
 refine O_v rfl (R_not rfl ?_)
 refine O_nil (Then_n ?_)
 refine W_cond_f rfl ?_
 refine W_skip (Then_n (W_seq (W_seq (W_reg ?_))))
 refine O_mv (v := (slV hitems items)) rfl rfl ?_
 refine O_v rfl (R_len_slice (a := hitems.a) (n := items.length) (c := hitems.c) Tryz.underlying31 rfl ?_)
 refine O_v rfl (R_cmp (a := (items.length : Int)) (b := 1100) (r := (decide (1100 < (items.length : Int)))) rfl rfl rfl ?_)
 refine O_nil (Then_n ?_)
 refine W_cond rfl (fun hc6 => ?_) (fun hc6 => ?_)
 ·have hc6 := (of_decide_eq_true hc6)
  refine W_seq (W_reg ?_)
  refine O_as (v := (.bool true)) rfl rfl ?_
  refine O_nil (Then_n (W_ret (Then_r ?_)))
  refine ret_1 (v := (.bool true)) Tryz.results4 rfl ?_
  exact ⟨rfl, H5.gr⟩
 ·have hc6 := (of_decide_eq_false hc6)
  refine W_skip (Then_n (W_seq (W_reg ?_)))
  refine O_mv (v := (slV hitems items)) rfl rfl ?_
  refine O_v rfl (R_callL (vs := [(slV hitems items)]) cF15 rfl rfl ((obj_PutDir hitems items w3 (H5.slOld 1 rfl) (H5.deepOld 0 rfl)).ret ?_))
  rintro _ w8 ⟨h7, rfl, hx9, ho10⟩
  have H11 := H5.addRow hx9 ho10
  refine O_mv (v := (.tuple #[(slV h7 (putDirB items)), (.int .i64 (putDirE items))])) rfl rfl (O_ex (v := (slV h7 (putDirB items))) rfl rfl rfl (O_ex (v := (.int .i64 (putDirE items))) rfl rfl rfl (O_as (v := (slV h7 (putDirB items))) rfl rfl ?_)))
  refine O_as (v := (.int .i64 (putDirE items))) rfl rfl ?_
  refine O_nil (Then_n (W_seq (W_seq (W_reg ?_))))
  refine O_mv (v := (slV hitems items)) rfl rfl ?_
  refine O_v rfl (R_callL (vs := [(slV hitems items)]) cF16 rfl rfl ((ref04_RightDir hitems items w8 (H11.slOld 1 rfl) (H11.deepOld 0 rfl) hn).ret ?_))
  rintro _ w12 ⟨rfl, hx13⟩
  have H14 := H11.ext hx13
  refine O_v rfl (R_not rfl ?_)
  refine O_nil (Then_n ?_)
  refine W_cond rfl (fun hc15 => ?_) (fun hc15 => ?_)
  ·have hc15 : (dirOk items) = false := (notT hc15)
   refine W_seq (W_reg ?_)
   refine O_mv (v := (.int .i64 (putDirE items))) rfl rfl ?_
   refine O_v rfl (R_cmp (a := putDirE items) (b := 1) (r := (decide (putDirE items = 1))) rfl rfl rfl ?_)
   refine O_mv (v := (.bool (decide (putDirE items = 1)))) rfl rfl ?_
   refine O_g true (decide (putDirE items = 1)) rfl rfl rfl rfl (decide (putDirE items = 1)) ga_t (slV h7 (putDirB items)) (fun hA => R_move (v := (slV h7 (putDirB items))) rfl qk) (fun w16 hx17 => ?_)
   have H18 := H14.ext hx17
   refine O_g true (decide (putDirE items = 1)) rfl rfl rfl rfl (decide (putDirE items = 1)) ga_t (.int .i64 (((putDirB items).length : Nat) : Int)) (fun hA => R_len_slice (a := h7.a) (n := (putDirB items).length) (c := h7.c) Tryz.underlying22 (gv_t hA) qk) (fun w19 hx20 => ?_)
   have H21 := H18.ext hx20
   refine O_g true (decide (putDirE items = 1)) rfl rfl rfl rfl (decide (putDirE items = 1)) ga_t (.bool (decide ((((putDirB items).length : Nat) : Int) = 0))) (fun hA => R_cmp (a := (((putDirB items).length : Nat) : Int)) (b := 0) (r := (decide ((((putDirB items).length : Nat) : Int) = 0))) (gv_t hA) rfl rfl qk) (fun w22 hx23 => ?_)
   have H24 := H21.ext hx23
   refine O_v rfl (R_pick (t := (decide (putDirE items = 1))) (v := (.bool ((decide (putDirE items = 1)) && (decide ((((putDirB items).length : Nat) : Int) = 0))))) rfl pk_and ?_)
   refine O_as (v := (.bool ((decide (putDirE items = 1)) && (decide ((((putDirB items).length : Nat) : Int) = 0))))) rfl rfl ?_
   refine O_nil (Then_n (W_ret (Then_r ?_)))
   refine ret_1 (v := (.bool ((decide (putDirE items = 1)) && (decide ((((putDirB items).length : Nat) : Int) = 0))))) Tryz.results4 rfl ?_
   exact ⟨(dirs_no (by assumption)), H24.gr⟩
  ·have hc15 : (dirOk items) = true := (notF hc15)
   have hD := hc15
   refine W_skip (Then_n (W_seq (W_reg ?_)))
   refine O_mv (v := (slV h7 (putDirB items))) rfl rfl ?_
   refine O_v rfl (R_callL (vs := [(slV h7 (putDirB items))]) cF17 rfl rfl ((obj_Dir h7 (putDirB items) w12 (H14.rowSl 0 rfl (fun _ => rfl)) (dirs_len hD)).ret ?_))
   rintro _ w28 ⟨h25, l26, S27, e35, rfl, hx29, ho30, hS31, hd32, hr33⟩
   have H34 := H14.addRowDeep (h := fun x : ItemS => x.hh) (f := fun x : ItemS => x.heads) hx29 ho30 hS31 hd32
   refine O_mv (v := (.tuple #[(slV h25 l26), (.int .i64 e35)])) rfl rfl (O_ex (v := (slV h25 l26)) rfl rfl rfl (O_ex (v := (.int .i64 e35)) rfl rfl rfl (O_as (v := (slV h25 l26)) rfl rfl ?_)))
   refine O_as (v := (.int .i64 e35)) rfl rfl ?_
   refine O_nil (Then_n (W_seq (W_reg ?_)))
   refine O_mv (v := (.int .i64 (putDirE items))) rfl rfl ?_
   refine O_k rfl (.bool true) (R_cmp (a := putDirE items) (b := 0) (r := (decide (putDirE items = 0))) rfl rfl rfl ⟨(boolK (decide_eq_true (if_pos hD))), Gr.refl _ _⟩) (fun w36 hx37 => ?_)
   have H38 := H34.ext hx37
   refine O_mv (v := (.bool true)) rfl rfl ?_
   refine O_vT rfl rfl rfl rfl (R_move (v := (slV h7 (putDirB items))) rfl ?_)
   refine O_vT rfl rfl rfl rfl (R_move (v := (slV hitems items)) rfl ?_)
   refine O_vT rfl rfl rfl rfl (R_callL (vs := [(slV hitems items)]) cF18 rfl rfl ((ref04_PutDir hitems items w36 (H38.slOld 2 rfl) (H38.deepOld 1 rfl) (dir_lens hD)).ret ?_))
   rintro _ w40 ⟨h39, rfl, hx41, ho42⟩
   have H43 := H38.addRow hx41 ho42
   refine O_kT rfl rfl rfl rfl (.bool true) (R_callL (vs := [(slV h7 (putDirB items)), (slV h39 (dirB items))]) cF12 rfl rfl ((ref01_SameBytes h7 (putDirB items) h39 (dirB items) w40 (H43.rowSl 2 rfl (fun _ => rfl)) (H43.rowSl 0 rfl (fun _ => rfl))).ret (fun _ _ h => ⟨h.1.trans (boolK (decide_eq_true (dirs_bytes hD))), h.2⟩))) (fun w44 hx45 => ?_)
   have H46 := H43.ext hx45
   refine O_v rfl (R_pick (t := true) (v := (.bool true)) rfl rfl ?_)
   refine O_mv (v := (.bool true)) rfl rfl ?_
   refine O_vT rfl rfl rfl rfl (R_move (v := (.int .i64 e35)) rfl ?_)
   refine O_kT rfl rfl rfl rfl (.bool true) (R_cmp (a := e35) (b := 0) (r := (decide (e35 = 0))) rfl rfl rfl ⟨(boolK (decide_eq_true (dirs_e hD hr33))), Gr.refl _ _⟩) (fun w47 hx48 => ?_)
   have H49 := H46.ext hx48
   refine O_v rfl (R_pick (t := true) (v := (.bool true)) rfl rfl ?_)
   refine O_mv (v := (.bool true)) rfl rfl ?_
   refine O_vT rfl rfl rfl rfl (R_move (v := (slV h25 l26)) rfl ?_)
   refine O_vT rfl rfl rfl rfl (R_move (v := (slV hitems items)) rfl ?_)
   refine O_kT rfl rfl rfl rfl (.bool true) (R_callL (vs := [(slV h25 l26), (slV hitems items)]) cF19 rfl rfl ((ref04_SameDir h25 l26 hitems items w47 (H49.rowSl 1 rfl (fun _ => rfl)) (H49.deepOld 0 rfl) (H49.slOld 2 rfl) (H49.deepOld 1 rfl)).ret (fun _ _ h => ⟨h.1.trans (boolK (decide_eq_true (dirs_same hD hr33))), h.2⟩))) (fun w50 hx51 => ?_)
   have H52 := H49.ext hx51
   refine O_v rfl (R_pick (t := true) (v := (.bool true)) rfl rfl ?_)
   refine O_mv (v := (.bool true)) rfl rfl ?_
   refine O_vT rfl rfl rfl rfl (R_move (v := (slV h7 (putDirB items))) rfl ?_)
   refine O_kT rfl rfl rfl rfl (.int .i64 (kindOf (putDirB items))) (R_callL (vs := [(slV h7 (putDirB items))]) cF14 rfl rfl (obj_Kind h7 (putDirB items) w50 (H52.rowSl 2 rfl (fun _ => rfl)) (dirs_len hD))) (fun w53 hx54 => ?_)
   have H55 := H52.ext hx54
   refine O_kT rfl rfl rfl rfl (.bool true) (R_cmp (a := kindOf (putDirB items)) (b := 2) (r := (decide (kindOf (putDirB items) = 2))) rfl rfl rfl ⟨(boolK (decide_eq_true (dirs_kind hD))), Gr.refl _ _⟩) (fun w56 hx57 => ?_)
   have H58 := H55.ext hx57
   refine O_v rfl (R_pick (t := true) (v := (.bool true)) rfl rfl ?_)
   refine O_mv (v := (.bool true)) rfl rfl ?_
   refine O_vT rfl rfl rfl rfl (R_move (v := (slV h7 (putDirB items))) rfl ?_)
   refine O_vT rfl rfl rfl rfl (R_callL (vs := [(slV h7 (putDirB items))]) cF21 rfl rfl ((obj_LinksG h7 (putDirB items) w56 (H58.rowSl 2 rfl (fun _ => rfl)) (dirs_len hD)).ret ?_))
   rintro _ w61 ⟨h59, S60, rfl, hx62, hS63, hv64⟩
   have H65 := H58.addImm hx62 (slI S60 idCh 32 h59 (linksOf (putDirB items))) hv64 hS63
   refine O_vT rfl rfl rfl rfl (R_move (v := (slV h7 (putDirB items))) rfl ?_)
   refine O_vT rfl rfl rfl rfl (R_callL (vs := [(slV h7 (putDirB items))]) cF22 rfl rfl ((ref04_LinksG h7 (putDirB items) w61 (H65.rowSl 2 rfl (fun _ => rfl))).ret ?_))
   rintro _ w67 ⟨h66, rfl, hx68, ho69⟩
   have H70 := H65.addRow hx68 ho69
   refine O_kT rfl rfl rfl rfl (.bool true) (R_callL (vs := [(slV h59 (linksOf (putDirB items))), (slV h66 (linksOf (putDirB items)))]) cF20 rfl rfl ((ref04_SameIDs h59 (linksOf (putDirB items)) h66 (linksOf (putDirB items)) w67 (H70.slOld 0 rfl) (H70.rowSl 0 rfl (fun _ => rfl))).ret (fun _ _ h => ⟨h.1.trans (boolK (decide_eq_true rfl)), h.2⟩))) (fun w71 hx72 => ?_)
   have H73 := H70.ext hx72
   refine O_v rfl (R_pick (t := true) (v := (.bool true)) rfl rfl ?_)
   refine O_as (v := (.bool true)) rfl rfl ?_
   refine O_nil (Then_n (W_ret ?_))
   refine ret_1 (v := (.bool true)) Tryz.results4 rfl ?_
   exact ⟨rfl, H73.gr⟩
end Go.Proofs.YthjdhfoeckfmbaaGreat
