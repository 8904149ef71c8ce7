/- Proved: for every input, pollardlaw04.ObjReads returns true and leaves its argument as it was. No condition. -/
import Derived.Test.YthjdhfoeckfmbaaGreatX9
namespace Go.Proofs.YthjdhfoeckfmbaaGreat
open Go
set_option maxRecDepth 100000
set_option linter.unusedVariables false
set_option linter.unusedSimpArgs false
set_option linter.unusedSectionVars false
variable [DD]
theorem ref04_SameDir_c52 : callable Tryz.prog 52 = true := by kernel_rfl
set_option maxHeartbeats 4000000 in
theorem ref04_SameDir (ha : SlH) (a : List ItemS) (hb : SlH) (b : List ItemS) (w : World) (Sa : Sl (Old w) itemCh 38 ha a w) (Da_heads : ∀ x ∈ a, Sl (Old w) headCh 34 x.hh x.heads w) (Sb : Sl (Old w) itemCh 38 hb b w) (Db_heads : ∀ x ∈ b, Sl (Old w) headCh 34 x.hh x.heads w) :
    Calls Tryz.prog 19 #[(slV ha a), (slV hb b)] w (Ret fun v w' => v = (.bool (decide (a.map ItemS.core = b.map ItemS.core))) ∧ Ext w w') := by
 refine calls_W Tryz.func19 rfl Tryz.ntmps19 rfl ?_
 have H0 := Ctx.start w nob
 have H1 := H0.addSl _ Sa (fun b hb => ⟨hb, fun _ ho => (nomatch ho)⟩)
 have LSa := Sa.len
 have H2 := H1.addImm' (deepI (Old w) headCh 34 (fun x : ItemS => x.hh) (fun x : ItemS => x.heads) a) Da_heads (fun b hb => ⟨hb, fun _ ho => (nomatch ho)⟩)
 have H3 := H2.addSl _ Sb (fun b hb => ⟨hb, fun _ ho => (nomatch ho)⟩)
 have LSb := Sb.len
 have H4 := H3.addImm' (deepI (Old w) headCh 34 (fun x : ItemS => x.hh) (fun x : ItemS => x.heads) b) Db_heads (fun b hb => ⟨hb, fun _ ho => (nomatch ho)⟩)
 refine W_seq (W_reg ?_)
 refine O_v rfl (R_assign (v := (.bool false)) rfl ?_)
 refine O_nil (Then_n (W_seq (W_seq (W_reg ?_))))
 refine O_v rfl (R_move (v := (slV ha a)) rfl ?_)
 refine O_v rfl (R_len_slice (a := ha.a) (n := a.length) (c := ha.c) Tryz.underlying31 rfl ?_)
 refine O_v rfl (R_move (v := (slV hb b)) rfl ?_)
 refine O_v rfl (R_len_slice (a := hb.a) (n := b.length) (c := hb.c) Tryz.underlying31 rfl ?_)
 refine O_v rfl (R_cmp (a := ((a.length : Nat) : Int)) (b := ((b.length : Nat) : Int)) (r := (!(decide (((a.length : Nat) : Int) = ((b.length : Nat) : Int))))) rfl rfl rfl ?_)
 refine O_nil (Then_n ?_)
 refine W_cond (t := (!(decide (((a.length : Nat) : Int) = ((b.length : Nat) : Int))))) rfl (fun hc5 => ?_) (fun hc5 => ?_)
 ·have hc5 : ¬ (((a.length : Nat) : Int) = ((b.length : Nat) : Int)) := (of_decide_eq_false (notT hc5))
  refine W_seq (W_reg ?_)
  refine O_v rfl (R_assign (v := (.bool false)) rfl ?_)
  refine O_nil (Then_n (W_ret (Then_r ?_)))
  refine ret_1 (v := (.bool false)) Tryz.results19 rfl ?_
  exact ⟨(boolF (map_ne_len ItemS.core (by assumption))), H4.gr⟩
 ·have hc5 : (((a.length : Nat) : Int) = ((b.length : Nat) : Int)) := (of_decide_eq_true (notF hc5))
  refine W_skip (Then_n (W_seq (W_seq (W_reg ?_))))
  refine O_v rfl (R_assign (v := (.int .i64 0)) rfl ?_)
  refine O_nil (Then_n (W_block ?_))
  refine W_loop (fun m6 e7 w8 => ∃ (k : Nat), m6 = a.length - k ∧ (k ≤ a.length) ∧ (∀ i, i < k → (nth a i).core = (nth b i).core) ∧ ∃ eb9, e7 = envL [(0, (slV ha a)), (1, (slV hb b)), (5, (.int .i64 ((k : Nat) : Int)))] eb9 ∧ Ctx w nob w8 [] [deepI (Old w) headCh 34 (fun x : ItemS => x.hh) (fun x : ItemS => x.heads) b, slI (Old w) itemCh 38 hb b, deepI (Old w) headCh 34 (fun x : ItemS => x.hh) (fun x : ItemS => x.heads) a, slI (Old w) itemCh 38 ha a]) _ ⟨0, rfl, (by omega), (all_zero _), _, envL_self ⟨rfl, rfl, rfl, trivial⟩, H4⟩ ?_
  rintro m6 _ w8 ⟨k, rfl, hk, hn, eb9, rfl, H10⟩
  refine W_seq (W_seq (W_reg ?_))
  refine O_v rfl (R_move (v := (.int .i64 ((k : Nat) : Int))) rfl ?_)
  refine O_v rfl (R_move (v := (slV ha a)) rfl ?_)
  refine O_v rfl (R_len_slice (a := ha.a) (n := a.length) (c := ha.c) Tryz.underlying31 rfl ?_)
  refine O_v rfl (R_cmp (a := ((k : Nat) : Int)) (b := ((a.length : Nat) : Int)) (r := (decide (((k : Nat) : Int) < ((a.length : Nat) : Int)))) rfl rfl rfl ?_)
  refine O_nil (Then_n ?_)
  refine W_cond (t := (decide (((k : Nat) : Int) < ((a.length : Nat) : Int)))) rfl (fun hc11 => ?_) (fun hc11 => ?_)
  ·have hc11 : (((k : Nat) : Int) < ((a.length : Nat) : Int)) := (of_decide_eq_true hc11)
   refine W_skip (Then_n (W_seq (W_block (W_seq ?_))))
   refine W_rgd TryzMixed [(0, .q 0), (1, .q 0), (2, .q 0), (3, .q 0), (4, .q 0), (5, .q 0), (6, .q 0), (7, .q 0), (8, .q 0), (9, .q 0), (10, .q 0), (11, .q 0), (12, .q 0), (13, .q 0), (14, .q 0), (15, .q 0), (16, .q 0), (17, .q 0), (18, .q 0), (19, .q 0), (20, .q 0), (21, .q 0), (22, .q 0), (23, .q 0), (24, .q 0), (25, .q 0), (26, .q 0), (27, .q 0), (28, .q 0), (29, .q 0), (30, .q 0), (31, .q 0), (32, .q 0), (33, .q 0), (34, .q 0), (35, .q 0), (36, .q 0), (37, .q 0), (38, .q 0), (39, .q 0), (40, .q 0), (41, .q 0), (42, .q 0), (43, .q 0), (44, .q 0), (45, .q 0), (46, .q 0), (47, .q 0), (48, .q 0), (49, .q 0), (50, .q 0), (51, .q 0), (52, .q 0), (53, .q 0), (54, .q 0), (55, .q 0), (56, .q 0), (57, .q 0), (58, .q 0), (59, .q 0), (60, .q 0), (61, .q 0), (62, .q 0), (63, .q 0)] (by kernel_rfl) ?_
   refine Lx_q (i := 0) rfl rfl _ (fun v12 hv13 => R_move (v := (slV ha a)) rfl ⟨rfl, Gr.refl _ _⟩) ?_
   refine Lx_q (i := 1) rfl rfl _ (fun v14 hv15 => R_move (v := (.int .i64 ((k : Nat) : Int))) rfl ⟨rfl, Gr.refl _ _⟩) ?_
   refine Lx_q (i := 2) rfl rfl _ (fun v16 hv17 => R_index_pure (H10.sl 3 rfl) (n := a.length) rfl (j := ((k : Nat) : Int)) (oo := (ha.o + k * 38)) Tryz.underlying31 Tryz.sizeOf77 rfl rfl (by omega) (by omega) rfl ⟨rfl, Gr.refl _ _⟩) ?_
   refine Lx_q (i := 3) rfl rfl _ (fun v18 hv19 => R_fieldAddr (off := 0) (oo := (ha.o + k * 38)) Tryz.underlying77 rfl rfl Tryz.sizeOf69 rfl rfl ⟨rfl, Gr.refl _ _⟩) ?_
   refine Lx_q (i := 4) rfl rfl _ (fun v20 hv21 => R_loadA (cs := [[(.int .i64 (((nth a k).node).T))], [(.int .i64 (((nth a k).node).R))]]) Tryz.isAgg69 Tryz.sizeOf69 rfl rfl ((Sl.elem ((H10.ext hv21).sl 3 rfl) (i := k) (by omega) rfl).chunks 0 2 0 (ha.o + k * 38) _ rfl rfl rfl) ⟨rfl, Gr.refl _ _⟩) ?_
   refine Lx_q (i := 5) rfl rfl _ (fun v22 hv23 => R_move (v := (slV hb b)) rfl ⟨rfl, Gr.refl _ _⟩) ?_
   refine Lx_q (i := 6) rfl rfl _ (fun v24 hv25 => R_move (v := (.int .i64 ((k : Nat) : Int))) rfl ⟨rfl, Gr.refl _ _⟩) ?_
   refine Lx_q (i := 7) rfl rfl _ (fun v26 hv27 => R_index_pure (H10.sl 1 rfl) (n := b.length) rfl (j := ((k : Nat) : Int)) (oo := (hb.o + k * 38)) Tryz.underlying31 Tryz.sizeOf77 rfl rfl (by omega) (by omega) rfl ⟨rfl, Gr.refl _ _⟩) ?_
   refine Lx_q (i := 8) rfl rfl _ (fun v28 hv29 => R_fieldAddr (off := 0) (oo := (hb.o + k * 38)) Tryz.underlying77 rfl rfl Tryz.sizeOf69 rfl rfl ⟨rfl, Gr.refl _ _⟩) ?_
   refine Lx_q (i := 9) rfl rfl _ (fun v30 hv31 => R_loadA (cs := [[(.int .i64 (((nth b k).node).T))], [(.int .i64 (((nth b k).node).R))]]) Tryz.isAgg69 Tryz.sizeOf69 rfl rfl ((Sl.elem ((H10.ext hv31).sl 1 rfl) (i := k) (by omega) rfl).chunks 0 2 0 (hb.o + k * 38) _ rfl rfl rfl) ⟨rfl, Gr.refl _ _⟩) ?_
   refine Lx_q (i := 10) rfl rfl _ (fun v32 hv33 => R_nev (a := ((nth a k).node)) (b := ((nth b k).node)) eqv_Stamp69 rfl Tryz.eqGuardType69 rfl rfl ⟨rfl, Gr.refl _ _⟩) ?_
   refine Lx_q (i := 11) rfl rfl _ (fun v34 hv35 => R_move (v := (.bool (!(decide (((nth a k).node) = ((nth b k).node)))))) rfl ⟨rfl, Gr.refl _ _⟩) ?_
   refine Lx_qg (i := 12) true (!(decide (((nth a k).node) = ((nth b k).node)))) rfl rfl rfl rfl rfl (!(!(decide (((nth a k).node) = ((nth b k).node))))) ga_f _ (fun hA v36 hv37 => R_move (v := (slV ha a)) rfl ⟨rfl, Gr.refl _ _⟩) ?_
   refine Lx_qg (i := 13) true (!(decide (((nth a k).node) = ((nth b k).node)))) rfl rfl rfl rfl rfl (!(!(decide (((nth a k).node) = ((nth b k).node))))) ga_f _ (fun hA v38 hv39 => R_move (v := (.int .i64 ((k : Nat) : Int))) rfl ⟨rfl, Gr.refl _ _⟩) ?_
   refine Lx_qg (i := 14) true (!(decide (((nth a k).node) = ((nth b k).node)))) rfl rfl rfl rfl rfl (!(!(decide (((nth a k).node) = ((nth b k).node))))) ga_f _ (fun hA v40 hv41 => by
          have hP : (((nth a k).node) = ((nth b k).node)) := (of_decide_eq_true (notF (notT hA)))
          exact R_index_pure (H10.sl 3 rfl) (n := a.length) rfl (j := ((k : Nat) : Int)) (oo := (ha.o + k * 38)) Tryz.underlying31 Tryz.sizeOf77 (gv_t hA) (gv_t hA) (by omega) (by omega) rfl ⟨rfl, Gr.refl _ _⟩) ?_
   refine Lx_qg (i := 15) true (!(decide (((nth a k).node) = ((nth b k).node)))) rfl rfl rfl rfl rfl (!(!(decide (((nth a k).node) = ((nth b k).node))))) ga_f _ (fun hA v42 hv43 => R_fieldAddr (off := 2) (oo := ((ha.o + k * 38) + 2)) Tryz.underlying77 rfl rfl Tryz.sizeOf69 (gv_t hA) rfl ⟨rfl, Gr.refl _ _⟩) ?_
   refine Lx_qg (i := 16) true (!(decide (((nth a k).node) = ((nth b k).node)))) rfl rfl rfl rfl rfl (!(!(decide (((nth a k).node) = ((nth b k).node))))) ga_f _ (fun hA v44 hv45 => by
          have hP : (((nth a k).node) = ((nth b k).node)) := (of_decide_eq_true (notF (notT hA)))
          exact R_loadA (cs := [[(.int .i64 (((nth a k).tm).T))], [(.int .i64 (((nth a k).tm).R))]]) Tryz.isAgg69 Tryz.sizeOf69 rfl (gv_t hA) ((Sl.elem ((H10.ext hv45).sl 3 rfl) (i := k) (by omega) rfl).chunks 2 2 2 ((ha.o + k * 38) + 2) _ rfl rfl rfl) ⟨rfl, Gr.refl _ _⟩) ?_
   refine Lx_qg (i := 17) true (!(decide (((nth a k).node) = ((nth b k).node)))) rfl rfl rfl rfl rfl (!(!(decide (((nth a k).node) = ((nth b k).node))))) ga_f _ (fun hA v46 hv47 => R_move (v := (slV hb b)) rfl ⟨rfl, Gr.refl _ _⟩) ?_
   refine Lx_qg (i := 18) true (!(decide (((nth a k).node) = ((nth b k).node)))) rfl rfl rfl rfl rfl (!(!(decide (((nth a k).node) = ((nth b k).node))))) ga_f _ (fun hA v48 hv49 => R_move (v := (.int .i64 ((k : Nat) : Int))) rfl ⟨rfl, Gr.refl _ _⟩) ?_
   refine Lx_qg (i := 19) true (!(decide (((nth a k).node) = ((nth b k).node)))) rfl rfl rfl rfl rfl (!(!(decide (((nth a k).node) = ((nth b k).node))))) ga_f _ (fun hA v50 hv51 => by
          have hP : (((nth a k).node) = ((nth b k).node)) := (of_decide_eq_true (notF (notT hA)))
          exact R_index_pure (H10.sl 1 rfl) (n := b.length) rfl (j := ((k : Nat) : Int)) (oo := (hb.o + k * 38)) Tryz.underlying31 Tryz.sizeOf77 (gv_t hA) (gv_t hA) (by omega) (by omega) rfl ⟨rfl, Gr.refl _ _⟩) ?_
   refine Lx_qg (i := 20) true (!(decide (((nth a k).node) = ((nth b k).node)))) rfl rfl rfl rfl rfl (!(!(decide (((nth a k).node) = ((nth b k).node))))) ga_f _ (fun hA v52 hv53 => R_fieldAddr (off := 2) (oo := ((hb.o + k * 38) + 2)) Tryz.underlying77 rfl rfl Tryz.sizeOf69 (gv_t hA) rfl ⟨rfl, Gr.refl _ _⟩) ?_
   refine Lx_qg (i := 21) true (!(decide (((nth a k).node) = ((nth b k).node)))) rfl rfl rfl rfl rfl (!(!(decide (((nth a k).node) = ((nth b k).node))))) ga_f _ (fun hA v54 hv55 => by
          have hP : (((nth a k).node) = ((nth b k).node)) := (of_decide_eq_true (notF (notT hA)))
          exact R_loadA (cs := [[(.int .i64 (((nth b k).tm).T))], [(.int .i64 (((nth b k).tm).R))]]) Tryz.isAgg69 Tryz.sizeOf69 rfl (gv_t hA) ((Sl.elem ((H10.ext hv55).sl 1 rfl) (i := k) (by omega) rfl).chunks 2 2 2 ((hb.o + k * 38) + 2) _ rfl rfl rfl) ⟨rfl, Gr.refl _ _⟩) ?_
   refine Lx_qg (i := 22) true (!(decide (((nth a k).node) = ((nth b k).node)))) rfl rfl rfl rfl rfl (!(!(decide (((nth a k).node) = ((nth b k).node))))) ga_f _ (fun hA v56 hv57 => R_nev (a := ((nth a k).tm)) (b := ((nth b k).tm)) eqv_Stamp69 rfl Tryz.eqGuardType69 (gv_t hA) (gv_t hA) ⟨rfl, Gr.refl _ _⟩) ?_
   refine Lx_q (i := 23) rfl rfl _ (fun v58 hv59 => R_pick (t := (!(decide (((nth a k).node) = ((nth b k).node))))) (v := (.bool ((!(decide (((nth a k).node) = ((nth b k).node)))) || (!(decide (((nth a k).tm) = ((nth b k).tm))))))) rfl pk_or ⟨rfl, Gr.refl _ _⟩) ?_
   refine Lx_q (i := 24) rfl rfl _ (fun v60 hv61 => R_move (v := (.bool ((!(decide (((nth a k).node) = ((nth b k).node)))) || (!(decide (((nth a k).tm) = ((nth b k).tm))))))) rfl ⟨rfl, Gr.refl _ _⟩) ?_
   refine Lx_qg (i := 25) true ((!(decide (((nth a k).node) = ((nth b k).node)))) || (!(decide (((nth a k).tm) = ((nth b k).tm))))) rfl rfl rfl rfl rfl (!((!(decide (((nth a k).node) = ((nth b k).node)))) || (!(decide (((nth a k).tm) = ((nth b k).tm)))))) ga_f _ (fun hA v62 hv63 => R_move (v := (slV ha a)) rfl ⟨rfl, Gr.refl _ _⟩) ?_
   refine Lx_qg (i := 26) true ((!(decide (((nth a k).node) = ((nth b k).node)))) || (!(decide (((nth a k).tm) = ((nth b k).tm))))) rfl rfl rfl rfl rfl (!((!(decide (((nth a k).node) = ((nth b k).node)))) || (!(decide (((nth a k).tm) = ((nth b k).tm)))))) ga_f _ (fun hA v64 hv65 => R_move (v := (.int .i64 ((k : Nat) : Int))) rfl ⟨rfl, Gr.refl _ _⟩) ?_
   refine Lx_qg (i := 27) true ((!(decide (((nth a k).node) = ((nth b k).node)))) || (!(decide (((nth a k).tm) = ((nth b k).tm))))) rfl rfl rfl rfl rfl (!((!(decide (((nth a k).node) = ((nth b k).node)))) || (!(decide (((nth a k).tm) = ((nth b k).tm)))))) ga_f _ (fun hA v66 hv67 => by
          have hP : ((((nth a k).node) = ((nth b k).node)) ∧ (((nth a k).tm) = ((nth b k).tm))) := (And.imp (fun h => (of_decide_eq_true (notF h))) (fun h => (of_decide_eq_true (notF h))) (orF (notT hA)))
          exact R_index_pure (H10.sl 3 rfl) (n := a.length) rfl (j := ((k : Nat) : Int)) (oo := (ha.o + k * 38)) Tryz.underlying31 Tryz.sizeOf77 (gv_t hA) (gv_t hA) (by omega) (by omega) rfl ⟨rfl, Gr.refl _ _⟩) ?_
   refine Lx_qg (i := 28) true ((!(decide (((nth a k).node) = ((nth b k).node)))) || (!(decide (((nth a k).tm) = ((nth b k).tm))))) rfl rfl rfl rfl rfl (!((!(decide (((nth a k).node) = ((nth b k).node)))) || (!(decide (((nth a k).tm) = ((nth b k).tm)))))) ga_f _ (fun hA v68 hv69 => R_fieldAddr (off := 4) (oo := ((ha.o + k * 38) + 4)) Tryz.underlying77 rfl rfl Tryz.sizeOf9 (gv_t hA) rfl ⟨rfl, Gr.refl _ _⟩) ?_
   refine Lx_qg (i := 29) true ((!(decide (((nth a k).node) = ((nth b k).node)))) || (!(decide (((nth a k).tm) = ((nth b k).tm))))) rfl rfl rfl rfl rfl (!((!(decide (((nth a k).node) = ((nth b k).node)))) || (!(decide (((nth a k).tm) = ((nth b k).tm)))))) ga_f _ (fun hA v70 hv71 => by
          have hP : ((((nth a k).node) = ((nth b k).node)) ∧ (((nth a k).tm) = ((nth b k).tm))) := (And.imp (fun h => (of_decide_eq_true (notF h))) (fun h => (of_decide_eq_true (notF h))) (orF (notT hA)))
          exact R_load1 (v := (.string ((nth a k).name))) Tryz.isAgg9 (gv_t hA) ((Sl.elem ((H10.ext hv71).sl 3 rfl) (i := k) (by omega) rfl).chunks 4 1 4 ((ha.o + k * 38) + 4) _ rfl rfl rfl) ⟨rfl, Gr.refl _ _⟩) ?_
   refine Lx_qg (i := 30) true ((!(decide (((nth a k).node) = ((nth b k).node)))) || (!(decide (((nth a k).tm) = ((nth b k).tm))))) rfl rfl rfl rfl rfl (!((!(decide (((nth a k).node) = ((nth b k).node)))) || (!(decide (((nth a k).tm) = ((nth b k).tm)))))) ga_f _ (fun hA v72 hv73 => R_move (v := (slV hb b)) rfl ⟨rfl, Gr.refl _ _⟩) ?_
   refine Lx_qg (i := 31) true ((!(decide (((nth a k).node) = ((nth b k).node)))) || (!(decide (((nth a k).tm) = ((nth b k).tm))))) rfl rfl rfl rfl rfl (!((!(decide (((nth a k).node) = ((nth b k).node)))) || (!(decide (((nth a k).tm) = ((nth b k).tm)))))) ga_f _ (fun hA v74 hv75 => R_move (v := (.int .i64 ((k : Nat) : Int))) rfl ⟨rfl, Gr.refl _ _⟩) ?_
   refine Lx_qg (i := 32) true ((!(decide (((nth a k).node) = ((nth b k).node)))) || (!(decide (((nth a k).tm) = ((nth b k).tm))))) rfl rfl rfl rfl rfl (!((!(decide (((nth a k).node) = ((nth b k).node)))) || (!(decide (((nth a k).tm) = ((nth b k).tm)))))) ga_f _ (fun hA v76 hv77 => by
          have hP : ((((nth a k).node) = ((nth b k).node)) ∧ (((nth a k).tm) = ((nth b k).tm))) := (And.imp (fun h => (of_decide_eq_true (notF h))) (fun h => (of_decide_eq_true (notF h))) (orF (notT hA)))
          exact R_index_pure (H10.sl 1 rfl) (n := b.length) rfl (j := ((k : Nat) : Int)) (oo := (hb.o + k * 38)) Tryz.underlying31 Tryz.sizeOf77 (gv_t hA) (gv_t hA) (by omega) (by omega) rfl ⟨rfl, Gr.refl _ _⟩) ?_
   refine Lx_qg (i := 33) true ((!(decide (((nth a k).node) = ((nth b k).node)))) || (!(decide (((nth a k).tm) = ((nth b k).tm))))) rfl rfl rfl rfl rfl (!((!(decide (((nth a k).node) = ((nth b k).node)))) || (!(decide (((nth a k).tm) = ((nth b k).tm)))))) ga_f _ (fun hA v78 hv79 => R_fieldAddr (off := 4) (oo := ((hb.o + k * 38) + 4)) Tryz.underlying77 rfl rfl Tryz.sizeOf9 (gv_t hA) rfl ⟨rfl, Gr.refl _ _⟩) ?_
   refine Lx_qg (i := 34) true ((!(decide (((nth a k).node) = ((nth b k).node)))) || (!(decide (((nth a k).tm) = ((nth b k).tm))))) rfl rfl rfl rfl rfl (!((!(decide (((nth a k).node) = ((nth b k).node)))) || (!(decide (((nth a k).tm) = ((nth b k).tm)))))) ga_f _ (fun hA v80 hv81 => by
          have hP : ((((nth a k).node) = ((nth b k).node)) ∧ (((nth a k).tm) = ((nth b k).tm))) := (And.imp (fun h => (of_decide_eq_true (notF h))) (fun h => (of_decide_eq_true (notF h))) (orF (notT hA)))
          exact R_load1 (v := (.string ((nth b k).name))) Tryz.isAgg9 (gv_t hA) ((Sl.elem ((H10.ext hv81).sl 1 rfl) (i := k) (by omega) rfl).chunks 4 1 4 ((hb.o + k * 38) + 4) _ rfl rfl rfl) ⟨rfl, Gr.refl _ _⟩) ?_
   refine Lx_qg (i := 35) true ((!(decide (((nth a k).node) = ((nth b k).node)))) || (!(decide (((nth a k).tm) = ((nth b k).tm))))) rfl rfl rfl rfl rfl (!((!(decide (((nth a k).node) = ((nth b k).node)))) || (!(decide (((nth a k).tm) = ((nth b k).tm)))))) ga_f _ (fun hA v82 hv83 => R_cmpS (a := (nth a k).name) (b := (nth b k).name) (r := (!(decide ((nth a k).name = (nth b k).name)))) (gv_t hA) (gv_t hA) rfl ⟨rfl, Gr.refl _ _⟩) ?_
   refine Lx_q (i := 36) rfl rfl _ (fun v84 hv85 => R_pick (t := ((!(decide (((nth a k).node) = ((nth b k).node)))) || (!(decide (((nth a k).tm) = ((nth b k).tm)))))) (v := (.bool (((!(decide (((nth a k).node) = ((nth b k).node)))) || (!(decide (((nth a k).tm) = ((nth b k).tm))))) || (!(decide ((nth a k).name = (nth b k).name)))))) rfl pk_or ⟨rfl, Gr.refl _ _⟩) ?_
   refine Lx_q (i := 37) rfl rfl _ (fun v86 hv87 => R_move (v := (.bool (((!(decide (((nth a k).node) = ((nth b k).node)))) || (!(decide (((nth a k).tm) = ((nth b k).tm))))) || (!(decide ((nth a k).name = (nth b k).name)))))) rfl ⟨rfl, Gr.refl _ _⟩) ?_
   refine Lx_qg (i := 38) true (((!(decide (((nth a k).node) = ((nth b k).node)))) || (!(decide (((nth a k).tm) = ((nth b k).tm))))) || (!(decide ((nth a k).name = (nth b k).name)))) rfl rfl rfl rfl rfl (!(((!(decide (((nth a k).node) = ((nth b k).node)))) || (!(decide (((nth a k).tm) = ((nth b k).tm))))) || (!(decide ((nth a k).name = (nth b k).name))))) ga_f _ (fun hA v88 hv89 => R_move (v := (slV ha a)) rfl ⟨rfl, Gr.refl _ _⟩) ?_
   refine Lx_qg (i := 39) true (((!(decide (((nth a k).node) = ((nth b k).node)))) || (!(decide (((nth a k).tm) = ((nth b k).tm))))) || (!(decide ((nth a k).name = (nth b k).name)))) rfl rfl rfl rfl rfl (!(((!(decide (((nth a k).node) = ((nth b k).node)))) || (!(decide (((nth a k).tm) = ((nth b k).tm))))) || (!(decide ((nth a k).name = (nth b k).name))))) ga_f _ (fun hA v90 hv91 => R_move (v := (.int .i64 ((k : Nat) : Int))) rfl ⟨rfl, Gr.refl _ _⟩) ?_
   refine Lx_qg (i := 40) true (((!(decide (((nth a k).node) = ((nth b k).node)))) || (!(decide (((nth a k).tm) = ((nth b k).tm))))) || (!(decide ((nth a k).name = (nth b k).name)))) rfl rfl rfl rfl rfl (!(((!(decide (((nth a k).node) = ((nth b k).node)))) || (!(decide (((nth a k).tm) = ((nth b k).tm))))) || (!(decide ((nth a k).name = (nth b k).name))))) ga_f _ (fun hA v92 hv93 => by
          have hP : (((((nth a k).node) = ((nth b k).node)) ∧ (((nth a k).tm) = ((nth b k).tm))) ∧ ((nth a k).name = (nth b k).name)) := (And.imp (fun h => (And.imp (fun h => (of_decide_eq_true (notF h))) (fun h => (of_decide_eq_true (notF h))) (orF h))) (fun h => (of_decide_eq_true (notF h))) (orF (notT hA)))
          exact R_index_pure (H10.sl 3 rfl) (n := a.length) rfl (j := ((k : Nat) : Int)) (oo := (ha.o + k * 38)) Tryz.underlying31 Tryz.sizeOf77 (gv_t hA) (gv_t hA) (by omega) (by omega) rfl ⟨rfl, Gr.refl _ _⟩) ?_
   refine Lx_qg (i := 41) true (((!(decide (((nth a k).node) = ((nth b k).node)))) || (!(decide (((nth a k).tm) = ((nth b k).tm))))) || (!(decide ((nth a k).name = (nth b k).name)))) rfl rfl rfl rfl rfl (!(((!(decide (((nth a k).node) = ((nth b k).node)))) || (!(decide (((nth a k).tm) = ((nth b k).tm))))) || (!(decide ((nth a k).name = (nth b k).name))))) ga_f _ (fun hA v94 hv95 => R_fieldAddr (off := 5) (oo := ((ha.o + k * 38) + 5)) Tryz.underlying77 rfl rfl Tryz.sizeOf45 (gv_t hA) rfl ⟨rfl, Gr.refl _ _⟩) ?_
   refine Lx_qg (i := 42) true (((!(decide (((nth a k).node) = ((nth b k).node)))) || (!(decide (((nth a k).tm) = ((nth b k).tm))))) || (!(decide ((nth a k).name = (nth b k).name)))) rfl rfl rfl rfl rfl (!(((!(decide (((nth a k).node) = ((nth b k).node)))) || (!(decide (((nth a k).tm) = ((nth b k).tm))))) || (!(decide ((nth a k).name = (nth b k).name))))) ga_f _ (fun hA v96 hv97 => by
          have hP : (((((nth a k).node) = ((nth b k).node)) ∧ (((nth a k).tm) = ((nth b k).tm))) ∧ ((nth a k).name = (nth b k).name)) := (And.imp (fun h => (And.imp (fun h => (of_decide_eq_true (notF h))) (fun h => (of_decide_eq_true (notF h))) (orF h))) (fun h => (of_decide_eq_true (notF h))) (orF (notT hA)))
          exact R_loadA (cs := [(idCells ((nth a k).sub))]) Tryz.isAgg45 Tryz.sizeOf45 rfl (gv_t hA) ((Sl.elem ((H10.ext hv97).sl 3 rfl) (i := k) (by omega) rfl).chunks 5 1 5 ((ha.o + k * 38) + 5) _ rfl rfl rfl) ⟨rfl, Gr.refl _ _⟩) ?_
   refine Lx_qg (i := 43) true (((!(decide (((nth a k).node) = ((nth b k).node)))) || (!(decide (((nth a k).tm) = ((nth b k).tm))))) || (!(decide ((nth a k).name = (nth b k).name)))) rfl rfl rfl rfl rfl (!(((!(decide (((nth a k).node) = ((nth b k).node)))) || (!(decide (((nth a k).tm) = ((nth b k).tm))))) || (!(decide ((nth a k).name = (nth b k).name))))) ga_f _ (fun hA v98 hv99 => R_move (v := (slV hb b)) rfl ⟨rfl, Gr.refl _ _⟩) ?_
   refine Lx_qg (i := 44) true (((!(decide (((nth a k).node) = ((nth b k).node)))) || (!(decide (((nth a k).tm) = ((nth b k).tm))))) || (!(decide ((nth a k).name = (nth b k).name)))) rfl rfl rfl rfl rfl (!(((!(decide (((nth a k).node) = ((nth b k).node)))) || (!(decide (((nth a k).tm) = ((nth b k).tm))))) || (!(decide ((nth a k).name = (nth b k).name))))) ga_f _ (fun hA v100 hv101 => R_move (v := (.int .i64 ((k : Nat) : Int))) rfl ⟨rfl, Gr.refl _ _⟩) ?_
   refine Lx_qg (i := 45) true (((!(decide (((nth a k).node) = ((nth b k).node)))) || (!(decide (((nth a k).tm) = ((nth b k).tm))))) || (!(decide ((nth a k).name = (nth b k).name)))) rfl rfl rfl rfl rfl (!(((!(decide (((nth a k).node) = ((nth b k).node)))) || (!(decide (((nth a k).tm) = ((nth b k).tm))))) || (!(decide ((nth a k).name = (nth b k).name))))) ga_f _ (fun hA v102 hv103 => by
          have hP : (((((nth a k).node) = ((nth b k).node)) ∧ (((nth a k).tm) = ((nth b k).tm))) ∧ ((nth a k).name = (nth b k).name)) := (And.imp (fun h => (And.imp (fun h => (of_decide_eq_true (notF h))) (fun h => (of_decide_eq_true (notF h))) (orF h))) (fun h => (of_decide_eq_true (notF h))) (orF (notT hA)))
          exact R_index_pure (H10.sl 1 rfl) (n := b.length) rfl (j := ((k : Nat) : Int)) (oo := (hb.o + k * 38)) Tryz.underlying31 Tryz.sizeOf77 (gv_t hA) (gv_t hA) (by omega) (by omega) rfl ⟨rfl, Gr.refl _ _⟩) ?_
   refine Lx_qg (i := 46) true (((!(decide (((nth a k).node) = ((nth b k).node)))) || (!(decide (((nth a k).tm) = ((nth b k).tm))))) || (!(decide ((nth a k).name = (nth b k).name)))) rfl rfl rfl rfl rfl (!(((!(decide (((nth a k).node) = ((nth b k).node)))) || (!(decide (((nth a k).tm) = ((nth b k).tm))))) || (!(decide ((nth a k).name = (nth b k).name))))) ga_f _ (fun hA v104 hv105 => R_fieldAddr (off := 5) (oo := ((hb.o + k * 38) + 5)) Tryz.underlying77 rfl rfl Tryz.sizeOf45 (gv_t hA) rfl ⟨rfl, Gr.refl _ _⟩) ?_
   refine Lx_qg (i := 47) true (((!(decide (((nth a k).node) = ((nth b k).node)))) || (!(decide (((nth a k).tm) = ((nth b k).tm))))) || (!(decide ((nth a k).name = (nth b k).name)))) rfl rfl rfl rfl rfl (!(((!(decide (((nth a k).node) = ((nth b k).node)))) || (!(decide (((nth a k).tm) = ((nth b k).tm))))) || (!(decide ((nth a k).name = (nth b k).name))))) ga_f _ (fun hA v106 hv107 => by
          have hP : (((((nth a k).node) = ((nth b k).node)) ∧ (((nth a k).tm) = ((nth b k).tm))) ∧ ((nth a k).name = (nth b k).name)) := (And.imp (fun h => (And.imp (fun h => (of_decide_eq_true (notF h))) (fun h => (of_decide_eq_true (notF h))) (orF h))) (fun h => (of_decide_eq_true (notF h))) (orF (notT hA)))
          exact R_loadA (cs := [(idCells ((nth b k).sub))]) Tryz.isAgg45 Tryz.sizeOf45 rfl (gv_t hA) ((Sl.elem ((H10.ext hv107).sl 1 rfl) (i := k) (by omega) rfl).chunks 5 1 5 ((hb.o + k * 38) + 5) _ rfl rfl rfl) ⟨rfl, Gr.refl _ _⟩) ?_
   refine Lx_qg (i := 48) true (((!(decide (((nth a k).node) = ((nth b k).node)))) || (!(decide (((nth a k).tm) = ((nth b k).tm))))) || (!(decide ((nth a k).name = (nth b k).name)))) rfl rfl rfl rfl rfl (!(((!(decide (((nth a k).node) = ((nth b k).node)))) || (!(decide (((nth a k).tm) = ((nth b k).tm))))) || (!(decide ((nth a k).name = (nth b k).name))))) ga_f _ (fun hA v108 hv109 => R_nev (a := (nth a k).sub) (b := (nth b k).sub) eqv_ID45 rfl Tryz.eqGuardType45 (gv_t hA) (gv_t hA) ⟨rfl, Gr.refl _ _⟩) ?_
   refine Lx_q (i := 49) rfl rfl _ (fun v110 hv111 => R_pick (t := (((!(decide (((nth a k).node) = ((nth b k).node)))) || (!(decide (((nth a k).tm) = ((nth b k).tm))))) || (!(decide ((nth a k).name = (nth b k).name))))) (v := (.bool ((((!(decide (((nth a k).node) = ((nth b k).node)))) || (!(decide (((nth a k).tm) = ((nth b k).tm))))) || (!(decide ((nth a k).name = (nth b k).name)))) || (!(decide ((nth a k).sub = (nth b k).sub)))))) rfl pk_or ⟨rfl, Gr.refl _ _⟩) ?_
   refine Lx_q (i := 50) rfl rfl _ (fun v112 hv113 => R_move (v := (.bool ((((!(decide (((nth a k).node) = ((nth b k).node)))) || (!(decide (((nth a k).tm) = ((nth b k).tm))))) || (!(decide ((nth a k).name = (nth b k).name)))) || (!(decide ((nth a k).sub = (nth b k).sub)))))) rfl ⟨rfl, Gr.refl _ _⟩) ?_
   refine Lx_qg (i := 51) true ((((!(decide (((nth a k).node) = ((nth b k).node)))) || (!(decide (((nth a k).tm) = ((nth b k).tm))))) || (!(decide ((nth a k).name = (nth b k).name)))) || (!(decide ((nth a k).sub = (nth b k).sub)))) rfl rfl rfl rfl rfl (!((((!(decide (((nth a k).node) = ((nth b k).node)))) || (!(decide (((nth a k).tm) = ((nth b k).tm))))) || (!(decide ((nth a k).name = (nth b k).name)))) || (!(decide ((nth a k).sub = (nth b k).sub))))) ga_f _ (fun hA v114 hv115 => R_move (v := (slV ha a)) rfl ⟨rfl, Gr.refl _ _⟩) ?_
   refine Lx_qg (i := 52) true ((((!(decide (((nth a k).node) = ((nth b k).node)))) || (!(decide (((nth a k).tm) = ((nth b k).tm))))) || (!(decide ((nth a k).name = (nth b k).name)))) || (!(decide ((nth a k).sub = (nth b k).sub)))) rfl rfl rfl rfl rfl (!((((!(decide (((nth a k).node) = ((nth b k).node)))) || (!(decide (((nth a k).tm) = ((nth b k).tm))))) || (!(decide ((nth a k).name = (nth b k).name)))) || (!(decide ((nth a k).sub = (nth b k).sub))))) ga_f _ (fun hA v116 hv117 => R_move (v := (.int .i64 ((k : Nat) : Int))) rfl ⟨rfl, Gr.refl _ _⟩) ?_
   refine Lx_qg (i := 53) true ((((!(decide (((nth a k).node) = ((nth b k).node)))) || (!(decide (((nth a k).tm) = ((nth b k).tm))))) || (!(decide ((nth a k).name = (nth b k).name)))) || (!(decide ((nth a k).sub = (nth b k).sub)))) rfl rfl rfl rfl rfl (!((((!(decide (((nth a k).node) = ((nth b k).node)))) || (!(decide (((nth a k).tm) = ((nth b k).tm))))) || (!(decide ((nth a k).name = (nth b k).name)))) || (!(decide ((nth a k).sub = (nth b k).sub))))) ga_f _ (fun hA v118 hv119 => by
          have hP : ((((((nth a k).node) = ((nth b k).node)) ∧ (((nth a k).tm) = ((nth b k).tm))) ∧ ((nth a k).name = (nth b k).name)) ∧ ((nth a k).sub = (nth b k).sub)) := (And.imp (fun h => (And.imp (fun h => (And.imp (fun h => (of_decide_eq_true (notF h))) (fun h => (of_decide_eq_true (notF h))) (orF h))) (fun h => (of_decide_eq_true (notF h))) (orF h))) (fun h => (of_decide_eq_true (notF h))) (orF (notT hA)))
          exact R_index_pure (H10.sl 3 rfl) (n := a.length) rfl (j := ((k : Nat) : Int)) (oo := (ha.o + k * 38)) Tryz.underlying31 Tryz.sizeOf77 (gv_t hA) (gv_t hA) (by omega) (by omega) rfl ⟨rfl, Gr.refl _ _⟩) ?_
   refine Lx_qg (i := 54) true ((((!(decide (((nth a k).node) = ((nth b k).node)))) || (!(decide (((nth a k).tm) = ((nth b k).tm))))) || (!(decide ((nth a k).name = (nth b k).name)))) || (!(decide ((nth a k).sub = (nth b k).sub)))) rfl rfl rfl rfl rfl (!((((!(decide (((nth a k).node) = ((nth b k).node)))) || (!(decide (((nth a k).tm) = ((nth b k).tm))))) || (!(decide ((nth a k).name = (nth b k).name)))) || (!(decide ((nth a k).sub = (nth b k).sub))))) ga_f _ (fun hA v120 hv121 => R_fieldAddr (off := 37) (oo := ((ha.o + k * 38) + 37)) Tryz.underlying77 rfl rfl Tryz.sizeOf75 (gv_t hA) rfl ⟨rfl, Gr.refl _ _⟩) ?_
   refine Lx_qg (i := 55) true ((((!(decide (((nth a k).node) = ((nth b k).node)))) || (!(decide (((nth a k).tm) = ((nth b k).tm))))) || (!(decide ((nth a k).name = (nth b k).name)))) || (!(decide ((nth a k).sub = (nth b k).sub)))) rfl rfl rfl rfl rfl (!((((!(decide (((nth a k).node) = ((nth b k).node)))) || (!(decide (((nth a k).tm) = ((nth b k).tm))))) || (!(decide ((nth a k).name = (nth b k).name)))) || (!(decide ((nth a k).sub = (nth b k).sub))))) ga_f _ (fun hA v122 hv123 => by
          have hP : ((((((nth a k).node) = ((nth b k).node)) ∧ (((nth a k).tm) = ((nth b k).tm))) ∧ ((nth a k).name = (nth b k).name)) ∧ ((nth a k).sub = (nth b k).sub)) := (And.imp (fun h => (And.imp (fun h => (And.imp (fun h => (of_decide_eq_true (notF h))) (fun h => (of_decide_eq_true (notF h))) (orF h))) (fun h => (of_decide_eq_true (notF h))) (orF h))) (fun h => (of_decide_eq_true (notF h))) (orF (notT hA)))
          exact R_load1 (v := (slV ((nth a k).hh) ((nth a k).heads))) Tryz.isAgg75 (gv_t hA) ((Sl.elem ((H10.ext hv123).sl 3 rfl) (i := k) (by omega) rfl).chunks 6 1 37 ((ha.o + k * 38) + 37) _ rfl rfl rfl) ⟨rfl, Gr.refl _ _⟩) ?_
   refine Lx_qg (i := 56) true ((((!(decide (((nth a k).node) = ((nth b k).node)))) || (!(decide (((nth a k).tm) = ((nth b k).tm))))) || (!(decide ((nth a k).name = (nth b k).name)))) || (!(decide ((nth a k).sub = (nth b k).sub)))) rfl rfl rfl rfl rfl (!((((!(decide (((nth a k).node) = ((nth b k).node)))) || (!(decide (((nth a k).tm) = ((nth b k).tm))))) || (!(decide ((nth a k).name = (nth b k).name)))) || (!(decide ((nth a k).sub = (nth b k).sub))))) ga_f _ (fun hA v124 hv125 => R_move (v := (slV hb b)) rfl ⟨rfl, Gr.refl _ _⟩) ?_
   refine Lx_qg (i := 57) true ((((!(decide (((nth a k).node) = ((nth b k).node)))) || (!(decide (((nth a k).tm) = ((nth b k).tm))))) || (!(decide ((nth a k).name = (nth b k).name)))) || (!(decide ((nth a k).sub = (nth b k).sub)))) rfl rfl rfl rfl rfl (!((((!(decide (((nth a k).node) = ((nth b k).node)))) || (!(decide (((nth a k).tm) = ((nth b k).tm))))) || (!(decide ((nth a k).name = (nth b k).name)))) || (!(decide ((nth a k).sub = (nth b k).sub))))) ga_f _ (fun hA v126 hv127 => R_move (v := (.int .i64 ((k : Nat) : Int))) rfl ⟨rfl, Gr.refl _ _⟩) ?_
   refine Lx_qg (i := 58) true ((((!(decide (((nth a k).node) = ((nth b k).node)))) || (!(decide (((nth a k).tm) = ((nth b k).tm))))) || (!(decide ((nth a k).name = (nth b k).name)))) || (!(decide ((nth a k).sub = (nth b k).sub)))) rfl rfl rfl rfl rfl (!((((!(decide (((nth a k).node) = ((nth b k).node)))) || (!(decide (((nth a k).tm) = ((nth b k).tm))))) || (!(decide ((nth a k).name = (nth b k).name)))) || (!(decide ((nth a k).sub = (nth b k).sub))))) ga_f _ (fun hA v128 hv129 => by
          have hP : ((((((nth a k).node) = ((nth b k).node)) ∧ (((nth a k).tm) = ((nth b k).tm))) ∧ ((nth a k).name = (nth b k).name)) ∧ ((nth a k).sub = (nth b k).sub)) := (And.imp (fun h => (And.imp (fun h => (And.imp (fun h => (of_decide_eq_true (notF h))) (fun h => (of_decide_eq_true (notF h))) (orF h))) (fun h => (of_decide_eq_true (notF h))) (orF h))) (fun h => (of_decide_eq_true (notF h))) (orF (notT hA)))
          exact R_index_pure (H10.sl 1 rfl) (n := b.length) rfl (j := ((k : Nat) : Int)) (oo := (hb.o + k * 38)) Tryz.underlying31 Tryz.sizeOf77 (gv_t hA) (gv_t hA) (by omega) (by omega) rfl ⟨rfl, Gr.refl _ _⟩) ?_
   refine Lx_qg (i := 59) true ((((!(decide (((nth a k).node) = ((nth b k).node)))) || (!(decide (((nth a k).tm) = ((nth b k).tm))))) || (!(decide ((nth a k).name = (nth b k).name)))) || (!(decide ((nth a k).sub = (nth b k).sub)))) rfl rfl rfl rfl rfl (!((((!(decide (((nth a k).node) = ((nth b k).node)))) || (!(decide (((nth a k).tm) = ((nth b k).tm))))) || (!(decide ((nth a k).name = (nth b k).name)))) || (!(decide ((nth a k).sub = (nth b k).sub))))) ga_f _ (fun hA v130 hv131 => R_fieldAddr (off := 37) (oo := ((hb.o + k * 38) + 37)) Tryz.underlying77 rfl rfl Tryz.sizeOf75 (gv_t hA) rfl ⟨rfl, Gr.refl _ _⟩) ?_
   refine Lx_qg (i := 60) true ((((!(decide (((nth a k).node) = ((nth b k).node)))) || (!(decide (((nth a k).tm) = ((nth b k).tm))))) || (!(decide ((nth a k).name = (nth b k).name)))) || (!(decide ((nth a k).sub = (nth b k).sub)))) rfl rfl rfl rfl rfl (!((((!(decide (((nth a k).node) = ((nth b k).node)))) || (!(decide (((nth a k).tm) = ((nth b k).tm))))) || (!(decide ((nth a k).name = (nth b k).name)))) || (!(decide ((nth a k).sub = (nth b k).sub))))) ga_f _ (fun hA v132 hv133 => by
          have hP : ((((((nth a k).node) = ((nth b k).node)) ∧ (((nth a k).tm) = ((nth b k).tm))) ∧ ((nth a k).name = (nth b k).name)) ∧ ((nth a k).sub = (nth b k).sub)) := (And.imp (fun h => (And.imp (fun h => (And.imp (fun h => (of_decide_eq_true (notF h))) (fun h => (of_decide_eq_true (notF h))) (orF h))) (fun h => (of_decide_eq_true (notF h))) (orF h))) (fun h => (of_decide_eq_true (notF h))) (orF (notT hA)))
          exact R_load1 (v := (slV ((nth b k).hh) ((nth b k).heads))) Tryz.isAgg75 (gv_t hA) ((Sl.elem ((H10.ext hv133).sl 1 rfl) (i := k) (by omega) rfl).chunks 6 1 37 ((hb.o + k * 38) + 37) _ rfl rfl rfl) ⟨rfl, Gr.refl _ _⟩) ?_
   refine Lx_qg (i := 61) true ((((!(decide (((nth a k).node) = ((nth b k).node)))) || (!(decide (((nth a k).tm) = ((nth b k).tm))))) || (!(decide ((nth a k).name = (nth b k).name)))) || (!(decide ((nth a k).sub = (nth b k).sub)))) rfl rfl rfl rfl rfl (!((((!(decide (((nth a k).node) = ((nth b k).node)))) || (!(decide (((nth a k).tm) = ((nth b k).tm))))) || (!(decide ((nth a k).name = (nth b k).name)))) || (!(decide ((nth a k).sub = (nth b k).sub))))) ga_f (.bool (decide (((nth a k).heads) = ((nth b k).heads)))) (fun hA v134 hv135 => by
          have hP : ((((((nth a k).node) = ((nth b k).node)) ∧ (((nth a k).tm) = ((nth b k).tm))) ∧ ((nth a k).name = (nth b k).name)) ∧ ((nth a k).sub = (nth b k).sub)) := (And.imp (fun h => (And.imp (fun h => (And.imp (fun h => (of_decide_eq_true (notF h))) (fun h => (of_decide_eq_true (notF h))) (orF h))) (fun h => (of_decide_eq_true (notF h))) (orF h))) (fun h => (of_decide_eq_true (notF h))) (orF (notT hA)))
          exact R_callL (vs := [(slV ((nth a k).hh) ((nth a k).heads)), (slV ((nth b k).hh) ((nth b k).heads))]) ref04_SameDir_c52 rfl (lst2 (gv_t hA) (gv_t hA)) (ref04_SameHeads ((nth a k).hh) ((nth a k).heads) ((nth b k).hh) ((nth b k).heads) v134 ((H10.ext hv135).deepOld 2 rfl _ (nth_mem (by omega))) ((H10.ext hv135).deepOld 0 rfl _ (nth_mem (by omega))))) ?_
   refine Lx_qg (i := 62) true ((((!(decide (((nth a k).node) = ((nth b k).node)))) || (!(decide (((nth a k).tm) = ((nth b k).tm))))) || (!(decide ((nth a k).name = (nth b k).name)))) || (!(decide ((nth a k).sub = (nth b k).sub)))) rfl rfl rfl rfl rfl (!((((!(decide (((nth a k).node) = ((nth b k).node)))) || (!(decide (((nth a k).tm) = ((nth b k).tm))))) || (!(decide ((nth a k).name = (nth b k).name)))) || (!(decide ((nth a k).sub = (nth b k).sub))))) ga_f _ (fun hA v136 hv137 => R_not (gv_t hA) ⟨rfl, Gr.refl _ _⟩) ?_
   refine Lx_q (i := 63) rfl rfl _ (fun v138 hv139 => R_pick (t := ((((!(decide (((nth a k).node) = ((nth b k).node)))) || (!(decide (((nth a k).tm) = ((nth b k).tm))))) || (!(decide ((nth a k).name = (nth b k).name)))) || (!(decide ((nth a k).sub = (nth b k).sub))))) (v := (.bool (((((!(decide (((nth a k).node) = ((nth b k).node)))) || (!(decide (((nth a k).tm) = ((nth b k).tm))))) || (!(decide ((nth a k).name = (nth b k).name)))) || (!(decide ((nth a k).sub = (nth b k).sub)))) || (!(decide (((nth a k).heads) = ((nth b k).heads))))))) rfl pk_or ⟨rfl, Gr.refl _ _⟩) ?_
   refine Lx_nil (fun w140 hw141 => ?_)
   have H142 := H10.ext hw141
   refine Then_n ?_
   refine W_cond (t := (((((!(decide (((nth a k).node) = ((nth b k).node)))) || (!(decide (((nth a k).tm) = ((nth b k).tm))))) || (!(decide ((nth a k).name = (nth b k).name)))) || (!(decide ((nth a k).sub = (nth b k).sub)))) || (!(decide (((nth a k).heads) = ((nth b k).heads)))))) rfl (fun hc143 => ?_) (fun hc143 => ?_)
   ·have hc143 : ((((¬ (((nth a k).node) = ((nth b k).node)) ∨ ¬ (((nth a k).tm) = ((nth b k).tm))) ∨ ¬ ((nth a k).name = (nth b k).name)) ∨ ¬ ((nth a k).sub = (nth b k).sub)) ∨ ¬ (((nth a k).heads) = ((nth b k).heads))) := (Or.imp (fun h => (Or.imp (fun h => (Or.imp (fun h => (Or.imp (fun h => (of_decide_eq_false (notT h))) (fun h => (of_decide_eq_false (notT h))) (orT h))) (fun h => (of_decide_eq_false (notT h))) (orT h))) (fun h => (of_decide_eq_false (notT h))) (orT h))) (fun h => (of_decide_eq_false (notT h))) (orT hc143))
    refine W_seq (W_reg ?_)
    refine O_v rfl (R_assign (v := (.bool false)) rfl ?_)
    refine O_nil (Then_n (W_ret (Blk_r (Then_r (Then_r (Blk_r (Then_r ?_)))))))
    refine ret_1 (v := (.bool false)) Tryz.results19 rfl ?_
    exact ⟨(boolF (map_ne_nth ItemS.core (k := k) (by omega) (by assumption) (itemNe (by assumption)))), H142.gr⟩
   ·have hc143 : (((((((nth a k).node) = ((nth b k).node)) ∧ (((nth a k).tm) = ((nth b k).tm))) ∧ ((nth a k).name = (nth b k).name)) ∧ ((nth a k).sub = (nth b k).sub)) ∧ (((nth a k).heads) = ((nth b k).heads))) := (And.imp (fun h => (And.imp (fun h => (And.imp (fun h => (And.imp (fun h => (of_decide_eq_true (notF h))) (fun h => (of_decide_eq_true (notF h))) (orF h))) (fun h => (of_decide_eq_true (notF h))) (orF h))) (fun h => (of_decide_eq_true (notF h))) (orF h))) (fun h => (of_decide_eq_true (notF h))) (orF hc143))
    refine W_skip (Blk_n (Then_n (W_reg ?_)))
    refine O_v rfl (R_move (v := (.int .i64 ((k : Nat) : Int))) rfl ?_)
    refine O_v rfl (R_arith (a := ((k : Nat) : Int)) (b := 1) (r0 := ((k : Nat) : Int) + 1) (r := ((k + 1 : Nat) : Int)) rfl rfl rfl (wrapN _ (by omega)) ?_)
    refine O_v rfl (R_assign (v := (.int .i64 ((k + 1 : Nat) : Int))) rfl ?_)
    refine O_nil (Then_n ?_)
    refine ⟨_, ?_, (k + 1), rfl, (by omega), (all_succ hn (itemEq (by assumption))), _, envL_self ⟨rfl, rfl, rfl, trivial⟩, H142⟩
    omega
  ·have hc11 : ¬ (((k : Nat) : Int) < ((a.length : Nat) : Int)) := (of_decide_eq_false hc11)
   refine W_exit (Then_x (Then_x (Blk_x (Then_n (W_seq (W_reg ?_))))))
   refine O_v rfl (R_assign (v := (.bool true)) rfl ?_)
   refine O_nil (Then_n (W_ret ?_))
   refine ret_1 (v := (.bool true)) Tryz.results19 rfl ?_
   exact ⟨(boolT (map_eqN ItemS.core (by omega) (by rwa [show a.length = k from by omega]))), H10.gr⟩

end Go.Proofs.YthjdhfoeckfmbaaGreat
namespace Go.Proofs.YthjdhfoeckfmbaaGreat
open Go
set_option maxRecDepth 100000
set_option linter.unusedVariables false
set_option linter.unusedSimpArgs false
set_option linter.unusedSectionVars false
variable [DD]
set_option maxHeartbeats 1000000 in
theorem ref04_SameIDs (ha : SlH) (a : List ID) (hb : SlH) (b : List ID) (w : World) (Sa : Sl (Old w) idCh 32 ha a w) (Sb : Sl (Old w) idCh 32 hb b w) :
    Calls Tryz.prog 20 #[(slV ha a), (slV hb b)] w (Ret fun v w' => v = (.bool (decide (a = b))) ∧ Ext w w') := by
 refine calls_W Tryz.func20 rfl Tryz.ntmps20 rfl ?_
 have H0 := Ctx.start w nob
 have H1 := H0.addSl _ Sa (fun b hb => ⟨hb, fun _ ho => (nomatch ho)⟩)
 have LSa := Sa.len
 have H2 := H1.addSl _ Sb (fun b hb => ⟨hb, fun _ ho => (nomatch ho)⟩)
 have LSb := Sb.len
 refine W_seq (W_reg ?_)
 refine O_v rfl (R_assign (v := (.bool false)) rfl ?_)
 refine O_nil (Then_n (W_seq (W_seq (W_reg ?_))))
 refine O_v rfl (R_move (v := (slV ha a)) rfl ?_)
 refine O_v rfl (R_len_slice (a := ha.a) (n := a.length) (c := ha.c) Tryz.underlying39 rfl ?_)
 refine O_v rfl (R_move (v := (slV hb b)) rfl ?_)
 refine O_v rfl (R_len_slice (a := hb.a) (n := b.length) (c := hb.c) Tryz.underlying41 rfl ?_)
 refine O_v rfl (R_cmp (a := ((a.length : Nat) : Int)) (b := ((b.length : Nat) : Int)) (r := (!(decide (((a.length : Nat) : Int) = ((b.length : Nat) : Int))))) rfl rfl rfl ?_)
 refine O_nil (Then_n ?_)
 refine W_cond (t := (!(decide (((a.length : Nat) : Int) = ((b.length : Nat) : Int))))) rfl (fun hc3 => ?_) (fun hc3 => ?_)
 ·have hc3 : ¬ (((a.length : Nat) : Int) = ((b.length : Nat) : Int)) := (of_decide_eq_false (notT hc3))
  refine W_seq (W_reg ?_)
  refine O_v rfl (R_assign (v := (.bool false)) rfl ?_)
  refine O_nil (Then_n (W_ret (Then_r ?_)))
  refine ret_1 (v := (.bool false)) Tryz.results20 rfl ?_
  exact ⟨(boolF (fun h => by subst h; omega)), H2.gr⟩
 ·have hc3 : (((a.length : Nat) : Int) = ((b.length : Nat) : Int)) := (of_decide_eq_true (notF hc3))
  refine W_skip (Then_n (W_seq (W_seq (W_reg ?_))))
  refine O_v rfl (R_assign (v := (.int .i64 0)) rfl ?_)
  refine O_nil (Then_n (W_block ?_))
  refine W_loop (fun m4 e5 w6 => ∃ (k : Nat), m4 = a.length - k ∧ (k ≤ a.length) ∧ (∀ i, i < k → nth a i = nth b i) ∧ ∃ eb7, e5 = envL [(0, (slV ha a)), (1, (slV hb b)), (5, (.int .i64 ((k : Nat) : Int)))] eb7 ∧ Ctx w nob w6 [] [slI (Old w) idCh 32 hb b, slI (Old w) idCh 32 ha a]) _ ⟨0, rfl, (by omega), (all_zero _), _, envL_self ⟨rfl, rfl, rfl, trivial⟩, H2⟩ ?_
  rintro m4 _ w6 ⟨k, rfl, hk, hn, eb7, rfl, H8⟩
  refine W_seq (W_seq (W_reg ?_))
  refine O_v rfl (R_move (v := (.int .i64 ((k : Nat) : Int))) rfl ?_)
  refine O_v rfl (R_move (v := (slV ha a)) rfl ?_)
  refine O_v rfl (R_len_slice (a := ha.a) (n := a.length) (c := ha.c) Tryz.underlying39 rfl ?_)
  refine O_v rfl (R_cmp (a := ((k : Nat) : Int)) (b := ((a.length : Nat) : Int)) (r := (decide (((k : Nat) : Int) < ((a.length : Nat) : Int)))) rfl rfl rfl ?_)
  refine O_nil (Then_n ?_)
  refine W_cond (t := (decide (((k : Nat) : Int) < ((a.length : Nat) : Int)))) rfl (fun hc9 => ?_) (fun hc9 => ?_)
  ·have hc9 : (((k : Nat) : Int) < ((a.length : Nat) : Int)) := (of_decide_eq_true hc9)
   refine W_skip (Then_n (W_seq (W_block (W_seq ?_))))
   refine W_rgd TryzMixed [(0, .q 0), (1, .q 0), (2, .q 0), (3, .q 0), (4, .q 0), (5, .q 0), (6, .q 0), (7, .q 0), (8, .q 0)] (by kernel_rfl) ?_
   refine Lx_q (i := 0) rfl rfl _ (fun v10 hv11 => R_move (v := (slV ha a)) rfl ⟨rfl, Gr.refl _ _⟩) ?_
   refine Lx_q (i := 1) rfl rfl _ (fun v12 hv13 => R_move (v := (.int .i64 ((k : Nat) : Int))) rfl ⟨rfl, Gr.refl _ _⟩) ?_
   refine Lx_q (i := 2) rfl rfl _ (fun v14 hv15 => R_index_pure (H8.sl 1 rfl) (n := a.length) rfl (j := ((k : Nat) : Int)) (oo := (ha.o + k * 32)) Tryz.underlying39 Tryz.sizeOf45 rfl rfl (by omega) (by omega) rfl ⟨rfl, Gr.refl _ _⟩) ?_
   refine Lx_q (i := 3) rfl rfl _ (fun v16 hv17 => R_loadA (cs := [(idCells (nth a k))]) Tryz.isAgg45 Tryz.sizeOf45 rfl rfl ((Sl.elem ((H8.ext hv17).sl 1 rfl) (i := k) (by omega) rfl).chunks 0 1 0 (ha.o + k * 32) _ rfl rfl rfl) ⟨rfl, Gr.refl _ _⟩) ?_
   refine Lx_q (i := 4) rfl rfl _ (fun v18 hv19 => R_move (v := (slV hb b)) rfl ⟨rfl, Gr.refl _ _⟩) ?_
   refine Lx_q (i := 5) rfl rfl _ (fun v20 hv21 => R_move (v := (.int .i64 ((k : Nat) : Int))) rfl ⟨rfl, Gr.refl _ _⟩) ?_
   refine Lx_q (i := 6) rfl rfl _ (fun v22 hv23 => R_index_pure (H8.sl 0 rfl) (n := b.length) rfl (j := ((k : Nat) : Int)) (oo := (hb.o + k * 32)) Tryz.underlying41 Tryz.sizeOf44 rfl rfl (by omega) (by omega) rfl ⟨rfl, Gr.refl _ _⟩) ?_
   refine Lx_q (i := 7) rfl rfl _ (fun v24 hv25 => R_loadA (cs := [(idCells (nth b k))]) Tryz.isAgg44 Tryz.sizeOf44 rfl rfl ((Sl.elem ((H8.ext hv25).sl 0 rfl) (i := k) (by omega) rfl).chunks 0 1 0 (hb.o + k * 32) _ rfl rfl rfl) ⟨rfl, Gr.refl _ _⟩) ?_
   refine Lx_q (i := 8) rfl rfl _ (fun v26 hv27 => R_nev (a := (nth a k)) (b := (nth b k)) eqv_ID45 rfl Tryz.eqGuardType45 rfl rfl ⟨rfl, Gr.refl _ _⟩) ?_
   refine Lx_nil (fun w28 hw29 => ?_)
   have H30 := H8.ext hw29
   refine Then_n ?_
   refine W_cond (t := (!(decide ((nth a k) = (nth b k))))) rfl (fun hc31 => ?_) (fun hc31 => ?_)
   ·have hc31 : ¬ ((nth a k) = (nth b k)) := (of_decide_eq_false (notT hc31))
    refine W_seq (W_reg ?_)
    refine O_v rfl (R_assign (v := (.bool false)) rfl ?_)
    refine O_nil (Then_n (W_ret (Blk_r (Then_r (Then_r (Blk_r (Then_r ?_)))))))
    refine ret_1 (v := (.bool false)) Tryz.results20 rfl ?_
    exact ⟨(boolF (fun h => by subst h; exact absurd rfl (by assumption))), H30.gr⟩
   ·have hc31 : ((nth a k) = (nth b k)) := (of_decide_eq_true (notF hc31))
    refine W_skip (Blk_n (Then_n (W_reg ?_)))
    refine O_v rfl (R_move (v := (.int .i64 ((k : Nat) : Int))) rfl ?_)
    refine O_v rfl (R_arith (a := ((k : Nat) : Int)) (b := 1) (r0 := ((k : Nat) : Int) + 1) (r := ((k + 1 : Nat) : Int)) rfl rfl rfl (wrapN _ (by omega)) ?_)
    refine O_v rfl (R_assign (v := (.int .i64 ((k + 1 : Nat) : Int))) rfl ?_)
    refine O_nil (Then_n ?_)
    refine ⟨_, ?_, (k + 1), rfl, (by omega), (all_succ hn (by assumption)), _, envL_self ⟨rfl, rfl, rfl, trivial⟩, H30⟩
    omega
  ·have hc9 : ¬ (((k : Nat) : Int) < ((a.length : Nat) : Int)) := (of_decide_eq_false hc9)
   refine W_exit (Then_x (Then_x (Blk_x (Then_n (W_seq (W_reg ?_))))))
   refine O_v rfl (R_assign (v := (.bool true)) rfl ?_)
   refine O_nil (Then_n (W_ret ?_))
   refine ret_1 (v := (.bool true)) Tryz.results20 rfl ?_
   exact ⟨(boolT (eq_of_nth (by omega) (by rwa [show a.length = k from by omega]))), H8.gr⟩

end Go.Proofs.YthjdhfoeckfmbaaGreat
namespace Go.Proofs.YthjdhfoeckfmbaaGreat
open Go
set_option maxRecDepth 100000
set_option linter.unusedVariables false
set_option linter.unusedSimpArgs false
set_option linter.unusedSectionVars false
theorem law04_ObjReads_c9 : callable Tryz.prog 9 = true := by kernel_rfl
theorem law04_ObjReads_c14 : callable Tryz.prog 14 = true := by kernel_rfl
theorem law04_ObjReads_c17 : callable Tryz.prog 17 = true := by kernel_rfl
theorem law04_ObjReads_c19 : callable Tryz.prog 19 = true := by kernel_rfl
theorem law04_ObjReads_c20 : callable Tryz.prog 20 = true := by kernel_rfl
theorem law04_ObjReads_c21 : callable Tryz.prog 21 = true := by kernel_rfl
theorem law04_ObjReads_c22 : callable Tryz.prog 22 = true := by kernel_rfl
theorem law04_ObjReads_c25 : callable Tryz.prog 25 = true := by kernel_rfl
theorem law04_ObjReads_c27 : callable Tryz.prog 27 = true := by kernel_rfl
theorem law04_ObjReads_c30 : callable Tryz.prog 30 = true := by kernel_rfl
theorem law04_ObjReads_c32 : callable Tryz.prog 32 = true := by kernel_rfl
theorem law04_ObjReads_c33 : callable Tryz.prog 33 = true := by kernel_rfl
theorem law04_ObjReads_c34 : callable Tryz.prog 34 = true := by kernel_rfl
theorem law04_ObjReads_c35 : callable Tryz.prog 35 = true := by kernel_rfl
set_option maxHeartbeats 4000000 in
theorem law04_ObjReads (hb : SlH) (b : List UInt8) (w : World) (Sb : Sl (Old w) encB 1 hb b w) :
    Calls Tryz.prog 7 #[(slV hb b)] w (Ret fun v w' => v = (.bool true) ∧ Ext w w') := by
 refine calls_W Tryz.func7 rfl Tryz.ntmps7 rfl ?_
 have H0 := Ctx.start w nob
 have H1 := H0.addSl _ Sb (fun b hb => ⟨hb, fun _ ho => (nomatch ho)⟩)
 have LSb := Sb.len
 refine W_seq (W_reg ?_)
 refine O_v rfl (R_assign (v := (.bool false)) rfl ?_)
 refine O_nil (Then_n (W_seq (W_seq (W_reg ?_))))
 refine O_v rfl (R_callL (vs := []) law04_ObjReads_c9 rfl rfl ((law04_alive  w ).ret ?_))
 rintro _ w2 ⟨rfl, hx3⟩
 have H4 := H1.ext hx3
 refine O_v rfl (R_not rfl ?_)
 refine O_nil (Then_n ?_)
 refine W_cond_f rfl ?_
 refine W_skip (Then_n (W_seq (W_seq (W_reg ?_))))
 refine O_v rfl (R_move (v := (slV hb b)) rfl ?_)
 refine O_v rfl (R_len_slice (a := hb.a) (n := b.length) (c := hb.c) Tryz.underlying22 rfl ?_)
 refine O_v rfl (R_cmp (a := ((b.length : Nat) : Int)) (b := 20000) (r := (decide (20000 < ((b.length : Nat) : Int)))) rfl rfl rfl ?_)
 refine O_nil (Then_n ?_)
 refine W_cond (t := (decide (20000 < ((b.length : Nat) : Int)))) rfl (fun hc5 => ?_) (fun hc5 => ?_)
 ·have hc5 : (20000 < ((b.length : Nat) : Int)) := (of_decide_eq_true hc5)
  refine W_seq (W_reg ?_)
  refine O_v rfl (R_assign (v := (.bool true)) rfl ?_)
  refine O_nil (Then_n (W_ret (Then_r ?_)))
  refine ret_1 (v := (.bool true)) Tryz.results7 rfl ?_
  exact ⟨rfl, H4.gr⟩
 ·have hc5 : ¬ (20000 < ((b.length : Nat) : Int)) := (of_decide_eq_false hc5)
  refine W_skip (Then_n (W_seq (W_reg ?_)))
  refine O_v rfl (R_move (v := (slV hb b)) rfl ?_)
  refine O_v rfl (R_callL (vs := [(slV hb b)]) law04_ObjReads_c17 rfl rfl ((obj_Dir hb b w2 (H4.slOld 0 rfl) (by omega)).ret ?_))
  rintro _ w9 ⟨h6, l7, S8, e16, rfl, hx10, ho11, hS12, hd13, hr14⟩
  have H15 := H4.addRowDeep (h := fun x : ItemS => x.hh) (f := fun x : ItemS => x.heads) hx10 ho11 hS12 hd13
  refine O_v rfl (R_move (v := (.tuple #[(slV h6 l7), (.int .i64 e16)])) rfl ?_)
  refine O_v rfl (R_extract (v := (slV h6 l7)) rfl rfl ?_)
  refine O_v rfl (R_extract (v := (.int .i64 e16)) rfl rfl ?_)
  refine O_v rfl (R_assign (v := (slV h6 l7)) rfl ?_)
  refine O_v rfl (R_assign (v := (.int .i64 e16)) rfl ?_)
  refine O_nil (Then_n (W_seq (W_reg ?_)))
  refine O_v rfl (R_move (v := (slV hb b)) rfl ?_)
  refine O_v rfl (R_callL (vs := [(slV hb b)]) law04_ObjReads_c25 rfl rfl ((obj_Change hb b w9 (H15.slOld 1 rfl) (by omega)).ret ?_))
  rintro _ w20 ⟨x17, S18, e19, rfl, hx21, hS22, hs23, hs24, hs25, hr26⟩
  have H28 := H15.addImm hx21 (slI S18 idCh 32 x17.ph x17.parents) hs23 hS22
  have H29 := H28.immOf 0 rfl (slI S18 opCh 41 x17.oh x17.ops) (fun _ h => h) (fun _ => hs24)
  have H30 := H29.immOf 0 rfl (deepI S18 stampCh 2 (fun x : OpS => x.oh) (fun x : OpS => x.over) x17.ops) (fun _ h => h) (fun _ => hs25)
  refine O_v rfl (R_move (v := (.tuple #[(aggOf (changeCh x17)), (.int .i64 e19)])) rfl ?_)
  refine O_v rfl (R_extract (v := (aggOf (changeCh x17))) rfl rfl ?_)
  refine O_v rfl (R_extract (v := (.int .i64 e19)) rfl rfl ?_)
  refine O_v rfl (C_alloc H30 [[(.slice none 0 0)], [(.int .i64 0)], [(.int .i64 0)], [(.slice none 0 0)], (idCells zeroId), [(.string ByteArray.empty)]] Tryz.zeroValue47 ?_)
  intro b31 w32 hb33 hx34 H35
  refine O_u (C_storeA H35 0 rfl 0 (sub := [[(slV x17.ph x17.parents)], [(.int .i64 x17.time)], [(.int .i64 x17.r)], [(slV x17.oh x17.ops)], (idCells x17.tree), [(.string x17.msg)]]) [[(slV x17.ph x17.parents)], [(.int .i64 x17.time)], [(.int .i64 x17.r)], [(slV x17.oh x17.ops)], (idCells x17.tree), [(.string x17.msg)]] Tryz.sizeOf47 rfl rfl rfl rfl ⟨[[(.slice none 0 0)], [(.int .i64 0)], [(.int .i64 0)], [(.slice none 0 0)], (idCells zeroId), [(.string ByteArray.empty)]], [], rfl, rfl, rfl⟩ rfl ?_)
  intro w36 hg37 H38
  refine O_v rfl (R_assign (v := (.int .i64 e19)) rfl ?_)
  refine O_nil (Then_n (W_seq (W_reg ?_)))
  refine O_v rfl (R_move (v := (slV hb b)) rfl ?_)
  refine O_v rfl (R_callL (vs := [(slV hb b)]) law04_ObjReads_c30 rfl rfl ((obj_Label hb b w36 (H38.slOld 4 rfl) (by omega)).ret ?_))
  rintro _ w39 ⟨rfl, hx40⟩
  have H41 := H38.ext hx40
  refine O_v rfl (R_move (v := (.tuple #[(aggOf (labelCh ((labelOf b).1))), (.int .i64 ((labelOf b).2))])) rfl ?_)
  refine O_v rfl (R_extract (v := (aggOf (labelCh ((labelOf b).1)))) rfl rfl ?_)
  refine O_v rfl (R_extract (v := (.int .i64 ((labelOf b).2))) rfl rfl ?_)
  refine O_v rfl (C_alloc H41 [(idCells zeroId), [(.string ByteArray.empty)], [(.string ByteArray.empty)]] Tryz.zeroValue55 ?_)
  intro b42 w43 hb44 hx45 H46
  refine O_u (C_storeA H46 0 rfl 0 (sub := [(idCells (((labelOf b).1).target)), [(.string (((labelOf b).1).name))], [(.string (((labelOf b).1).msg))]]) [(idCells (((labelOf b).1).target)), [(.string (((labelOf b).1).name))], [(.string (((labelOf b).1).msg))]] Tryz.sizeOf55 rfl rfl rfl rfl ⟨[(idCells zeroId), [(.string ByteArray.empty)], [(.string ByteArray.empty)]], [], rfl, rfl, rfl⟩ rfl ?_)
  intro w47 hg48 H49
  refine O_v rfl (R_assign (v := (.int .i64 ((labelOf b).2))) rfl ?_)
  refine O_nil (Then_n (W_seq (W_reg ?_)))
  refine O_v rfl (R_move (v := (slV hb b)) rfl ?_)
  refine O_v rfl (R_callL (vs := [(slV hb b)]) law04_ObjReads_c32 rfl rfl ((ref04_Dir hb b w47 (H49.slOld 4 rfl)).ret ?_))
  rintro _ w53 ⟨h50, l51, S52, rfl, hx54, ho55, hS56, hd57, hr58⟩
  have H59 := H49.addRowDeep (h := fun x : ItemS => x.hh) (f := fun x : ItemS => x.heads) hx54 ho55 hS56 hd57
  refine O_v rfl (R_move (v := (.tuple #[(slV h50 l51), (.bool (DirB b))])) rfl ?_)
  refine O_v rfl (R_extract (v := (slV h50 l51)) rfl rfl ?_)
  refine O_v rfl (R_extract (v := (.bool (DirB b))) rfl rfl ?_)
  refine O_v rfl (R_assign (v := (slV h50 l51)) rfl ?_)
  refine O_v rfl (R_assign (v := (.bool (DirB b))) rfl ?_)
  refine O_nil (Then_n (W_seq (W_reg ?_)))
  refine O_v rfl (R_move (v := (slV hb b)) rfl ?_)
  refine O_v rfl (R_callL (vs := [(slV hb b)]) law04_ObjReads_c33 rfl rfl ((ref04_Change hb b w53 (H59.slOld 5 rfl)).ret ?_))
  rintro _ w63 ⟨x60, S61, rfl, hx64, hS65, hs66, hs67, hs68, hr69⟩
  have H71 := H59.addImm hx64 (slI S61 idCh 32 x60.ph x60.parents) hs66 hS65
  have H72 := H71.immOf 0 rfl (slI S61 opCh 41 x60.oh x60.ops) (fun _ h => h) (fun _ => hs67)
  have H73 := H72.immOf 0 rfl (deepI S61 stampCh 2 (fun x : OpS => x.oh) (fun x : OpS => x.over) x60.ops) (fun _ h => h) (fun _ => hs68)
  refine O_v rfl (R_move (v := (.tuple #[(aggOf (changeCh x60)), (.bool (ChangeB b))])) rfl ?_)
  refine O_v rfl (R_extract (v := (aggOf (changeCh x60))) rfl rfl ?_)
  refine O_v rfl (R_extract (v := (.bool (ChangeB b))) rfl rfl ?_)
  refine O_v rfl (C_alloc H73 [[(.slice none 0 0)], [(.int .i64 0)], [(.int .i64 0)], [(.slice none 0 0)], (idCells zeroId), [(.string ByteArray.empty)]] Tryz.zeroValue47 ?_)
  intro b74 w75 hb76 hx77 H78
  refine O_u (C_storeA H78 0 rfl 0 (sub := [[(slV x60.ph x60.parents)], [(.int .i64 x60.time)], [(.int .i64 x60.r)], [(slV x60.oh x60.ops)], (idCells x60.tree), [(.string x60.msg)]]) [[(slV x60.ph x60.parents)], [(.int .i64 x60.time)], [(.int .i64 x60.r)], [(slV x60.oh x60.ops)], (idCells x60.tree), [(.string x60.msg)]] Tryz.sizeOf47 rfl rfl rfl rfl ⟨[[(.slice none 0 0)], [(.int .i64 0)], [(.int .i64 0)], [(.slice none 0 0)], (idCells zeroId), [(.string ByteArray.empty)]], [], rfl, rfl, rfl⟩ rfl ?_)
  intro w79 hg80 H81
  refine O_v rfl (R_assign (v := (.bool (ChangeB b))) rfl ?_)
  refine O_nil (Then_n (W_seq (W_reg ?_)))
  refine O_v rfl (R_move (v := (slV hb b)) rfl ?_)
  refine O_v rfl (R_callL (vs := [(slV hb b)]) law04_ObjReads_c34 rfl rfl ((ref04_Label hb b w79 (H81.slOld 8 rfl)).ret ?_))
  rintro _ w82 ⟨rfl, hx83⟩
  have H84 := H81.ext hx83
  refine O_v rfl (R_move (v := (.tuple #[(aggOf (labelCh ((labelOf b).1))), (.bool (decide ((labelOf b).2 = 0)))])) rfl ?_)
  refine O_v rfl (R_extract (v := (aggOf (labelCh ((labelOf b).1)))) rfl rfl ?_)
  refine O_v rfl (R_extract (v := (.bool (decide ((labelOf b).2 = 0)))) rfl rfl ?_)
  refine O_v rfl (C_alloc H84 [(idCells zeroId), [(.string ByteArray.empty)], [(.string ByteArray.empty)]] Tryz.zeroValue55 ?_)
  intro b85 w86 hb87 hx88 H89
  refine O_u (C_storeA H89 0 rfl 0 (sub := [(idCells (((labelOf b).1).target)), [(.string (((labelOf b).1).name))], [(.string (((labelOf b).1).msg))]]) [(idCells (((labelOf b).1).target)), [(.string (((labelOf b).1).name))], [(.string (((labelOf b).1).msg))]] Tryz.sizeOf55 rfl rfl rfl rfl ⟨[(idCells zeroId), [(.string ByteArray.empty)], [(.string ByteArray.empty)]], [], rfl, rfl, rfl⟩ rfl ?_)
  intro w90 hg91 H92
  refine O_v rfl (R_assign (v := (.bool (decide ((labelOf b).2 = 0)))) rfl ?_)
  refine O_nil (Then_n (W_seq (W_seq (W_reg ?_))))
  refine O_v rfl (R_move (v := (.int .i64 e16)) rfl ?_)
  refine O_v rfl (R_cmp (a := e16) (b := 0) (r := (decide (e16 = 0))) rfl rfl rfl ?_)
  refine O_v rfl (R_move (v := (.bool (DirB b))) rfl ?_)
  refine O_k rfl (.bool false) (R_neqB (a := (decide (e16 = 0))) (b := (DirB b)) Tryz.underlying4 rfl rfl ⟨(congrArg Value.bool (reads_d hr14)), Gr.refl _ _⟩) (fun w93 hx94 => ?_)
  have H95 := H92.ext hx94
  refine O_v rfl (R_move (v := (.bool false)) rfl ?_)
  refine O_vT rfl rfl rfl rfl (R_move (v := (.int .i64 e19)) rfl ?_)
  refine O_vT rfl rfl rfl rfl (R_cmp (a := e19) (b := 0) (r := (decide (e19 = 0))) rfl rfl rfl ?_)
  refine O_vT rfl rfl rfl rfl (R_move (v := (.bool (ChangeB b))) rfl ?_)
  refine O_kT rfl rfl rfl rfl (.bool false) (R_neqB (a := (decide (e19 = 0))) (b := (ChangeB b)) Tryz.underlying4 rfl rfl ⟨(congrArg Value.bool (reads_c hr26)), Gr.refl _ _⟩) (fun w96 hx97 => ?_)
  have H98 := H95.ext hx97
  refine O_v rfl (R_pick (t := false) (v := (.bool false)) rfl rfl ?_)
  refine O_v rfl (R_move (v := (.bool false)) rfl ?_)
  refine O_vT rfl rfl rfl rfl (R_move (v := (.int .i64 ((labelOf b).2))) rfl ?_)
  refine O_vT rfl rfl rfl rfl (R_cmp (a := (labelOf b).2) (b := 0) (r := (decide ((labelOf b).2 = 0))) rfl rfl rfl ?_)
  refine O_vT rfl rfl rfl rfl (R_move (v := (.bool (decide ((labelOf b).2 = 0)))) rfl ?_)
  refine O_kT rfl rfl rfl rfl (.bool false) (R_neqB (a := (decide ((labelOf b).2 = 0))) (b := (decide ((labelOf b).2 = 0))) Tryz.underlying4 rfl rfl ⟨(congrArg Value.bool (by simp)), Gr.refl _ _⟩) (fun w99 hx100 => ?_)
  have H101 := H98.ext hx100
  refine O_v rfl (R_pick (t := false) (v := (.bool false)) rfl rfl ?_)
  refine O_nil (Then_n ?_)
  refine W_cond_f rfl ?_
  refine W_skip (Then_n (W_seq (W_reg ?_)))
  refine O_v rfl (R_move (v := (slV hb b)) rfl ?_)
  refine O_k rfl (.int .i64 (kindOf b)) (R_callL (vs := [(slV hb b)]) law04_ObjReads_c14 rfl rfl (obj_Kind hb b w99 (H101.slOld 8 rfl) (by omega))) (fun w102 hx103 => ?_)
  have H104 := H101.ext hx103
  refine O_v rfl (R_move (v := (slV hb b)) rfl ?_)
  refine O_k rfl (.int .i64 (kindOf b)) (R_callL (vs := [(slV hb b)]) law04_ObjReads_c35 rfl rfl (ref04_Kind hb b w102 (H104.slOld 8 rfl))) (fun w105 hx106 => ?_)
  have H107 := H104.ext hx106
  refine O_k rfl (.bool true) (R_cmp (a := kindOf b) (b := kindOf b) (r := (decide (kindOf b = kindOf b))) rfl rfl rfl ⟨(boolK (decide_eq_true rfl)), Gr.refl _ _⟩) (fun w108 hx109 => ?_)
  have H110 := H107.ext hx109
  refine O_v rfl (R_move (v := (.bool true)) rfl ?_)
  refine O_vT rfl rfl rfl rfl (R_move (v := (slV h6 l7)) rfl ?_)
  refine O_vT rfl rfl rfl rfl (R_move (v := (slV h50 l51)) rfl ?_)
  refine O_kT rfl rfl rfl rfl (.bool true) (R_callL (vs := [(slV h6 l7), (slV h50 l51)]) law04_ObjReads_c19 rfl rfl ((ref04_SameDir h6 l7 h50 l51 w108 (H110.rowSl 5 rfl (fun _ => rfl)) (H110.deepOld 7 rfl) (H110.rowSl 2 rfl (fun _ => rfl)) (H110.deepOld 3 rfl)).ret (fun _ _ h => ⟨h.1.trans (boolK (decide_eq_true (reads_sd hr14 hr58))), h.2⟩))) (fun w111 hx112 => ?_)
  have H113 := H110.ext hx112
  refine O_v rfl (R_pick (t := true) (v := (.bool true)) rfl rfl ?_)
  refine O_v rfl (R_move (v := (.bool true)) rfl ?_)
  refine O_vT rfl rfl rfl rfl (R_loadA (cs := [[(slV x17.ph x17.parents)], [(.int .i64 x17.time)], [(.int .i64 x17.r)], [(slV x17.oh x17.ops)], (idCells x17.tree), [(.string x17.msg)]]) Tryz.isAgg47 Tryz.sizeOf47 rfl rfl ((boxR_at (H113.getOwn 4 rfl)).chunks 0 6 0 0 _ rfl rfl rfl) ?_)
  refine O_vT rfl rfl rfl rfl (R_loadA (cs := [[(slV x60.ph x60.parents)], [(.int .i64 x60.time)], [(.int .i64 x60.r)], [(slV x60.oh x60.ops)], (idCells x60.tree), [(.string x60.msg)]]) Tryz.isAgg47 Tryz.sizeOf47 rfl rfl ((boxR_at (H113.getOwn 1 rfl)).chunks 0 6 0 0 _ rfl rfl rfl) ?_)
  refine O_kT rfl rfl rfl rfl (.bool true) (R_callL (vs := [(aggOf (changeCh x17)), (aggOf (changeCh x60))]) law04_ObjReads_c27 rfl rfl ((ref04_SameChange x17 x60 w111 (H113.slOld 6 rfl) (H113.slOld 5 rfl) (H113.deepOld 4 rfl) (H113.slOld 2 rfl) (H113.slOld 1 rfl) (H113.deepOld 0 rfl)).ret (fun _ _ h => ⟨h.1.trans (boolK (decide_eq_true (reads_sc hr26 hr69))), h.2⟩))) (fun w114 hx115 => ?_)
  have H116 := H113.ext hx115
  refine O_v rfl (R_pick (t := true) (v := (.bool true)) rfl rfl ?_)
  refine O_v rfl (R_move (v := (.bool true)) rfl ?_)
  refine O_vT rfl rfl rfl rfl (R_loadA (cs := [(idCells (((labelOf b).1).target)), [(.string (((labelOf b).1).name))], [(.string (((labelOf b).1).msg))]]) Tryz.isAgg55 Tryz.sizeOf55 rfl rfl ((boxR_at (H116.getOwn 3 rfl)).chunks 0 3 0 0 _ rfl rfl rfl) ?_)
  refine O_vT rfl rfl rfl rfl (R_loadA (cs := [(idCells (((labelOf b).1).target)), [(.string (((labelOf b).1).name))], [(.string (((labelOf b).1).msg))]]) Tryz.isAgg55 Tryz.sizeOf55 rfl rfl ((boxR_at (H116.getOwn 0 rfl)).chunks 0 3 0 0 _ rfl rfl rfl) ?_)
  refine O_kT rfl rfl rfl rfl (.bool true) (R_eqv (a := ((labelOf b).1)) (b := ((labelOf b).1)) eqv_Label55 rfl Tryz.eqGuardType55 rfl rfl ⟨(boolK (decide_eq_true rfl)), Gr.refl _ _⟩) (fun w117 hx118 => ?_)
  have H119 := H116.ext hx118
  refine O_v rfl (R_pick (t := true) (v := (.bool true)) rfl rfl ?_)
  refine O_v rfl (R_move (v := (.bool true)) rfl ?_)
  refine O_vT rfl rfl rfl rfl (R_move (v := (slV hb b)) rfl ?_)
  refine O_vT rfl rfl rfl rfl (R_callL (vs := [(slV hb b)]) law04_ObjReads_c21 rfl rfl ((obj_LinksG hb b w117 (H119.slOld 8 rfl) (by omega)).ret ?_))
  rintro _ w122 ⟨h120, S121, rfl, hx123, hS124, hv125⟩
  have H126 := H119.addImm hx123 (slI S121 idCh 32 h120 (linksOf b)) hv125 hS124
  refine O_vT rfl rfl rfl rfl (R_move (v := (slV hb b)) rfl ?_)
  refine O_vT rfl rfl rfl rfl (R_callL (vs := [(slV hb b)]) law04_ObjReads_c22 rfl rfl ((ref04_LinksG hb b w122 (H126.slOld 9 rfl)).ret ?_))
  rintro _ w128 ⟨h127, rfl, hx129, ho130⟩
  have H131 := H126.addRow hx129 ho130
  refine O_kT rfl rfl rfl rfl (.bool true) (R_callL (vs := [(slV h120 (linksOf b)), (slV h127 (linksOf b))]) law04_ObjReads_c20 rfl rfl ((ref04_SameIDs h120 (linksOf b) h127 (linksOf b) w128 (H131.slOld 0 rfl) (H131.rowSl 0 rfl (fun _ => rfl))).ret (fun _ _ h => ⟨h.1.trans (boolK (decide_eq_true rfl)), h.2⟩))) (fun w132 hx133 => ?_)
  have H134 := H131.ext hx133
  refine O_v rfl (R_pick (t := true) (v := (.bool true)) rfl rfl ?_)
  refine O_v rfl (R_assign (v := (.bool true)) rfl ?_)
  refine O_nil (Then_n (W_ret ?_))
  refine ret_1 (v := (.bool true)) Tryz.results7 rfl ?_
  exact ⟨rfl, H134.gr⟩

end Go.Proofs.YthjdhfoeckfmbaaGreat
