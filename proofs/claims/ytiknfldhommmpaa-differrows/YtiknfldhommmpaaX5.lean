/- Proved: for every input, pollardlaw14.DifferRows returns true and leaves its arguments as they were. No condition. -/
import Derived.Test.YtiknfldhommmpaaX4
namespace Go.Proofs.Ytiknfldhommmpaa
open Go
set_option maxRecDepth 100000
set_option linter.unusedVariables false
set_option linter.unusedSimpArgs false
theorem snap_Right_c46 : callable Try.prog 46 = true := by kernel_rfl
theorem snap_Right_c47 : callable Try.prog 47 = true := by kernel_rfl
theorem snap_Right_c48 : callable Try.prog 48 = true := by kernel_rfl
set_option maxHeartbeats 1000000 in
theorem snap_Right (hrows : SlH) (rows : List RowS) (w : World) (Srows : Sl (Old w) rowCh 8 hrows rows w) (Drows_heads : ∀ x ∈ rows, Sl (Old w) headCh 34 x.hh x.heads w) (hh : ∀ x ∈ rows, x.heads.length ≤ 1048576) (hAs : ∀ x ∈ rows, asciiOr x.name) :
    Calls Try.prog 34 #[(slV hrows rows)] w (Ret fun v w' => v = (.bool (snapOk rows)) ∧ Ext w w') := by
 refine calls_W Try.func34 rfl Try.ntmps34 rfl ?_
 have H0 := Ctx.start w nob
 have H1 := H0.addSl _ Srows (fun b hb => ⟨hb, fun _ ho => (nomatch ho)⟩)
 have LSrows := Srows.len
 have H2 := H1.addImm' (deepI (Old w) headCh 34 (fun x : RowS => x.hh) (fun x : RowS => x.heads) rows) Drows_heads (fun b hb => ⟨hb, fun _ ho => (nomatch ho)⟩)
 refine W_seq (W_reg ?_)
 refine O_v rfl (R_assign (v := (.bool false)) rfl ?_)
 refine O_nil (Then_n (W_seq (W_seq (W_reg ?_))))
 refine O_v rfl (R_move (v := (slV hrows rows)) rfl ?_)
 refine O_v rfl (R_len_slice (a := hrows.a) (n := rows.length) (c := hrows.c) Try.underlying22 rfl ?_)
 refine O_v rfl (R_cmp (a := ((rows.length : Nat) : Int)) (b := 5000) (r := (decide (5000 < ((rows.length : Nat) : Int)))) rfl rfl rfl ?_)
 refine O_nil (Then_n ?_)
 refine W_cond (t := (decide (5000 < ((rows.length : Nat) : Int)))) rfl (fun hc3 => ?_) (fun hc3 => ?_)
 ·have hc3 : (5000 < ((rows.length : Nat) : Int)) := (of_decide_eq_true hc3)
  refine W_seq (W_reg ?_)
  refine O_v rfl (R_assign (v := (.bool false)) rfl ?_)
  refine O_nil (Then_n (W_ret (Then_r ?_)))
  refine ret_1 (v := (.bool false)) Try.results34 rfl ?_
  exact ⟨(snapF (fun h => by omega)), H2.gr⟩
 ·have hc3 : ¬ (5000 < ((rows.length : Nat) : Int)) := (of_decide_eq_false hc3)
  refine W_skip (Then_n (W_seq (W_reg ?_)))
  refine O_v rfl (C_makeMap H2 (fun x : Stamp => stampV x) stampV ?_)
  intro r4 w5 hr6 hx7 H8
  refine O_v rfl (R_assign (v := (.map (some r4))) rfl ?_)
  refine O_nil (Then_n (W_seq (W_seq (W_reg ?_))))
  refine O_v rfl (R_move (v := (slV hrows rows)) rfl ?_)
  refine O_v rfl (R_len_slice (a := hrows.a) (n := rows.length) (c := hrows.c) Try.underlying22 rfl ?_)
  refine O_v rfl (R_move (v := (.int .i64 0)) rfl ?_)
  refine O_nil (Then_n (W_block ?_))
  refine W_loop (fun m9 e10 w11 => ∃ (k : Nat), ∃ (kvp : List (Stamp × Stamp)), m9 = rows.length - k ∧ (k ≤ rows.length) ∧ (kvp = parentsTo rows k) ∧ (∀ i, i < k → rightRow (nth rows i) = true ∧ (i = 0 ∨ cmpSt (nth rows (i - 1)).node (nth rows i).node < 0)) ∧ ∃ eb12, e10 = envL [(0, (slV hrows rows)), (3, (.map (some r4))), (19, (slV hrows rows)), (20, (.int .i64 ((rows.length : Nat) : Int))), (21, (.int .i64 ((k : Nat) : Int)))] eb12 ∧ Ctx w nob w11 [mapO r4 (fun x : Stamp => stampV x) stampV kvp] [deepI (Old w) headCh 34 (fun x : RowS => x.hh) (fun x : RowS => x.heads) rows, slI (Old w) rowCh 8 hrows rows]) _ ⟨0, [], rfl, (by omega), rfl, (all_zero _), _, envL_self ⟨rfl, rfl, rfl, rfl, rfl, trivial⟩, H8⟩ ?_
  rintro m9 _ w11 ⟨k, kvp, rfl, hk, hkp, hn, eb12, rfl, H13⟩
  refine W_seq (W_reg ?_)
  refine O_v rfl (R_cmp (a := ((k : Nat) : Int)) (b := ((rows.length : Nat) : Int)) (r := (decide (((k : Nat) : Int) < ((rows.length : Nat) : Int)))) rfl rfl rfl ?_)
  refine O_nil (Then_n (W_seq ?_))
  refine W_cond (t := (decide (((k : Nat) : Int) < ((rows.length : Nat) : Int)))) rfl (fun hc14 => ?_) (fun hc14 => ?_)
  ·have hc14 : (((k : Nat) : Int) < ((rows.length : Nat) : Int)) := (of_decide_eq_true hc14)
   refine W_skip (Then_n (W_seq (W_block (W_seq (W_reg ?_)))))
   refine O_v rfl (R_move (v := (.int .i64 ((k : Nat) : Int))) rfl ?_)
   refine O_v rfl (R_index_pure (H13.sl 1 rfl) (n := rows.length) rfl (j := ((k : Nat) : Int)) (oo := (hrows.o + k * 8)) Try.underlying22 Try.sizeOf44 rfl rfl (by omega) (by omega) rfl ?_)
   refine O_v rfl (R_loadA (cs := [[(.int .i64 (((nth rows k).node).T))], [(.int .i64 (((nth rows k).node).R))], [(.int .i64 (((nth rows k).par).T))], [(.int .i64 (((nth rows k).par).R))], [(.int .i64 (((nth rows k).tm).T))], [(.int .i64 (((nth rows k).tm).R))], [(.string ((nth rows k).name))], [(slV ((nth rows k).hh) ((nth rows k).heads))]]) Try.isAgg44 Try.sizeOf44 rfl rfl ((Sl.elem (H13.sl 1 rfl) (i := k) (by omega) rfl).chunks 0 8 0 (hrows.o + k * 8) _ rfl rfl rfl) ?_)
   refine O_v rfl (C_alloc H13 [[(.int .i64 0)], [(.int .i64 0)], [(.int .i64 0)], [(.int .i64 0)], [(.int .i64 0)], [(.int .i64 0)], [(.string ByteArray.empty)], [(.slice none 0 0)]] Try.zeroValue44 ?_)
   intro b15 w16 hb17 hx18 H19
   refine O_v rfl (R_assign (v := (.int .i64 ((k : Nat) : Int))) rfl ?_)
   refine O_u (C_storeA H19 0 rfl 0 (sub := [[(.int .i64 (((nth rows k).node).T))], [(.int .i64 (((nth rows k).node).R))], [(.int .i64 (((nth rows k).par).T))], [(.int .i64 (((nth rows k).par).R))], [(.int .i64 (((nth rows k).tm).T))], [(.int .i64 (((nth rows k).tm).R))], [(.string ((nth rows k).name))], [(slV ((nth rows k).hh) ((nth rows k).heads))]]) [[(.int .i64 (((nth rows k).node).T))], [(.int .i64 (((nth rows k).node).R))], [(.int .i64 (((nth rows k).par).T))], [(.int .i64 (((nth rows k).par).R))], [(.int .i64 (((nth rows k).tm).T))], [(.int .i64 (((nth rows k).tm).R))], [(.string ((nth rows k).name))], [(slV ((nth rows k).hh) ((nth rows k).heads))]] Try.sizeOf44 rfl rfl rfl rfl ⟨[[(.int .i64 0)], [(.int .i64 0)], [(.int .i64 0)], [(.int .i64 0)], [(.int .i64 0)], [(.int .i64 0)], [(.string ByteArray.empty)], [(.slice none 0 0)]], [], rfl, rfl, rfl⟩ rfl ?_)
   intro w20 hg21 H22
   refine O_nil (Then_n (W_seq (W_seq ?_)))
   refine W_rgd TryMixed [(0, .q false), (1, .q false), (2, .q false), (3, .q false), (4, .q false), (5, .q false), (6, .q false), (7, .q false), (8, .q false), (9, .q false), (10, .q false), (11, .q false), (12, .q false), (13, .q false), (14, .q false), (15, .q false), (16, .q false), (17, .q false), (18, .q false)] (by kernel_rfl) ?_
   refine Lx_q (i := 0) rfl rfl _ (fun v23 hv24 => R_loadA (cs := [[(.int .i64 (((nth rows k).node).T))], [(.int .i64 (((nth rows k).node).R))], [(.int .i64 (((nth rows k).par).T))], [(.int .i64 (((nth rows k).par).R))], [(.int .i64 (((nth rows k).tm).T))], [(.int .i64 (((nth rows k).tm).R))], [(.string ((nth rows k).name))], [(slV ((nth rows k).hh) ((nth rows k).heads))]]) Try.isAgg44 Try.sizeOf44 rfl rfl ((boxR_at ((H22.ext hv24).getOwn 0 rfl)).chunks 0 8 0 0 _ rfl rfl rfl) ⟨rfl, Gr.refl _ _⟩) ?_
   refine Lx_q (i := 1) rfl rfl (.bool (rightRow (nth rows k))) (fun v25 hv26 => R_callL (vs := [(aggOf (rowCh (nth rows k)))]) snap_Right_c46 rfl rfl (snap_right (nth rows k) v25 ((H22.ext hv26).deepOld 0 rfl _ (nth_mem (by omega))) (hh _ (nth_mem (by omega))) (hAs _ (nth_mem (by omega))))) ?_
   refine Lx_q (i := 2) rfl rfl _ (fun v27 hv28 => R_not rfl ⟨rfl, Gr.refl _ _⟩) ?_
   refine Lx_q (i := 3) rfl rfl _ (fun v29 hv30 => R_move (v := (.bool (!(rightRow (nth rows k))))) rfl ⟨rfl, Gr.refl _ _⟩) ?_
   refine Lx_qg (i := 4) true (!(rightRow (nth rows k))) rfl rfl rfl rfl rfl (!(!(rightRow (nth rows k)))) ga_f _ (fun hA v31 hv32 => R_move (v := (.int .i64 ((k : Nat) : Int))) rfl ⟨rfl, Gr.refl _ _⟩) ?_
   refine Lx_qg (i := 5) true (!(rightRow (nth rows k))) rfl rfl rfl rfl rfl (!(!(rightRow (nth rows k)))) ga_f _ (fun hA v33 hv34 => R_cmp (a := ((k : Nat) : Int)) (b := 0) (r := (decide (0 < ((k : Nat) : Int)))) (gv_t hA) rfl rfl ⟨rfl, Gr.refl _ _⟩) ?_
   refine Lx_qg (i := 6) true (!(rightRow (nth rows k))) rfl rfl rfl rfl rfl (!(!(rightRow (nth rows k)))) ga_f _ (fun hA v35 hv36 => R_move (v := (.bool (decide (0 < ((k : Nat) : Int))))) (gv_t hA) ⟨rfl, Gr.refl _ _⟩) ?_
   refine Lx_qg (i := 7) (!(!(rightRow (nth rows k)))) (decide (0 < ((k : Nat) : Int))) rfl rfl rfl rfl rfl ((!(!(rightRow (nth rows k)))) && (decide (0 < ((k : Nat) : Int)))) gb_t _ (fun hA v37 hv38 => R_move (v := (slV hrows rows)) rfl ⟨rfl, Gr.refl _ _⟩) ?_
   refine Lx_qg (i := 8) (!(!(rightRow (nth rows k)))) (decide (0 < ((k : Nat) : Int))) rfl rfl rfl rfl rfl ((!(!(rightRow (nth rows k)))) && (decide (0 < ((k : Nat) : Int)))) gb_t _ (fun hA v39 hv40 => R_move (v := (.int .i64 ((k : Nat) : Int))) rfl ⟨rfl, Gr.refl _ _⟩) ?_
   refine Lx_qg (i := 9) (!(!(rightRow (nth rows k)))) (decide (0 < ((k : Nat) : Int))) rfl rfl rfl rfl rfl ((!(!(rightRow (nth rows k)))) && (decide (0 < ((k : Nat) : Int)))) gb_t _ (fun hA v41 hv42 => by
          have hP : ((rightRow (nth rows k)) = true ∧ (0 < ((k : Nat) : Int))) := (And.imp (fun h => (notF (notT h))) (fun h => (of_decide_eq_true h)) (andT hA))
          exact R_arith (a := ((k : Nat) : Int)) (b := 1) (r0 := ((k : Nat) : Int) - 1) (r := ((k - 1 : Nat) : Int)) (gv_t hA) rfl rfl (wrapP _ (by omega) (by omega)) ⟨rfl, Gr.refl _ _⟩) ?_
   refine Lx_qg (i := 10) (!(!(rightRow (nth rows k)))) (decide (0 < ((k : Nat) : Int))) rfl rfl rfl rfl rfl ((!(!(rightRow (nth rows k)))) && (decide (0 < ((k : Nat) : Int)))) gb_t _ (fun hA v43 hv44 => by
          have hP : ((rightRow (nth rows k)) = true ∧ (0 < ((k : Nat) : Int))) := (And.imp (fun h => (notF (notT h))) (fun h => (of_decide_eq_true h)) (andT hA))
          exact R_index_pure (H22.sl 1 rfl) (n := rows.length) rfl (j := ((k - 1 : Nat) : Int)) (oo := (hrows.o + (k - 1) * 8)) Try.underlying22 Try.sizeOf44 (gv_t hA) (gv_t hA) (by omega) (by omega) rfl ⟨rfl, Gr.refl _ _⟩) ?_
   refine Lx_qg (i := 11) (!(!(rightRow (nth rows k)))) (decide (0 < ((k : Nat) : Int))) rfl rfl rfl rfl rfl ((!(!(rightRow (nth rows k)))) && (decide (0 < ((k : Nat) : Int)))) gb_t _ (fun hA v45 hv46 => R_fieldAddr (off := 0) (oo := (hrows.o + (k - 1) * 8)) Try.underlying44 rfl rfl Try.sizeOf24 (gv_t hA) rfl ⟨rfl, Gr.refl _ _⟩) ?_
   refine Lx_qg (i := 12) (!(!(rightRow (nth rows k)))) (decide (0 < ((k : Nat) : Int))) rfl rfl rfl rfl rfl ((!(!(rightRow (nth rows k)))) && (decide (0 < ((k : Nat) : Int)))) gb_t _ (fun hA v47 hv48 => by
          have hP : ((rightRow (nth rows k)) = true ∧ (0 < ((k : Nat) : Int))) := (And.imp (fun h => (notF (notT h))) (fun h => (of_decide_eq_true h)) (andT hA))
          exact R_loadA (cs := [[(.int .i64 (((nth rows (k - 1)).node).T))], [(.int .i64 (((nth rows (k - 1)).node).R))]]) Try.isAgg24 Try.sizeOf24 rfl (gv_t hA) ((Sl.elem ((H22.ext hv48).sl 1 rfl) (i := (k - 1)) (by omega) rfl).chunks 0 2 0 (hrows.o + (k - 1) * 8) _ rfl rfl rfl) ⟨rfl, Gr.refl _ _⟩) ?_
   refine Lx_qg (i := 13) (!(!(rightRow (nth rows k)))) (decide (0 < ((k : Nat) : Int))) rfl rfl rfl rfl rfl ((!(!(rightRow (nth rows k)))) && (decide (0 < ((k : Nat) : Int)))) gb_t _ (fun hA v49 hv50 => R_fieldAddr (off := 0) (oo := 0) Try.underlying44 rfl rfl Try.sizeOf24 rfl rfl ⟨rfl, Gr.refl _ _⟩) ?_
   refine Lx_qg (i := 14) (!(!(rightRow (nth rows k)))) (decide (0 < ((k : Nat) : Int))) rfl rfl rfl rfl rfl ((!(!(rightRow (nth rows k)))) && (decide (0 < ((k : Nat) : Int)))) gb_t _ (fun hA v51 hv52 => R_loadA (cs := [[(.int .i64 (((nth rows k).node).T))], [(.int .i64 (((nth rows k).node).R))]]) Try.isAgg24 Try.sizeOf24 rfl (gv_t hA) ((boxR_at ((H22.ext hv52).getOwn 0 rfl)).chunks 0 2 0 0 _ rfl rfl rfl) ⟨rfl, Gr.refl _ _⟩) ?_
   refine Lx_qg (i := 15) (!(!(rightRow (nth rows k)))) (decide (0 < ((k : Nat) : Int))) rfl rfl rfl rfl rfl ((!(!(rightRow (nth rows k)))) && (decide (0 < ((k : Nat) : Int)))) gb_t (.int .i64 (cmpSt ((nth rows (k - 1)).node) ((nth rows k).node))) (fun hA v53 hv54 => R_callL (vs := [(aggOf (stampCh ((nth rows (k - 1)).node))), (aggOf (stampCh ((nth rows k).node)))]) snap_Right_c47 rfl (lst2 (gv_t hA) (gv_t hA)) (stamp_Cmp ((nth rows (k - 1)).node) ((nth rows k).node) v53 )) ?_
   refine Lx_qg (i := 16) (!(!(rightRow (nth rows k)))) (decide (0 < ((k : Nat) : Int))) rfl rfl rfl rfl rfl ((!(!(rightRow (nth rows k)))) && (decide (0 < ((k : Nat) : Int)))) gb_t _ (fun hA v55 hv56 => R_cmp (a := cmpSt ((nth rows (k - 1)).node) ((nth rows k).node)) (b := 0) (r := (decide (0 ≤ cmpSt ((nth rows (k - 1)).node) ((nth rows k).node)))) (gv_t hA) rfl rfl ⟨rfl, Gr.refl _ _⟩) ?_
   refine Lx_qg (i := 17) true (!(rightRow (nth rows k))) rfl rfl rfl rfl rfl (!(!(rightRow (nth rows k)))) ga_f _ (fun hA v57 hv58 => R_pick (t := (decide (0 < ((k : Nat) : Int)))) (v := (.bool ((decide (0 < ((k : Nat) : Int))) && (decide (0 ≤ cmpSt ((nth rows (k - 1)).node) ((nth rows k).node)))))) (gv_t hA) (pk_andA hA) ⟨rfl, Gr.refl _ _⟩) ?_
   refine Lx_q (i := 18) rfl rfl _ (fun v59 hv60 => R_pick (t := (!(rightRow (nth rows k)))) (v := (.bool ((!(rightRow (nth rows k))) || ((decide (0 < ((k : Nat) : Int))) && (decide (0 ≤ cmpSt ((nth rows (k - 1)).node) ((nth rows k).node))))))) rfl pk_or ⟨rfl, Gr.refl _ _⟩) ?_
   refine Lx_nil (fun w61 hw62 => ?_)
   have H63 := H22.ext hw62
   refine Then_n ?_
   refine W_cond (t := ((!(rightRow (nth rows k))) || ((decide (0 < ((k : Nat) : Int))) && (decide (0 ≤ cmpSt ((nth rows (k - 1)).node) ((nth rows k).node)))))) rfl (fun hc64 => ?_) (fun hc64 => ?_)
   ·have hc64 : ((rightRow (nth rows k)) = false ∨ ((0 < ((k : Nat) : Int)) ∧ (0 ≤ cmpSt ((nth rows (k - 1)).node) ((nth rows k).node)))) := (Or.imp (fun h => (notT h)) (fun h => (And.imp (fun h => (of_decide_eq_true h)) (fun h => (of_decide_eq_true h)) (andT h))) (orT hc64))
    refine W_seq (W_reg ?_)
    refine O_v rfl (R_assign (v := (.bool false)) rfl ?_)
    refine O_nil (Then_n (W_ret (Then_r (Blk_r (Then_r (Then_r (Blk_r (Then_r ?_))))))))
    refine ret_1 (v := (.bool false)) Try.results34 rfl ?_
    exact ⟨(snapF (fun h => right_bad (h.2.1 k (by omega)) (by assumption))), H63.gr⟩
   ·have hc64 : ((rightRow (nth rows k)) = true ∧ (¬ (0 < ((k : Nat) : Int)) ∨ ¬ (0 ≤ cmpSt ((nth rows (k - 1)).node) ((nth rows k).node)))) := (And.imp (fun h => (notF h)) (fun h => (Or.imp (fun h => (of_decide_eq_false h)) (fun h => (of_decide_eq_false h)) (andF h))) (orF hc64))
    refine W_skip (Then_n (W_reg ?_))
    refine O_v rfl (R_move (v := (.map (some r4))) rfl ?_)
    refine O_v rfl (R_fieldAddr (off := 0) (oo := 0) Try.underlying44 rfl rfl Try.sizeOf24 rfl rfl ?_)
    refine O_v rfl (R_loadA (cs := [[(.int .i64 (((nth rows k).node).T))], [(.int .i64 (((nth rows k).node).R))]]) Try.isAgg24 Try.sizeOf24 rfl rfl ((boxR_at (H63.getOwn 0 rfl)).chunks 0 2 0 0 _ rfl rfl rfl) ?_)
    refine O_v rfl (R_fieldAddr (off := 2) (oo := 2) Try.underlying44 rfl rfl Try.sizeOf24 rfl rfl ?_)
    refine O_v rfl (R_loadA (cs := [[(.int .i64 (((nth rows k).par).T))], [(.int .i64 (((nth rows k).par).R))]]) Try.isAgg24 Try.sizeOf24 rfl rfl ((boxR_at (H63.getOwn 0 rfl)).chunks 2 2 2 2 _ rfl rfl rfl) ?_)
    refine O_u (C_mapUpdate H63 1 rfl (kk := ((nth rows k).node)) (v := ((nth rows k).par)) keyT_Stamp24 Try.underlying88 rfl rfl rfl ?_)
    intro w65 hg66 H67
    refine O_nil (Blk_n (Then_n (W_reg ?_)))
    refine O_v rfl (R_arith (a := ((k : Nat) : Int)) (b := 1) (r0 := ((k : Nat) : Int) + 1) (r := ((k + 1 : Nat) : Int)) rfl rfl rfl (wrapN _ (by omega)) ?_)
    refine O_v rfl (R_move (v := (.int .i64 ((k + 1 : Nat) : Int))) rfl ?_)
    refine O_nil (Then_n ?_)
    have H68 := H67.sub (B' := [mapO r4 (fun x : Stamp => stampV x) stampV (kvPut ((nth rows k).node) ((nth rows k).par) kvp)]) (I' := [deepI (Old w) headCh 34 (fun x : RowS => x.hh) (fun x : RowS => x.heads) rows, slI (Old w) rowCh 8 hrows rows]) (List.Sublist.cons _ (List.Sublist.cons_cons _ List.Sublist.slnil)) (List.forall_mem_cons.2 ⟨List.mem_of_getElem? (i := 0) rfl, List.forall_mem_cons.2 ⟨List.mem_of_getElem? (i := 1) rfl, fun _ h => (nomatch h)⟩⟩)
    refine ⟨_, ?_, (k + 1), (kvPut ((nth rows k).node) ((nth rows k).par) kvp), rfl, (by omega), (by rw [hkp]; exact parentsTo_succ (by omega)), (all_succ hn (right_at (by assumption))), _, envL_self ⟨rfl, rfl, rfl, rfl, rfl, trivial⟩, H68⟩
    omega
  ·have hc14 : ¬ (((k : Nat) : Int) < ((rows.length : Nat) : Int)) := (of_decide_eq_false hc14)
   refine W_exit (Then_x (Then_x (Blk_x (Then_n (W_seq (W_reg ?_))))))
   refine O_v rfl (C_makeMap H13 (fun x : Stamp => stampV x) boolV ?_)
   intro r69 w70 hr71 hx72 H73
   refine O_v rfl (R_assign (v := (.map (some r69))) rfl ?_)
   refine O_nil (Then_n (W_seq (W_seq (W_reg ?_))))
   refine O_v rfl (R_move (v := (slV hrows rows)) rfl ?_)
   refine O_v rfl (R_len_slice (a := hrows.a) (n := rows.length) (c := hrows.c) Try.underlying22 rfl ?_)
   refine O_v rfl (R_move (v := (.int .i64 0)) rfl ?_)
   refine O_nil (Then_n (W_block ?_))
   refine W_loop (fun m74 e75 w76 => ∃ (m : Nat), ∃ (kvg : List (Stamp × Bool)), m74 = rows.length - m ∧ (m ≤ rows.length) ∧ (∀ s, (kvGet kvg s).getD false = true → reach (parentsAll rows) s) ∧ (∀ i, i < m → reach (parentsAll rows) (nth rows i).node) ∧ (kvp = parentsAll rows) ∧ (∀ i, i < rows.length → rightRow (nth rows i) = true ∧ (i = 0 ∨ cmpSt (nth rows (i - 1)).node (nth rows i).node < 0)) ∧ (¬ (5000 : Int) < ((rows.length : Nat) : Int)) ∧ ∃ eb77, e75 = envL [(0, (slV hrows rows)), (3, (.map (some r4))), (6, (.map (some r69))), (52, (slV hrows rows)), (53, (.int .i64 ((rows.length : Nat) : Int))), (54, (.int .i64 ((m : Nat) : Int)))] eb77 ∧ Ctx w nob w76 [mapO r69 (fun x : Stamp => stampV x) boolV kvg, mapO r4 (fun x : Stamp => stampV x) stampV kvp] [deepI (Old w) headCh 34 (fun x : RowS => x.hh) (fun x : RowS => x.heads) rows, slI (Old w) rowCh 8 hrows rows]) _ ⟨0, [], rfl, (by omega), (fun s h => by simp [kvGet_nil] at h), (all_zero _), (by rw [hkp, show k = rows.length from by omega]; rfl), (by rwa [show rows.length = k from by omega]), (by assumption), _, envL_self ⟨rfl, rfl, rfl, rfl, rfl, rfl, trivial⟩, H73⟩ ?_
   rintro m74 _ w76 ⟨m, kvg, rfl, hm, hg, hr, hpa, hn2, h5, eb77, rfl, H78⟩
   refine W_seq (W_reg ?_)
   refine O_v rfl (R_cmp (a := ((m : Nat) : Int)) (b := ((rows.length : Nat) : Int)) (r := (decide (((m : Nat) : Int) < ((rows.length : Nat) : Int)))) rfl rfl rfl ?_)
   refine O_nil (Then_n (W_seq ?_))
   refine W_cond (t := (decide (((m : Nat) : Int) < ((rows.length : Nat) : Int)))) rfl (fun hc79 => ?_) (fun hc79 => ?_)
   ·have hc79 : (((m : Nat) : Int) < ((rows.length : Nat) : Int)) := (of_decide_eq_true hc79)
    refine W_skip (Then_n (W_seq (W_block (W_seq (W_reg ?_)))))
    refine O_v rfl (R_index_pure (H78.sl 1 rfl) (n := rows.length) rfl (j := ((m : Nat) : Int)) (oo := (hrows.o + m * 8)) Try.underlying22 Try.sizeOf44 rfl rfl (by omega) (by omega) rfl ?_)
    refine O_v rfl (R_loadA (cs := [[(.int .i64 (((nth rows m).node).T))], [(.int .i64 (((nth rows m).node).R))], [(.int .i64 (((nth rows m).par).T))], [(.int .i64 (((nth rows m).par).R))], [(.int .i64 (((nth rows m).tm).T))], [(.int .i64 (((nth rows m).tm).R))], [(.string ((nth rows m).name))], [(slV ((nth rows m).hh) ((nth rows m).heads))]]) Try.isAgg44 Try.sizeOf44 rfl rfl ((Sl.elem (H78.sl 1 rfl) (i := m) (by omega) rfl).chunks 0 8 0 (hrows.o + m * 8) _ rfl rfl rfl) ?_)
    refine O_v rfl (C_alloc H78 [[(.int .i64 0)], [(.int .i64 0)], [(.int .i64 0)], [(.int .i64 0)], [(.int .i64 0)], [(.int .i64 0)], [(.string ByteArray.empty)], [(.slice none 0 0)]] Try.zeroValue44 ?_)
    intro b80 w81 hb82 hx83 H84
    refine O_u (C_storeA H84 0 rfl 0 (sub := [[(.int .i64 (((nth rows m).node).T))], [(.int .i64 (((nth rows m).node).R))], [(.int .i64 (((nth rows m).par).T))], [(.int .i64 (((nth rows m).par).R))], [(.int .i64 (((nth rows m).tm).T))], [(.int .i64 (((nth rows m).tm).R))], [(.string ((nth rows m).name))], [(slV ((nth rows m).hh) ((nth rows m).heads))]]) [[(.int .i64 (((nth rows m).node).T))], [(.int .i64 (((nth rows m).node).R))], [(.int .i64 (((nth rows m).par).T))], [(.int .i64 (((nth rows m).par).R))], [(.int .i64 (((nth rows m).tm).T))], [(.int .i64 (((nth rows m).tm).R))], [(.string ((nth rows m).name))], [(slV ((nth rows m).hh) ((nth rows m).heads))]] Try.sizeOf44 rfl rfl rfl rfl ⟨[[(.int .i64 0)], [(.int .i64 0)], [(.int .i64 0)], [(.int .i64 0)], [(.int .i64 0)], [(.int .i64 0)], [(.string ByteArray.empty)], [(.slice none 0 0)]], [], rfl, rfl, rfl⟩ rfl ?_)
    intro w85 hg86 H87
    refine O_nil (Then_n (W_seq (W_reg ?_)))
    refine O_v rfl (R_assign (v := (.slice none 0 0)) rfl ?_)
    refine O_nil (Then_n (W_seq (W_seq (W_reg ?_))))
    refine O_v rfl (R_fieldAddr (off := 0) (oo := 0) Try.underlying44 rfl rfl Try.sizeOf24 rfl rfl ?_)
    refine O_v rfl (R_loadA (cs := [[(.int .i64 (((nth rows m).node).T))], [(.int .i64 (((nth rows m).node).R))]]) Try.isAgg24 Try.sizeOf24 rfl rfl ((boxR_at (H87.getOwn 0 rfl)).chunks 0 2 0 0 _ rfl rfl rfl) ?_)
    refine O_v rfl (C_alloc H87 [[(.int .i64 0)], [(.int .i64 0)]] Try.zeroValue24 ?_)
    intro b88 w89 hb90 hx91 H92
    refine O_u (C_storeA H92 0 rfl 0 (sub := [[(.int .i64 (((nth rows m).node).T))], [(.int .i64 (((nth rows m).node).R))]]) [[(.int .i64 (((nth rows m).node).T))], [(.int .i64 (((nth rows m).node).R))]] Try.sizeOf24 rfl rfl rfl rfl ⟨[[(.int .i64 0)], [(.int .i64 0)]], [], rfl, rfl, rfl⟩ rfl ?_)
    intro w93 hg94 H95
    refine O_nil (Then_n (W_block ?_))
    have H96 := H95.addNil 24 2 stampCh
    refine W_loop (fun m99 e100 w101 => ∃ (at_ : Stamp), ∃ (way : List Stamp), ∃ (h97 : SlH), ∃ (bg98 : Nat), m99 = rows.length + 2 - way.length ∧ (onWay (parentsAll rows) (nth rows m).node way at_) ∧ (way.length ≤ rows.length + 1) ∧ ∃ eb102, e100 = envL [(0, (slV hrows rows)), (3, (.map (some r4))), (6, (.map (some r69))), (8, (.pointer (some ⟨b80, 0, none⟩))), (9, (slV h97 way)), (10, (.pointer (some ⟨bg98, 0, none⟩))), (52, (slV hrows rows)), (53, (.int .i64 ((rows.length : Nat) : Int))), (54, (.int .i64 ((m : Nat) : Int))), (55, (.bool (decide (((m : Nat) : Int) < ((rows.length : Nat) : Int))))), (56, (.pointer (some ⟨hrows.b, (hrows.o + m * 8), none⟩))), (57, (aggOf (rowCh (nth rows m)))), (58, (.pointer (some ⟨b80, 0, none⟩))), (59, (aggOf (stampCh ((nth rows m).node))))] eb102 ∧ Ctx w nob w101 [rowR 24 2 stampCh h97 way, boxR bg98 24 [[(.int .i64 at_.T)], [(.int .i64 at_.R)]], boxR b80 44 [[(.int .i64 (((nth rows m).node).T))], [(.int .i64 (((nth rows m).node).R))], [(.int .i64 (((nth rows m).par).T))], [(.int .i64 (((nth rows m).par).R))], [(.int .i64 (((nth rows m).tm).T))], [(.int .i64 (((nth rows m).tm).R))], [(.string ((nth rows m).name))], [(slV ((nth rows m).hh) ((nth rows m).heads))]], mapO r69 (fun x : Stamp => stampV x) boolV kvg, mapO r4 (fun x : Stamp => stampV x) stampV kvp] [deepI (Old w) headCh 34 (fun x : RowS => x.hh) (fun x : RowS => x.heads) rows, slI (Old w) rowCh 8 hrows rows]) _ ⟨((nth rows m).node), [], nilH, b88, rfl, (onWay_zero _ _), (by simp), _, envL_self ⟨rfl, rfl, rfl, rfl, rfl, rfl, rfl, rfl, rfl, rfl, rfl, rfl, rfl, rfl, trivial⟩, H96⟩ ?_
    rintro m99 _ w101 ⟨at_, way, h97, bg98, rfl, hw, hwl, eb102, rfl, H103⟩
    refine W_seq (W_seq ?_)
    refine W_rg [(0, .q false), (1, .q false), (2, .q false), (3, .q false), (4, .q false), (5, .q false), (6, .q false), (7, .q false), (8, .q false)] (by kernel_rfl) ?_
    refine Lx_q (i := 0) rfl rfl _ (fun v104 hv105 => R_loadA (cs := [[(.int .i64 at_.T)], [(.int .i64 at_.R)]]) Try.isAgg24 Try.sizeOf24 rfl rfl ((boxR_at ((H103.ext hv105).getOwn 1 rfl)).chunks 0 2 0 0 _ rfl rfl rfl) ⟨rfl, Gr.refl _ _⟩) ?_
    refine Lx_q (i := 1) rfl rfl (.bool (fixedSt at_)) (fun v106 hv107 => R_callL (vs := [(aggOf (stampCh at_))]) snap_Right_c48 rfl rfl (snap_fixed at_ v106 )) ?_
    refine Lx_q (i := 2) rfl rfl _ (fun v108 hv109 => R_not rfl ⟨rfl, Gr.refl _ _⟩) ?_
    refine Lx_q (i := 3) rfl rfl _ (fun v110 hv111 => R_move (v := (.bool (!(fixedSt at_)))) rfl ⟨rfl, Gr.refl _ _⟩) ?_
    refine Lx_qg (i := 4) true (!(fixedSt at_)) rfl rfl rfl rfl rfl (!(fixedSt at_)) ga_t _ (fun hA v112 hv113 => R_move (v := (.map (some r69))) rfl ⟨rfl, Gr.refl _ _⟩) ?_
    refine Lx_qg (i := 5) true (!(fixedSt at_)) rfl rfl rfl rfl rfl (!(fixedSt at_)) ga_t _ (fun hA v114 hv115 => R_loadA (cs := [[(.int .i64 at_.T)], [(.int .i64 at_.R)]]) Try.isAgg24 Try.sizeOf24 rfl rfl ((boxR_at ((H103.ext hv115).getOwn 1 rfl)).chunks 0 2 0 0 _ rfl rfl rfl) ⟨rfl, Gr.refl _ _⟩) ?_
    refine Lx_qg (i := 6) true (!(fixedSt at_)) rfl rfl rfl rfl rfl (!(fixedSt at_)) ga_t _ (fun hA v116 hv117 => R_lookup (kk := at_) (z := false) keyT_Stamp24 Try.underlying90 Try.zeroValue4 ((H103.ext hv117).getOwn 3 rfl) (gv_t hA) (gv_t hA) ⟨rfl, Gr.refl _ _⟩) ?_
    refine Lx_qg (i := 7) true (!(fixedSt at_)) rfl rfl rfl rfl rfl (!(fixedSt at_)) ga_t _ (fun hA v118 hv119 => R_not (gv_t hA) ⟨rfl, Gr.refl _ _⟩) ?_
    refine Lx_q (i := 8) rfl rfl _ (fun v120 hv121 => R_pick (t := (!(fixedSt at_))) (v := (.bool ((!(fixedSt at_)) && (!(((kvGet kvg at_).getD false)))))) rfl pk_and ⟨rfl, Gr.refl _ _⟩) ?_
    refine Lx_nil (fun w122 hw123 => ?_)
    have H124 := H103.ext hw123
    refine Then_n ?_
    refine W_cond (t := ((!(fixedSt at_)) && (!(((kvGet kvg at_).getD false))))) rfl (fun hc125 => ?_) (fun hc125 => ?_)
    ·have hc125 : ((fixedSt at_) = false ∧ (((kvGet kvg at_).getD false)) = false) := (And.imp (fun h => (notT h)) (fun h => (notT h)) (andT hc125))
     refine W_skip (Then_n (W_seq (W_block (W_seq (W_reg ?_)))))
     refine O_v rfl (R_move (v := (.map (some r4))) rfl ?_)
     refine O_v rfl (R_loadA (cs := [[(.int .i64 at_.T)], [(.int .i64 at_.R)]]) Try.isAgg24 Try.sizeOf24 rfl rfl ((boxR_at (H124.getOwn 1 rfl)).chunks 0 2 0 0 _ rfl rfl rfl) ?_)
     refine O_v rfl (R_lookupOk (kk := at_) (z := (⟨0, 0⟩ : Stamp)) keyT_Stamp24 Try.underlying88 Try.zeroValue24 (H124.getOwn 4 rfl) rfl rfl ?_)
     refine O_v rfl (R_move (v := (.tuple #[(aggOf (stampCh ((kvGet kvp at_).getD (⟨0, 0⟩ : Stamp)))), (.bool ((kvGet kvp at_).isSome))])) rfl ?_)
     refine O_v rfl (R_extract (v := (aggOf (stampCh ((kvGet kvp at_).getD (⟨0, 0⟩ : Stamp))))) rfl rfl ?_)
     refine O_v rfl (R_extract (v := (.bool ((kvGet kvp at_).isSome))) rfl rfl ?_)
     refine O_v rfl (C_alloc H124 [[(.int .i64 0)], [(.int .i64 0)]] Try.zeroValue24 ?_)
     intro b126 w127 hb128 hx129 H130
     refine O_u (C_storeA H130 0 rfl 0 (sub := [[(.int .i64 (((kvGet kvp at_).getD (⟨0, 0⟩ : Stamp)).T))], [(.int .i64 (((kvGet kvp at_).getD (⟨0, 0⟩ : Stamp)).R))]]) [[(.int .i64 (((kvGet kvp at_).getD (⟨0, 0⟩ : Stamp)).T))], [(.int .i64 (((kvGet kvp at_).getD (⟨0, 0⟩ : Stamp)).R))]] Try.sizeOf24 rfl rfl rfl rfl ⟨[[(.int .i64 0)], [(.int .i64 0)]], [], rfl, rfl, rfl⟩ rfl ?_)
     intro w131 hg132 H133
     refine O_v rfl (R_assign (v := (.bool ((kvGet kvp at_).isSome))) rfl ?_)
     refine O_nil (Then_n (W_seq (W_seq ?_)))
     refine W_rg [(0, .q false), (1, .q false), (2, .q false), (3, .q false), (4, .q false), (5, .q false), (6, .q false), (7, .q false), (8, .q false)] (by kernel_rfl) ?_
     refine Lx_q (i := 0) rfl rfl _ (fun v134 hv135 => R_move (v := (.bool ((kvGet kvp at_).isSome))) rfl ⟨rfl, Gr.refl _ _⟩) ?_
     refine Lx_q (i := 1) rfl rfl _ (fun v136 hv137 => R_not rfl ⟨rfl, Gr.refl _ _⟩) ?_
     refine Lx_q (i := 2) rfl rfl _ (fun v138 hv139 => R_move (v := (.bool (!((kvGet kvp at_).isSome)))) rfl ⟨rfl, Gr.refl _ _⟩) ?_
     refine Lx_qg (i := 3) true (!((kvGet kvp at_).isSome)) rfl rfl rfl rfl rfl (!(!((kvGet kvp at_).isSome))) ga_f _ (fun hA v140 hv141 => R_move (v := (slV h97 way)) rfl ⟨rfl, Gr.refl _ _⟩) ?_
     refine Lx_qg (i := 4) true (!((kvGet kvp at_).isSome)) rfl rfl rfl rfl rfl (!(!((kvGet kvp at_).isSome))) ga_f _ (fun hA v142 hv143 => R_len_slice (a := h97.a) (n := way.length) (c := h97.c) Try.underlying37 (gv_t hA) ⟨rfl, Gr.refl _ _⟩) ?_
     refine Lx_qg (i := 5) true (!((kvGet kvp at_).isSome)) rfl rfl rfl rfl rfl (!(!((kvGet kvp at_).isSome))) ga_f _ (fun hA v144 hv145 => R_move (v := (slV hrows rows)) rfl ⟨rfl, Gr.refl _ _⟩) ?_
     refine Lx_qg (i := 6) true (!((kvGet kvp at_).isSome)) rfl rfl rfl rfl rfl (!(!((kvGet kvp at_).isSome))) ga_f _ (fun hA v146 hv147 => R_len_slice (a := hrows.a) (n := rows.length) (c := hrows.c) Try.underlying22 (gv_t hA) ⟨rfl, Gr.refl _ _⟩) ?_
     refine Lx_qg (i := 7) true (!((kvGet kvp at_).isSome)) rfl rfl rfl rfl rfl (!(!((kvGet kvp at_).isSome))) ga_f _ (fun hA v148 hv149 => R_cmp (a := ((way.length : Nat) : Int)) (b := ((rows.length : Nat) : Int)) (r := (decide (((rows.length : Nat) : Int) < ((way.length : Nat) : Int)))) (gv_t hA) (gv_t hA) rfl ⟨rfl, Gr.refl _ _⟩) ?_
     refine Lx_q (i := 8) rfl rfl _ (fun v150 hv151 => R_pick (t := (!((kvGet kvp at_).isSome))) (v := (.bool ((!((kvGet kvp at_).isSome)) || (decide (((rows.length : Nat) : Int) < ((way.length : Nat) : Int)))))) rfl pk_or ⟨rfl, Gr.refl _ _⟩) ?_
     refine Lx_nil (fun w152 hw153 => ?_)
     have H154 := H133.ext hw153
     refine Then_n ?_
     refine W_cond (t := ((!((kvGet kvp at_).isSome)) || (decide (((rows.length : Nat) : Int) < ((way.length : Nat) : Int))))) rfl (fun hc155 => ?_) (fun hc155 => ?_)
     ·have hc155 : (((kvGet kvp at_).isSome) = false ∨ (((rows.length : Nat) : Int) < ((way.length : Nat) : Int))) := (Or.imp (fun h => (notT h)) (fun h => (of_decide_eq_true h)) (orT hc155))
      refine W_seq (W_reg ?_)
      refine O_v rfl (R_assign (v := (.bool false)) rfl ?_)
      refine O_nil (Then_n (W_ret (Then_r (Blk_r (Then_r (Then_r (Blk_r (Then_r (Blk_r (Then_r (Then_r (Blk_r (Then_r ?_)))))))))))))
      refine ret_1 (v := (.bool false)) Try.results34 rfl ?_
      exact ⟨(snapF (fun h => way_bad' hpa hw hwl (by have := parentsTo_len rows rows.length; exact this.2) (by assumption) (by assumption) (h.2.2 m (by omega)))), H154.gr⟩
     ·have hc155 : (((kvGet kvp at_).isSome) = true ∧ ¬ (((rows.length : Nat) : Int) < ((way.length : Nat) : Int))) := (And.imp (fun h => (notF h)) (fun h => (of_decide_eq_false h)) (orF hc155))
      refine W_skip (Then_n (W_seq (W_reg ?_)))
      refine O_v rfl (R_move (v := (slV h97 way)) rfl ?_)
      refine O_v rfl (R_loadA (cs := [[(.int .i64 at_.T)], [(.int .i64 at_.R)]]) Try.isAgg24 Try.sizeOf24 rfl rfl ((boxR_at (H154.getOwn 2 rfl)).chunks 0 2 0 0 _ rfl rfl rfl) ?_)
      refine O_v rfl (C_buildSliceL H154 (enc := stampCh) (val := stampV) ([at_] : List Stamp) Try.underlying37 Try.sizeOf24 Try.zeroValue24 rfl (by decide) (fun _ => rfl) (fun _ => rfl) rfl rfl (by decide) ?_)
      intro b156 w157 hb158 hx159 H160
      refine O_v rfl (C_append H160 2 rfl (bytes := 16) (l := way) (ys := ([at_] : List Stamp)) Try.underlying37 rfl rfl rfl rfl rfl (by decide) rfl rfl (OwnS.sl (H160.getOwn 0 rfl) (fun _ => rfl)) (fun _ => rfl) (fun _ => rfl) (by simp only [List.length_append, List.length_cons, List.length_nil]; omega) (by decide) ?_)
      intro h161 w162 hg163 H164
      refine O_v rfl (R_assign (v := (slV h161 (way ++ ([at_] : List Stamp)))) rfl ?_)
      refine O_nil (Then_n (W_reg ?_))
      refine O_v rfl (R_loadA (cs := [[(.int .i64 (((kvGet kvp at_).getD (⟨0, 0⟩ : Stamp)).T))], [(.int .i64 (((kvGet kvp at_).getD (⟨0, 0⟩ : Stamp)).R))]]) Try.isAgg24 Try.sizeOf24 rfl rfl ((boxR_at (H164.getOwn 1 rfl)).chunks 0 2 0 0 _ rfl rfl rfl) ?_)
      refine O_u (C_storeA H164 3 rfl 0 (sub := [[(.int .i64 (((kvGet kvp at_).getD (⟨0, 0⟩ : Stamp)).T))], [(.int .i64 (((kvGet kvp at_).getD (⟨0, 0⟩ : Stamp)).R))]]) [[(.int .i64 (((kvGet kvp at_).getD (⟨0, 0⟩ : Stamp)).T))], [(.int .i64 (((kvGet kvp at_).getD (⟨0, 0⟩ : Stamp)).R))]] Try.sizeOf24 rfl rfl rfl rfl ⟨[[(.int .i64 at_.T)], [(.int .i64 at_.R)]], [], rfl, rfl, rfl⟩ rfl ?_)
      intro w165 hg166 H167
      refine O_nil (Blk_n (Then_n (W_seq (W_reg ?_))))
      refine O_v rfl (R_loadA (cs := [[(.int .i64 (((kvGet kvp at_).getD (⟨0, 0⟩ : Stamp)).T))], [(.int .i64 (((kvGet kvp at_).getD (⟨0, 0⟩ : Stamp)).R))]]) Try.isAgg24 Try.sizeOf24 rfl rfl ((boxR_at (H167.getOwn 3 rfl)).chunks 0 2 0 0 _ rfl rfl rfl) ?_)
      refine O_nil (Then_n (W_reg ?_))
      refine O_v rfl (C_alloc H167 [[(.int .i64 0)], [(.int .i64 0)]] Try.zeroValue24 ?_)
      intro b168 w169 hb170 hx171 H172
      refine O_u (C_storeA H172 0 rfl 0 (sub := [[(.int .i64 (((kvGet kvp at_).getD (⟨0, 0⟩ : Stamp)).T))], [(.int .i64 (((kvGet kvp at_).getD (⟨0, 0⟩ : Stamp)).R))]]) [[(.int .i64 (((kvGet kvp at_).getD (⟨0, 0⟩ : Stamp)).T))], [(.int .i64 (((kvGet kvp at_).getD (⟨0, 0⟩ : Stamp)).R))]] Try.sizeOf24 rfl rfl rfl rfl ⟨[[(.int .i64 0)], [(.int .i64 0)]], [], rfl, rfl, rfl⟩ rfl ?_)
      intro w173 hg174 H175
      refine O_nil (Then_n ?_)
      have H176 := H175.pick (B' := [rowR 24 2 stampCh h161 (way ++ ([at_] : List Stamp)), boxR b168 24 [[(.int .i64 (((kvGet kvp at_).getD (⟨0, 0⟩ : Stamp)).T))], [(.int .i64 (((kvGet kvp at_).getD (⟨0, 0⟩ : Stamp)).R))]], boxR b80 44 [[(.int .i64 (((nth rows m).node).T))], [(.int .i64 (((nth rows m).node).R))], [(.int .i64 (((nth rows m).par).T))], [(.int .i64 (((nth rows m).par).R))], [(.int .i64 (((nth rows m).tm).T))], [(.int .i64 (((nth rows m).tm).R))], [(.string ((nth rows m).name))], [(slV ((nth rows m).hh) ((nth rows m).heads))]], mapO r69 (fun x : Stamp => stampV x) boolV kvg, mapO r4 (fun x : Stamp => stampV x) stampV kvp]) (I' := [deepI (Old w) headCh 34 (fun x : RowS => x.hh) (fun x : RowS => x.heads) rows, slI (Old w) rowCh 8 hrows rows]) [3, 0, 5, 6, 7] (by decide) rfl (List.forall_mem_cons.2 ⟨List.mem_of_getElem? (i := 0) rfl, List.forall_mem_cons.2 ⟨List.mem_of_getElem? (i := 1) rfl, fun _ h => (nomatch h)⟩⟩)
      refine ⟨_, ?_, ((kvGet kvp at_).getD ⟨0, 0⟩), (way ++ ([at_] : List Stamp)), h161, b168, rfl, (way_step' hpa hw (by assumption) (by assumption)), (by simp only [List.length_append, List.length_cons, List.length_nil]; omega), _, envL_self ⟨rfl, rfl, rfl, rfl, rfl, rfl, rfl, rfl, rfl, rfl, rfl, rfl, rfl, rfl, trivial⟩, H176⟩
      simp only [List.length_append, List.length_cons, List.length_nil]; omega
    ·have hc125 : ((fixedSt at_) = true ∨ (((kvGet kvg at_).getD false)) = true) := (Or.imp (fun h => (notF h)) (fun h => (notF h)) (andF hc125))
     refine W_exit (Then_x (Then_x (Blk_x (Then_n (W_seq (W_reg ?_))))))
     refine O_v rfl (R_move (v := (slV h97 way)) rfl ?_)
     refine O_v rfl (R_len_slice (a := h97.a) (n := way.length) (c := h97.c) Try.underlying37 rfl ?_)
     refine O_v rfl (R_move (v := (.int .i64 0)) rfl ?_)
     refine O_nil (Then_n (W_block ?_))
     refine W_loop (fun m177 e178 w179 => ∃ (j : Nat), ∃ (kvg2 : List (Stamp × Bool)), m177 = way.length - j ∧ (j ≤ way.length) ∧ (∀ s, (kvGet kvg2 s).getD false = true → reach (parentsAll rows) s) ∧ (∀ i, i < way.length → reach (parentsAll rows) (nth way i)) ∧ (reach (parentsAll rows) (nth rows m).node) ∧ ∃ eb180, e178 = envL [(0, (slV hrows rows)), (3, (.map (some r4))), (6, (.map (some r69))), (8, (.pointer (some ⟨b80, 0, none⟩))), (9, (slV h97 way)), (10, (.pointer (some ⟨bg98, 0, none⟩))), (52, (slV hrows rows)), (53, (.int .i64 ((rows.length : Nat) : Int))), (54, (.int .i64 ((m : Nat) : Int))), (55, (.bool (decide (((m : Nat) : Int) < ((rows.length : Nat) : Int))))), (56, (.pointer (some ⟨hrows.b, (hrows.o + m * 8), none⟩))), (57, (aggOf (rowCh (nth rows m)))), (58, (.pointer (some ⟨b80, 0, none⟩))), (59, (aggOf (stampCh ((nth rows m).node)))), (60, (aggOf (stampCh at_))), (61, (.bool (fixedSt at_))), (62, (.bool (!(fixedSt at_)))), (63, (.bool (!(fixedSt at_)))), (64, (gv (!(fixedSt at_)) (.map (some r69)))), (65, (gv (!(fixedSt at_)) (aggOf (stampCh at_)))), (66, (gv (!(fixedSt at_)) (.bool (((kvGet kvg at_).getD false))))), (67, (gv (!(fixedSt at_)) (.bool (!(((kvGet kvg at_).getD false)))))), (68, (.bool ((!(fixedSt at_)) && (!(((kvGet kvg at_).getD false)))))), (90, (slV h97 way)), (91, (.int .i64 ((way.length : Nat) : Int))), (92, (.int .i64 ((j : Nat) : Int)))] eb180 ∧ Ctx w nob w179 [rowR 24 2 stampCh h97 way, boxR bg98 24 [[(.int .i64 at_.T)], [(.int .i64 at_.R)]], boxR b80 44 [[(.int .i64 (((nth rows m).node).T))], [(.int .i64 (((nth rows m).node).R))], [(.int .i64 (((nth rows m).par).T))], [(.int .i64 (((nth rows m).par).R))], [(.int .i64 (((nth rows m).tm).T))], [(.int .i64 (((nth rows m).tm).R))], [(.string ((nth rows m).name))], [(slV ((nth rows m).hh) ((nth rows m).heads))]], mapO r69 (fun x : Stamp => stampV x) boolV kvg2, mapO r4 (fun x : Stamp => stampV x) stampV kvp] [deepI (Old w) headCh 34 (fun x : RowS => x.hh) (fun x : RowS => x.heads) rows, slI (Old w) rowCh 8 hrows rows]) _ ⟨0, kvg, rfl, (by omega), hg, (way_all hw (way_stop hg (by assumption))), ((onWay_reach hw 0 (Nat.zero_le _)).2 (way_stop hg (by assumption))), _, envL_self ⟨rfl, rfl, rfl, rfl, rfl, rfl, rfl, rfl, rfl, rfl, rfl, rfl, rfl, rfl, rfl, rfl, rfl, rfl, rfl, rfl, rfl, rfl, rfl, rfl, rfl, rfl, trivial⟩, H124⟩ ?_
     rintro m177 _ w179 ⟨j, kvg2, rfl, hj, hg2, hall, hrn, eb180, rfl, H181⟩
     refine W_seq (W_reg ?_)
     refine O_v rfl (R_cmp (a := ((j : Nat) : Int)) (b := ((way.length : Nat) : Int)) (r := (decide (((j : Nat) : Int) < ((way.length : Nat) : Int)))) rfl rfl rfl ?_)
     refine O_nil (Then_n (W_seq ?_))
     refine W_cond (t := (decide (((j : Nat) : Int) < ((way.length : Nat) : Int)))) rfl (fun hc182 => ?_) (fun hc182 => ?_)
     ·have hc182 : (((j : Nat) : Int) < ((way.length : Nat) : Int)) := (of_decide_eq_true hc182)
      refine W_skip (Then_n (W_seq (W_block (W_seq (W_reg ?_)))))
      refine O_v rfl (R_index_pure (OwnS.sl (H181.getOwn 0 rfl) (fun _ => rfl)) (n := way.length) rfl (j := ((j : Nat) : Int)) (oo := (h97.o + j * 2)) Try.underlying37 Try.sizeOf24 rfl rfl (by omega) (by omega) rfl ?_)
      refine O_v rfl (R_loadA (cs := [[(.int .i64 ((nth way j).T))], [(.int .i64 ((nth way j).R))]]) Try.isAgg24 Try.sizeOf24 rfl rfl ((Sl.elem (OwnS.sl (H181.getOwn 0 rfl) (fun _ => rfl)) (i := j) (by omega) rfl).chunks 0 2 0 (h97.o + j * 2) _ rfl rfl rfl) ?_)
      refine O_v rfl (C_alloc H181 [[(.int .i64 0)], [(.int .i64 0)]] Try.zeroValue24 ?_)
      intro b183 w184 hb185 hx186 H187
      refine O_u (C_storeA H187 0 rfl 0 (sub := [[(.int .i64 ((nth way j).T))], [(.int .i64 ((nth way j).R))]]) [[(.int .i64 ((nth way j).T))], [(.int .i64 ((nth way j).R))]] Try.sizeOf24 rfl rfl rfl rfl ⟨[[(.int .i64 0)], [(.int .i64 0)]], [], rfl, rfl, rfl⟩ rfl ?_)
      intro w188 hg189 H190
      refine O_nil (Then_n (W_reg ?_))
      refine O_v rfl (R_move (v := (.map (some r69))) rfl ?_)
      refine O_v rfl (R_loadA (cs := [[(.int .i64 ((nth way j).T))], [(.int .i64 ((nth way j).R))]]) Try.isAgg24 Try.sizeOf24 rfl rfl ((boxR_at (H190.getOwn 0 rfl)).chunks 0 2 0 0 _ rfl rfl rfl) ?_)
      refine O_u (C_mapUpdate H190 4 rfl (kk := (nth way j)) (v := true) keyT_Stamp24 Try.underlying90 rfl rfl rfl ?_)
      intro w191 hg192 H193
      refine O_nil (Blk_n (Then_n (W_reg ?_)))
      refine O_v rfl (R_arith (a := ((j : Nat) : Int)) (b := 1) (r0 := ((j : Nat) : Int) + 1) (r := ((j + 1 : Nat) : Int)) rfl rfl rfl (wrapN _ (by omega)) ?_)
      refine O_v rfl (R_move (v := (.int .i64 ((j + 1 : Nat) : Int))) rfl ?_)
      refine O_nil (Then_n ?_)
      have H194 := H193.sub (B' := [rowR 24 2 stampCh h97 way, boxR bg98 24 [[(.int .i64 at_.T)], [(.int .i64 at_.R)]], boxR b80 44 [[(.int .i64 (((nth rows m).node).T))], [(.int .i64 (((nth rows m).node).R))], [(.int .i64 (((nth rows m).par).T))], [(.int .i64 (((nth rows m).par).R))], [(.int .i64 (((nth rows m).tm).T))], [(.int .i64 (((nth rows m).tm).R))], [(.string ((nth rows m).name))], [(slV ((nth rows m).hh) ((nth rows m).heads))]], mapO r69 (fun x : Stamp => stampV x) boolV (kvPut (nth way j) true kvg2), mapO r4 (fun x : Stamp => stampV x) stampV kvp]) (I' := [deepI (Old w) headCh 34 (fun x : RowS => x.hh) (fun x : RowS => x.heads) rows, slI (Old w) rowCh 8 hrows rows]) (List.Sublist.cons _ (List.Sublist.cons_cons _ (List.Sublist.cons_cons _ (List.Sublist.cons_cons _ (List.Sublist.cons_cons _ (List.Sublist.cons_cons _ List.Sublist.slnil)))))) (List.forall_mem_cons.2 ⟨List.mem_of_getElem? (i := 0) rfl, List.forall_mem_cons.2 ⟨List.mem_of_getElem? (i := 1) rfl, fun _ h => (nomatch h)⟩⟩)
      refine ⟨_, ?_, (j + 1), (kvPut (nth way j) true kvg2), rfl, (by omega), (mark_good hg2 (hall j (by omega))), hall, hrn, _, envL_self ⟨rfl, rfl, rfl, rfl, rfl, rfl, rfl, rfl, rfl, rfl, rfl, rfl, rfl, rfl, rfl, rfl, rfl, rfl, rfl, rfl, rfl, rfl, rfl, rfl, rfl, rfl, trivial⟩, H194⟩
      omega
     ·have hc182 : ¬ (((j : Nat) : Int) < ((way.length : Nat) : Int)) := (of_decide_eq_false hc182)
      refine W_exit (Then_x (Then_x (Blk_x (Blk_n (Then_n (W_reg ?_))))))
      refine O_v rfl (R_arith (a := ((m : Nat) : Int)) (b := 1) (r0 := ((m : Nat) : Int) + 1) (r := ((m + 1 : Nat) : Int)) rfl rfl rfl (wrapN _ (by omega)) ?_)
      refine O_v rfl (R_move (v := (.int .i64 ((m + 1 : Nat) : Int))) rfl ?_)
      refine O_nil (Then_n ?_)
      have H195 := H181.sub (B' := [mapO r69 (fun x : Stamp => stampV x) boolV kvg2, mapO r4 (fun x : Stamp => stampV x) stampV kvp]) (I' := [deepI (Old w) headCh 34 (fun x : RowS => x.hh) (fun x : RowS => x.heads) rows, slI (Old w) rowCh 8 hrows rows]) (List.Sublist.cons _ (List.Sublist.cons _ (List.Sublist.cons _ (List.Sublist.cons_cons _ (List.Sublist.cons_cons _ List.Sublist.slnil))))) (List.forall_mem_cons.2 ⟨List.mem_of_getElem? (i := 0) rfl, List.forall_mem_cons.2 ⟨List.mem_of_getElem? (i := 1) rfl, fun _ h => (nomatch h)⟩⟩)
      refine ⟨_, ?_, (m + 1), kvg2, rfl, (by omega), hg2, (all_succ hr hrn), hpa, hn2, h5, _, envL_self ⟨rfl, rfl, rfl, rfl, rfl, rfl, trivial⟩, H195⟩
      omega
   ·have hc79 : ¬ (((m : Nat) : Int) < ((rows.length : Nat) : Int)) := (of_decide_eq_false hc79)
    refine W_exit (Then_x (Then_x (Blk_x (Then_n (W_seq (W_reg ?_))))))
    refine O_v rfl (R_assign (v := (.bool true)) rfl ?_)
    refine O_nil (Then_n (W_ret ?_))
    refine ret_1 (v := (.bool true)) Try.results34 rfl ?_
    exact ⟨(snapT h5 hn2 (by rwa [show rows.length = m from by omega])), H78.gr⟩

end Go.Proofs.Ytiknfldhommmpaa
/- The plain law of DifferRows: the program's look-ups and the document's answer, of rows that are a tree. -/
namespace Go.Proofs.Ytiknfldhommmpaa
open Go
set_option linter.unusedVariables false
set_option linter.unusedSimpArgs false
set_option linter.unusedSectionVars false
def stLt (a b : Stamp) : Prop := a.T < b.T ∨ a.T = b.T ∧ a.R < b.R
theorem cmpSt_neg {a b : Stamp} : cmpSt a b < 0 ↔ stLt a b := by
  unfold cmpSt stLt
  split
  · rename_i h; simp [h]
  · rename_i h
    split
    · simp [h]
    · simp [h]
theorem cmpSt_m1 {a b : Stamp} : cmpSt a b = -1 ↔ stLt a b := by
  rw [← cmpSt_neg]
  unfold cmpSt
  split
  · simp
  · split <;> simp
theorem stLt_trans {a b c : Stamp} (h : stLt a b) (k : stLt b c) : stLt a c := by unfold stLt at *; omega
theorem stLt_ne {a b : Stamp} (h : stLt a b) : a ≠ b := by rintro rfl; unfold stLt at h; omega
/-- Step by step, so each ahead of each. -/
theorem rise_pairwise {α : Type} [Inhabited α] {l : List α} {f : α → Stamp} (h : ∀ i, i < l.length → i = 0 ∨ stLt (f (nth l (i - 1))) (f (nth l i))) : l.Pairwise fun x y => stLt (f x) (f y) := by
  have key : ∀ d i, i + d + 1 < l.length → stLt (f (nth l i)) (f (nth l (i + d + 1))) := by
    intro d
    induction d with
    | zero =>
      intro i hi
      rcases h (i + 0 + 1) hi with h0 | h0
      · omega
      · exact h0
    | succ d ih =>
      intro i hi
      refine stLt_trans (ih i (by omega)) ?_
      rcases h (i + (d + 1) + 1) hi with h0 | h0
      · omega
      · exact h0
  rw [List.pairwise_iff_getElem]
  intro i j hi hj hij
  have := key (j - i - 1) i (by omega)
  rw [show i + (j - i - 1) + 1 = j from by omega, nth_eq hi, nth_eq hj] at this
  exact this
theorem pw_ne {rows : List RowS} (h : rows.Pairwise fun x y => stLt x.node y.node) : rows.Pairwise fun x y => x.node ≠ y.node := h.imp fun h => stLt_ne h
theorem table_find {rows : List RowS} (h : rows.Pairwise fun x y => x.node ≠ y.node) (s : Stamp) : kvGet (tableOf rows) s = rows.find? fun x => decide (x.node = s) := by
  have key : ∀ (l : List RowS) (kv : List (Stamp × RowS)), l.Pairwise (fun x y => x.node ≠ y.node) → kvGet (l.foldl (fun kv r => kvPut r.node r kv) kv) s = (l.find? fun x => decide (x.node = s)).or (kvGet kv s) := by
    intro l
    induction l with
    | nil => intro kv _; simp
    | cons r l ih =>
      intro kv hp
      have hp := List.pairwise_cons.1 hp
      rw [List.foldl_cons, ih _ hp.2, kvGet_put, List.find?_cons]
      by_cases hr : r.node = s
      · have : (l.find? fun x => decide (x.node = s)) = none := by
          rw [List.find?_eq_none]
          intro x hx
          have := hp.1 x hx
          simp only [decide_eq_true_eq]
          intro e; exact this (by rw [hr, e])
        rw [this, if_pos hr.symm]
        simp [hr]
      · rw [if_neg (Ne.symm hr)]
        simp [hr]
  have := key rows [] h
  rw [kvGet_nil, Option.or_none] at this
  exact this
theorem findRow_find (rows : List RowS) (s : Stamp) : (findRow rows s < 0 ∧ (rows.find? fun x => decide (x.node = s)) = none) ∨
    ∃ r, 0 ≤ findRow rows s ∧ (findRow rows s).toNat < rows.length ∧ nth rows (findRow rows s).toNat = r ∧ (rows.find? fun x => decide (x.node = s)) = some r ∧ r ∈ rows ∧ r.node = s := by
  unfold findRow
  cases hf : rows.findIdx? fun x => decide (x.node = s) with
  | none =>
    left
    refine ⟨by simp, ?_⟩
    rw [List.findIdx?_eq_none_iff] at hf
    rw [List.find?_eq_none]
    intro x hx
    have := hf x hx
    simpa using this
  | some i =>
    right
    obtain ⟨hi, h1, h2⟩ := List.findIdx?_eq_some_iff_getElem.1 hf
    refine ⟨rows[i], by simp, by simpa using hi, ?_, ?_, List.getElem_mem hi, by simpa using h1⟩
    · simp only [Int.toNat_natCast]; rw [nth_eq hi]
    · rw [List.find?_eq_some_iff_getElem]
      refine ⟨h1, i, hi, rfl, fun j hj => ?_⟩
      have := h2 j hj
      simpa using this
/-- A look-up, both ways. -/
theorem look {rows : List RowS} (h : rows.Pairwise fun x y => x.node ≠ y.node) (s : Stamp) : (findRow rows s < 0 ∧ kvGet (tableOf rows) s = none) ∨
    ∃ r, 0 ≤ findRow rows s ∧ (findRow rows s).toNat < rows.length ∧ nth rows (findRow rows s).toNat = r ∧ kvGet (tableOf rows) s = some r ∧ r ∈ rows ∧ r.node = s := by
  rw [table_find h]; exact findRow_find rows s
theorem kvPut_new {α β : Type} [DecidableEq α] {kv : List (α × β)} {k : α} (v : β) (h : kvGet kv k = none) : (kvPut k v kv).length = kv.length + 1 := by
  induction kv with
  | nil => rfl
  | cons p r ih =>
    rw [kvGet_cons] at h
    unfold kvPut
    by_cases hk : k = p.1
    · rw [if_pos hk] at h; cases h
    · rw [if_neg hk] at h ⊢
      simp only [List.length_cons, ih h]
theorem table_len {rows : List RowS} (h : rows.Pairwise fun x y => x.node ≠ y.node) : (tableOf rows).length = rows.length := by
  have key : ∀ (l : List RowS) (kv : List (Stamp × RowS)), l.Pairwise (fun x y => x.node ≠ y.node) → (∀ x ∈ l, kvGet kv x.node = none) → (l.foldl (fun kv r => kvPut r.node r kv) kv).length = kv.length + l.length := by
    intro l
    induction l with
    | nil => intro kv _ _; simp
    | cons r l ih =>
      intro kv hp hn
      have hp := List.pairwise_cons.1 hp
      rw [List.foldl_cons, ih _ hp.2, kvPut_new _ (hn r (by simp)), List.length_cons]
      · omega
      · intro x hx
        rw [kvGet_put, if_neg (fun e => hp.1 x hx e.symm)]
        exact hn x (List.mem_cons_of_mem _ hx)
  have := key rows [] h (fun _ _ => kvGet_nil _)
  simpa [tableOf] using this

section
variable {rows : List RowS} (hp : rows.Pairwise fun x y => x.node ≠ y.node) (hT : ∀ x ∈ rows, ¬ x.node.T = 0)
include hp hT
theorem lies_place {over : Stamp} (ho : over.T = 0) : ∀ (n : Nat) (s : Stamp), liesGo rows over n s = true → placeGo (tableOf rows) (n + 1) s = (over, true)
  | 0, s, h => by cases h
  | n + 1, s, h => by
    unfold liesGo at h
    split at h
    · cases h
    · rename_i h1
      rcases look hp s with ⟨h2, _⟩ | ⟨r, h2, h3, h4, h5, h6, h7⟩
      · omega
      · rw [h4] at h
        have hsT : ¬ s.T = 0 := h7 ▸ hT r h6
        unfold placeGo
        rw [if_neg hsT, h5]
        by_cases hpar : r.par = over
        · show placeGo (tableOf rows) (n + 1) r.par = _
          unfold placeGo
          rw [hpar, if_pos ho]
        · rw [if_neg hpar] at h
          exact lies_place ho n r.par h
theorem place_lies {over : Stamp} : ∀ (n : Nat) (s : Stamp), placeGo (tableOf rows) (n + 1) s = (over, true) → ¬ s.T = 0 → liesGo rows over n s = true
  | 0, s, h, h0 => by
    unfold placeGo at h
    rw [if_neg h0] at h
    cases hk : kvGet (tableOf rows) s with
    | none => rw [hk] at h; simp at h
    | some r => rw [hk] at h; simp [placeGo] at h
  | n + 1, s, h, h0 => by
    unfold placeGo at h
    rw [if_neg h0] at h
    rcases look hp s with ⟨h2, hk⟩ | ⟨r, h2, h3, h4, h5, h6, h7⟩
    · rw [hk] at h; simp at h
    · rw [h5] at h
      have h : placeGo (tableOf rows) (n + 1) r.par = (over, true) := h
      unfold liesGo
      rw [if_neg (by omega), h4]
      by_cases hpar : r.par = over
      · rw [if_pos hpar]
      · rw [if_neg hpar]
        refine place_lies n r.par h fun e => hpar ?_
        unfold placeGo at h
        rw [if_pos e] at h
        exact (Prod.ext_iff.1 h).1
theorem dead_lies {r : RowS} (hr : r ∈ rows) : deadOf rows r = liesOf rows r.node ⟨0, 1⟩ := by
  unfold deadOf placeOf liesOf
  rw [table_len hp]
  cases hl : liesGo rows ⟨0, 1⟩ rows.length r.node with
  | true => rw [lies_place hp hT rfl _ _ hl]; simp
  | false =>
    cases hd : (placeGo (tableOf rows) (rows.length + 1) r.node).2 with
    | false => simp
    | true =>
      rw [Bool.true_and, decide_eq_false_iff_not]
      intro e
      have := place_lies hp hT (over := ⟨0, 1⟩) rows.length r.node (Prod.ext e hd) (hT r hr)
      rw [hl] at this; cases this
theorem alive_law : aliveOf rows = aliveRef rows := by
  unfold aliveOf aliveRef
  refine List.filter_congr fun r hr => ?_
  rw [dead_lies hp hT hr]
end
theorem ba_append_toList (a b : ByteArray) : (a ++ b).data.toList = a.data.toList ++ b.data.toList := by
  rw [ByteArray.data_append, Array.toList_append]
theorem ba_ext {a b : ByteArray} (h : a.data.toList = b.data.toList) : a = b := by
  cases a; cases b
  simp only [ByteArray.mk.injEq]
  exact Array.ext' h
theorem joinB_toList (xs : List ByteArray) (sep : ByteArray) : (joinB xs sep).data.toList = joinTo xs sep xs.length := by unfold joinB; simp
theorem joinB_snoc {xs : List ByteArray} {sep x : ByteArray} (h : xs ≠ []) : joinB (xs ++ [x]) sep = joinB xs sep ++ (sep ++ x) := by
  have h1 : 1 ≤ xs.length := by cases xs with
    | nil => exact absurd rfl h
    | cons _ _ => simp
  apply ba_ext
  rw [ba_append_toList, ba_append_toList, joinB_toList, joinB_toList, List.length_append, List.length_singleton, joinTo_succ h1 (by simp), List.append_assoc]
  congr 1
  · unfold joinTo; rw [List.take_left', List.take_length]; rfl
  · congr 2
    unfold nth; simp [List.getD_eq_getElem?_getD]
theorem joinB_single (x sep : ByteArray) : joinB [x] sep = x := joinB_one rfl
section
variable {rows : List RowS} (hp : rows.Pairwise fun x y => x.node ≠ y.node) (hT : ∀ x ∈ rows, ¬ x.node.T = 0)
include hp hT
theorem names_ne {n : Nat} {s : Stamp} {over : Stamp} (h : liesGo rows over n s = true) : namesGo (tableOf rows) (n + 1) s ≠ [] := by
  have hsT : ¬ s.T = 0 := by
    have := lies_at h
    rcases look hp s with ⟨h2, hk⟩ | ⟨r, h2, h3, h4, h5, h6, h7⟩
    · omega
    · exact h7 ▸ hT r h6
  unfold namesGo
  rw [if_neg hsT]
  exact List.cons_ne_nil _ _
theorem path_names : ∀ (n : Nat) (s : Stamp) (out : ByteArray), liesGo rows ⟨0, 0⟩ n s = true → pathGo rows n s out = joinB (namesGo (tableOf rows) (n + 1) s).reverse slash ++ out
  | 0, s, out, h => by cases h
  | n + 1, s, out, h => by
    have hat := lies_at h
    rcases look hp s with ⟨h2, hk⟩ | ⟨r, h2, h3, h4, h5, h6, h7⟩
    · omega
    · have hsT : ¬ s.T = 0 := h7 ▸ hT r h6
      have hnm : namesGo (tableOf rows) (n + 1 + 1) s = r.name :: namesGo (tableOf rows) (n + 1) r.par := by
        conv => lhs; unfold namesGo
        rw [if_neg hsT, h5]; rfl
      rw [hnm, List.reverse_cons]
      by_cases hpar : r.par = ⟨0, 0⟩
      · rw [pathGo_end h (by rw [h4]; exact hpar), h4, hpar]
        have : namesGo (tableOf rows) (n + 1) ⟨0, 0⟩ = [] := by unfold namesGo; rw [if_pos rfl]
        rw [this, List.reverse_nil, List.nil_append, joinB_single]
      · have hst := lies_step h (by rw [h4]; exact hpar)
        rw [h4] at hst
        rw [pathGo_step h (by rw [h4]; exact hpar), h4, Nat.add_sub_cancel]
        rw [Nat.add_sub_cancel] at hst
        rw [path_names n r.par _ hst, joinB_snoc (by simpa using names_ne hp hT hst)]
        apply ba_ext
        simp only [ba_append_toList, List.append_assoc]; rfl
theorem path_law (node : Stamp) : pathOf rows node = pathRef rows node := by
  unfold pathOf pathRef
  by_cases h0 : node.T = 0
  · have hl : liesOf rows node ⟨0, 0⟩ = false := by
      cases hl : liesOf rows node ⟨0, 0⟩ with
      | false => rfl
      | true =>
        have hat := lies_at hl
        rcases look hp node with ⟨h2, hk⟩ | ⟨r, h2, h3, h4, h5, h6, h7⟩
        · omega
        · exact absurd h0 (h7 ▸ hT r h6)
    rw [hl, if_neg (show ¬ (false = true) by simp)]
    have hn : namesGo (tableOf rows) ((tableOf rows).length + 1) node = [] := by unfold namesGo; rw [if_pos h0]
    rw [hn]
    split
    · rfl
    · rfl
  · unfold placeOf liesOf
    rw [table_len hp]
    cases hl : liesGo rows ⟨0, 0⟩ rows.length node with
    | true =>
      rw [if_pos (lies_place hp hT rfl _ _ hl), if_pos rfl, path_names hp hT _ _ _ hl]
      apply ba_ext
      simp [ba_append_toList]
    | false =>
      rw [if_neg (show ¬ (false = true) by simp), if_neg]
      intro e
      have := place_lies hp hT _ _ e h0
      rw [hl] at this; cases this
end
theorem itemOk_node {node tm : Stamp} {name : ByteArray} {hs : List Head} (h : itemOk node tm name hs = true) : 1 ≤ node.T := by
  unfold itemOk at h
  simp only [decide_eq_true_eq, stRight] at h
  omega
theorem tree_pw {rows : List RowS} (h : treeOk rows = true) : rows.Pairwise fun x y => x.node ≠ y.node := by
  have h := of_decide_eq_true h
  refine pw_ne (rise_pairwise (f := RowS.node) fun i hi => ?_)
  rcases (h.2 i hi).2.2.1 with h1 | h1
  · exact .inl h1
  · exact .inr (cmpSt_m1.1 h1)
theorem tree_T {rows : List RowS} (h : treeOk rows = true) : ∀ x ∈ rows, ¬ x.node.T = 0 := by
  have h := of_decide_eq_true h
  intro x hx
  obtain ⟨i, hi, rfl⟩ := List.getElem_of_mem hx
  have := itemOk_node (h.2 i hi).1
  rw [nth_eq hi] at this
  omega
theorem rows_law {a b : List RowS} (ha : treeOk a = true) (hb : treeOk b = true) (node : Stamp) : aliveOf a = aliveRef a ∧ alikeOf a b = alikeRef a b ∧ pathOf a node = pathRef a node := by
  refine ⟨alive_law (tree_pw ha) (tree_T ha), ?_, path_law (tree_pw ha) (tree_T ha) node⟩
  unfold alikeOf alikeRef
  rw [alive_law (tree_pw ha) (tree_T ha), alive_law (tree_pw hb) (tree_T hb)]
end Go.Proofs.Ytiknfldhommmpaa
/- The plain side of Diff. -/
namespace Go.Proofs.Ytiknfldhommmpaa
open Go
set_option linter.unusedVariables false
set_option linter.unusedSimpArgs false
set_option linter.unusedSectionVars false
theorem parents_table (rows : List RowS) (s : Stamp) : kvGet (parentsAll rows) s = (kvGet (tableOf rows) s).map (·.par) := by
  have key : ∀ (l : List RowS) (kv : List (Stamp × Stamp)) (kt : List (Stamp × RowS)), (∀ s, kvGet kv s = (kvGet kt s).map (·.par)) →
      ∀ s, kvGet (l.foldl (fun kv r => kvPut r.node r.par kv) kv) s = (kvGet (l.foldl (fun kv r => kvPut r.node r kv) kt) s).map (·.par) := by
    intro l
    induction l with
    | nil => intro kv kt h; exact h
    | cons r l ih =>
      intro kv kt h
      refine ih _ _ fun s => ?_
      rw [kvGet_put, kvGet_put]
      split
      · rfl
      · exact h s
  have := key rows [] [] (fun _ => rfl) s
  unfold parentsAll parentsTo tableOf
  rw [List.take_length]
  exact this
theorem up_dep {rows : List RowS} (hT : ∀ x ∈ rows, ¬ x.node.T = 0) : ∀ {n : Nat} {s : Stamp}, upOk (parentsAll rows) n s → depN (tableOf rows) n s
  | 0, s, h => by
    have h : fixedSt s = true := h
    exact (of_decide_eq_true h).1
  | n + 1, s, h => by
    obtain ⟨h1, h2, h3⟩ := h
    rw [parents_table] at h2 h3
    cases hk : kvGet (tableOf rows) s with
    | none => rw [hk] at h2; simp at h2
    | some r =>
      rw [hk] at h3
      obtain ⟨hr, hn⟩ := kvGet_table hk
      refine ⟨hn ▸ hT r hr, ?_⟩
      rw [hk]
      exact up_dep hT h3
theorem up_way {kv : List (Stamp × Stamp)} : ∀ {n : Nat} {s : Stamp}, upOk kv n s → ∀ i, i ≤ n → ∃ way, way.length = i ∧ onWay kv s way (upN kv i s) ∧ upOk kv (n - i) (upN kv i s) := by
  intro n s h i
  induction i with
  | zero => intro _; exact ⟨[], rfl, onWay_zero _ _, h⟩
  | succ i ih =>
    intro hi
    obtain ⟨way, h1, h2, h3⟩ := ih (by omega)
    rw [show n - i = (n - (i + 1)) + 1 from by omega] at h3
    obtain ⟨h4, h5, h6⟩ := h3
    refine ⟨way ++ [upN kv i s], by simp [h1], ?_, ?_⟩
    · rw [upN_succ]; exact onWay_succ h2 h4 h5
    · rw [upN_succ]; exact h6
theorem up_bound {kv : List (Stamp × Stamp)} {n : Nat} {s : Stamp} (h : upOk kv n s) : n ≤ kv.length := by
  obtain ⟨way, h1, h2, _⟩ := up_way h n (Nat.le_refl _)
  rcases Nat.lt_or_ge kv.length n with hlt | hge
  · exact absurd ⟨n, h⟩ (way_long h2 (by omega))
  · exact hge
theorem rightRow_T {r : RowS} (h : rightRow r = true) : 1 ≤ r.node.T := by
  unfold rightRow at h
  rw [Bool.and_eq_true] at h
  exact itemOk_node h.1
theorem snap_T {rows : List RowS} (h : snapOk rows = true) : ∀ x ∈ rows, ¬ x.node.T = 0 := by
  have h := snapOk_iff.1 h
  intro x hx
  obtain ⟨i, hi, rfl⟩ := List.getElem_of_mem hx
  have := rightRow_T (h.2.1 i hi).1
  rw [nth_eq hi] at this
  omega
theorem snap_pw {rows : List RowS} (h : snapOk rows = true) : rows.Pairwise fun x y => x.node ≠ y.node := by
  have h := snapOk_iff.1 h
  refine pw_ne (rise_pairwise (f := RowS.node) fun i hi => ?_)
  rcases (h.2.1 i hi).2 with h1 | h1
  · exact .inl h1
  · exact .inr (cmpSt_neg.1 h1)
theorem snap_dep {b : List RowS} (h : snapOk b = true) : ∀ x ∈ b, depN (tableOf b) (depOf (tableOf b) x.node) x.node ∧ depOf (tableOf b) x.node ≤ 9223372036854775806 := by
  intro x hx
  obtain ⟨h1, h2, h3⟩ := snapOk_iff.1 h
  obtain ⟨i, hi, rfl⟩ := List.getElem_of_mem hx
  have hr := h3 i hi
  rw [nth_eq hi] at hr
  obtain ⟨n, hn⟩ := hr
  have hd := up_dep (snap_T h) hn
  rw [depOf_eq hd]
  refine ⟨hd, ?_⟩
  have h4 := up_bound hn
  have h5 := (parentsTo_len b b.length).2
  unfold parentsAll at h4
  omega
theorem snap_len {a b : List RowS} (h : snapOk a = true ∧ snapOk b = true) : a.length ≤ 5000 ∧ b.length ≤ 5000 := ⟨(snapOk_iff.1 h.1).1, (snapOk_iff.1 h.2).1⟩
theorem st_T {s : Stamp} (h : stRight s = true) : 0 ≤ s.T ∧ s.T ≤ 2199023255552 := by
  have := of_decide_eq_true h; omega
/-- What the maker holds at the end. -/
def diffSt (a b : List RowS) (tm : Stamp) (L : List RowS) : MakerC := (editsOf a b).foldl putC ((L.map mvOp ++ (a.filter (gone b)).map trOp).foldl putC ⟨tm, [], false⟩)
/-- What Diff answers: L: the rows that move, in some order. -/
def DiffRel (a b : List RowS) (tm : Stamp) (ops : List OpC) (e : Int) : Prop :=
  (¬ (snapOk a = true ∧ snapOk b = true) → ops = [] ∧ e = 130) ∧
  (snapOk a = true ∧ snapOk b = true → stRight tm = false → ops = [] ∧ e = 1) ∧
  (snapOk a = true ∧ snapOk b = true → stRight tm = true → ∃ L : List RowS, L.Perm (b.filter (needs a)) ∧
    ((diffSt a b tm L).bad = true → ops = [] ∧ e = 1) ∧
    ((diffSt a b tm L).bad = false → editsOne a b = false ∨ 64 < (diffSt a b tm L).ops.length → ops = [] ∧ e = 3) ∧
    ((diffSt a b tm L).bad = false → editsOne a b = true ∧ (diffSt a b tm L).ops.length ≤ 64 → ops = (diffSt a b tm L).ops ∧ e = 0))
theorem diff_tree {a b : List RowS} {tm : Stamp} (h : snapOk a = false ∨ snapOk b = false) : DiffRel a b tm [] 130 := by
  have hn : ¬ (snapOk a = true ∧ snapOk b = true) := by rintro ⟨h1, h2⟩; rcases h with h | h <;> simp_all
  exact ⟨fun _ => ⟨rfl, rfl⟩, fun h => absurd h hn, fun h => absurd h hn⟩
theorem diff_time {a b : List RowS} {tm : Stamp} (h : snapOk a = true ∧ snapOk b = true) (ht : stRight tm = false) : DiffRel a b tm [] 1 :=
  ⟨fun hn => absurd h hn, fun _ _ => ⟨rfl, rfl⟩, fun _ h2 => by rw [ht] at h2; cases h2⟩
section
variable {a b : List RowS} {tm : Stamp} {m0 m2 m3 : MakerS} (h0 : m0.st = ⟨tm, [], false⟩) (h1 : ∃ L : List RowS, L.Perm (b.filter (needs a)) ∧ m2.st = (L.map mvOp ++ (a.filter (gone b)).map trOp).foldl putC m0.st) (h2 : m3.st = (editsOf a b).foldl putC m2.st)
include h0 h1 h2
theorem diff_st : ∃ L : List RowS, L.Perm (b.filter (needs a)) ∧ m3.st = diffSt a b tm L := by
  obtain ⟨L, hL, h3⟩ := h1
  exact ⟨L, hL, by rw [h2, h3, h0]; rfl⟩
theorem diff_bad (hs : snapOk a = true ∧ snapOk b = true) (ht : stRight tm = true) (hb : m3.bad = true) : DiffRel a b tm [] 1 := by
  obtain ⟨L, hL, h3⟩ := diff_st h0 h1 h2
  have hb' : (diffSt a b tm L).bad = true := by rw [← h3]; exact hb
  exact ⟨fun hn => absurd hs hn, fun _ h => (by rw [ht] at h; cases h), fun _ _ => ⟨L, hL, fun _ => ⟨rfl, rfl⟩, fun h => (by rw [hb'] at h; cases h), fun h => (by rw [hb'] at h; cases h)⟩⟩
theorem diff_many (hs : snapOk a = true ∧ snapOk b = true) (ht : stRight tm = true) (hb : m3.bad = false) (hm : editsOne a b = false ∨ (64 : Int) < ((m3.ops.length : Nat) : Int)) : DiffRel a b tm [] 3 := by
  obtain ⟨L, hL, h3⟩ := diff_st h0 h1 h2
  have hb' : (diffSt a b tm L).bad = false := by rw [← h3]; exact hb
  have hl : (diffSt a b tm L).ops.length = m3.ops.length := by rw [← h3]; simp [MakerS.st]
  refine ⟨fun hn => absurd hs hn, fun _ h => (by rw [ht] at h; cases h), fun _ _ => ⟨L, hL, fun h => (by rw [hb'] at h; cases h), fun _ _ => ⟨rfl, rfl⟩, fun _ h => ?_⟩⟩
  rcases hm with hm | hm
  · rw [hm] at h; cases h.1
  · rw [hl] at h; omega
theorem diff_ok (hs : snapOk a = true ∧ snapOk b = true) (ht : stRight tm = true) (hb : m3.bad = false) (hm : editsOne a b = true ∧ ¬ (64 : Int) < ((m3.ops.length : Nat) : Int)) : DiffRel a b tm (m3.ops.map OpS.core) 0 := by
  obtain ⟨L, hL, h3⟩ := diff_st h0 h1 h2
  have hb' : (diffSt a b tm L).bad = false := by rw [← h3]; exact hb
  have ho : (diffSt a b tm L).ops = m3.ops.map OpS.core := by rw [← h3]; rfl
  have hl : (diffSt a b tm L).ops.length = m3.ops.length := by rw [ho]; simp
  refine ⟨fun hn => absurd hs hn, fun _ h => (by rw [ht] at h; cases h), fun _ _ => ⟨L, hL, fun h => (by rw [hb'] at h; cases h), fun _ h => ?_, fun _ _ => ⟨ho.symm, rfl⟩⟩⟩
  rcases h with h | h
  · rw [hm.1] at h; cases h
  · rw [hl] at h; omega
end
theorem moves_room {a b : List RowS} {m0 m2 : MakerS} (h : snapOk a = true ∧ snapOk b = true) (ht : stRight m0.at_ = true) (h0 : m0.ops = []) (h1 : ∃ L : List RowS, L.Perm (b.filter (needs a)) ∧ m2.st = (L.map mvOp ++ (a.filter (gone b)).map trOp).foldl putC m0.st) :
    (0 ≤ m2.at_.T ∧ m2.at_.T ≤ 2199023255552) ∧ m2.ops.length ≤ 100000 := by
  obtain ⟨L, hL, h2⟩ := h1
  have h3 := st_len h2
  have h4 := snap_len h
  have h5 := of_decide_eq_true ht
  have h6 := hL.length_eq
  have h7 := List.length_filter_le (needs a) b
  have h8 := List.length_filter_le (gone b) a
  rw [h3.1, h3.2, h0]
  simp only [List.length_append, List.length_map, List.length_nil]
  omega
end Go.Proofs.Ytiknfldhommmpaa
namespace Go.Proofs.Ytiknfldhommmpaa
open Go
set_option maxRecDepth 100000
set_option linter.unusedVariables false
set_option linter.unusedSimpArgs false
theorem differ_Diff_c34 : callable Try.prog 34 = true := by kernel_rfl
theorem differ_Diff_c35 : callable Try.prog 35 = true := by kernel_rfl
theorem differ_Diff_c36 : callable Try.prog 36 = true := by kernel_rfl
theorem differ_Diff_c37 : callable Try.prog 37 = true := by kernel_rfl
set_option maxHeartbeats 1000000 in
theorem differ_Diff (ha : SlH) (a : List RowS) (hb : SlH) (b : List RowS) (at_ : Stamp) (w : World) (Sa : Sl (Old w) rowCh 8 ha a w) (Da_heads : ∀ x ∈ a, Sl (Old w) headCh 34 x.hh x.heads w) (Sb : Sl (Old w) rowCh 8 hb b w) (Db_heads : ∀ x ∈ b, Sl (Old w) headCh 34 x.hh x.heads w) (hna : ∀ x ∈ a, asciiOr x.name) (hnb : ∀ x ∈ b, asciiOr x.name) (hha : ∀ x ∈ a, x.heads.length ≤ 1048576) (hhb : ∀ x ∈ b, x.heads.length ≤ 1048576) :
    Calls Try.prog 14 #[(slV ha a), (slV hb b), (aggOf (stampCh at_))] w (Ret fun v w' => ∃ (h : SlH) (l : List OpS) (S : Nat → Prop) (e : Int), v = .tuple #[slV h l, (.int .i64 e)] ∧ Ext w w' ∧ OwnS w.heap.size 39 41 opCh h l w' ∧ (∀ b, S b → w.heap.size ≤ b ∧ b < w'.heap.size ∧ (slV h l).ownBlock ≠ some b) ∧ (∀ x ∈ l, Sl S stampCh 2 x.oh x.over w') ∧ (DiffRel a b at_ (l.map OpS.core) e)) := by
 refine calls_W Try.func14 rfl Try.ntmps14 rfl ?_
 have H0 := Ctx.start w nob
 have H1 := H0.addSl _ Sa (fun b hb => ⟨hb, fun _ ho => (nomatch ho)⟩)
 have LSa := Sa.len
 have H2 := H1.addImm' (deepI (Old w) headCh 34 (fun x : RowS => x.hh) (fun x : RowS => x.heads) a) Da_heads (fun b hb => ⟨hb, fun _ ho => (nomatch ho)⟩)
 have H3 := H2.addSl _ Sb (fun b hb => ⟨hb, fun _ ho => (nomatch ho)⟩)
 have LSb := Sb.len
 have H4 := H3.addImm' (deepI (Old w) headCh 34 (fun x : RowS => x.hh) (fun x : RowS => x.heads) b) Db_heads (fun b hb => ⟨hb, fun _ ho => (nomatch ho)⟩)
 refine W_seq (W_reg ?_)
 refine O_v rfl (C_box H4 [[(.int .i64 at_.T)], [(.int .i64 at_.R)]] rfl ?_)
 intro b5 w6 hb7 hx8 H9
 refine O_v rfl (R_assign (v := (.slice none 0 0)) rfl ?_)
 refine O_v rfl (R_assign (v := (.int .i64 0)) rfl ?_)
 refine O_nil (Then_n (W_seq (W_seq ?_)))
 refine W_rg [(0, .q false), (1, .q false), (2, .q false), (3, .q false), (4, .q false), (5, .q false), (6, .q false), (7, .q false)] (by kernel_rfl) ?_
 refine Lx_q (i := 0) rfl rfl _ (fun v10 hv11 => R_move (v := (slV ha a)) rfl ⟨rfl, Gr.refl _ _⟩) ?_
 refine Lx_q (i := 1) rfl rfl (.bool (snapOk a)) (fun v12 hv13 => R_callL (vs := [(slV ha a)]) differ_Diff_c34 rfl rfl (snap_Right ha a v12 ((H9.ext hv13).slOld 3 rfl) ((H9.ext hv13).deepOld 2 rfl) hha hna)) ?_
 refine Lx_q (i := 2) rfl rfl _ (fun v14 hv15 => R_not rfl ⟨rfl, Gr.refl _ _⟩) ?_
 refine Lx_q (i := 3) rfl rfl _ (fun v16 hv17 => R_move (v := (.bool (!(snapOk a)))) rfl ⟨rfl, Gr.refl _ _⟩) ?_
 refine Lx_qg (i := 4) true (!(snapOk a)) rfl rfl rfl rfl rfl (!(!(snapOk a))) ga_f _ (fun hA v18 hv19 => R_move (v := (slV hb b)) rfl ⟨rfl, Gr.refl _ _⟩) ?_
 refine Lx_qg (i := 5) true (!(snapOk a)) rfl rfl rfl rfl rfl (!(!(snapOk a))) ga_f (.bool (snapOk b)) (fun hA v20 hv21 => R_callL (vs := [(slV hb b)]) differ_Diff_c34 rfl (lst1 (gv_t hA)) (snap_Right hb b v20 ((H9.ext hv21).slOld 1 rfl) ((H9.ext hv21).deepOld 0 rfl) hhb hnb)) ?_
 refine Lx_qg (i := 6) true (!(snapOk a)) rfl rfl rfl rfl rfl (!(!(snapOk a))) ga_f _ (fun hA v22 hv23 => R_not (gv_t hA) ⟨rfl, Gr.refl _ _⟩) ?_
 refine Lx_q (i := 7) rfl rfl _ (fun v24 hv25 => R_pick (t := (!(snapOk a))) (v := (.bool ((!(snapOk a)) || (!(snapOk b))))) rfl pk_or ⟨rfl, Gr.refl _ _⟩) ?_
 refine Lx_nil (fun w26 hw27 => ?_)
 have H28 := H9.ext hw27
 refine Then_n ?_
 refine W_cond (t := ((!(snapOk a)) || (!(snapOk b)))) rfl (fun hc29 => ?_) (fun hc29 => ?_)
 ·have hc29 : ((snapOk a) = false ∨ (snapOk b) = false) := (Or.imp (fun h => (notT h)) (fun h => (notT h)) (orT hc29))
  refine W_seq (W_reg ?_)
  refine O_v rfl (R_assign (v := (.slice none 0 0)) rfl ?_)
  refine O_v rfl (R_assign (v := (.int .i64 130)) rfl ?_)
  refine O_nil (Then_n (W_ret (Then_r ?_)))
  refine ret_2 (v := (.slice none 0 0)) (v' := (.int .i64 130)) Try.results14 rfl rfl ?_
  have H30 := H28.addNil 39 41 opCh
  have H31 := H30.deepNil stampCh 2 (fun x : OpS => x.oh) (fun x : OpS => x.over)
  exact ⟨nilH, ([] : List OpS), nob, 130, rfl, H31.gr, H31.retRow 0 rfl, H31.retDeep 0 rfl 0 rfl (fun _ h => h.elim), H31.getImm 0 rfl, (diff_tree (by assumption))⟩
 ·have hc29 : ((snapOk a) = true ∧ (snapOk b) = true) := (And.imp (fun h => (notF h)) (fun h => (notF h)) (orF hc29))
  refine W_skip (Then_n (W_seq (W_seq (W_reg ?_))))
  refine O_v rfl (R_loadA (cs := [[(.int .i64 at_.T)], [(.int .i64 at_.R)]]) Try.isAgg24 Try.sizeOf24 rfl rfl ((boxR_at (H28.getOwn 0 rfl)).chunks 0 2 0 0 _ rfl rfl rfl) ?_)
  refine O_v rfl (R_callL (vs := [(aggOf (stampCh at_))]) differ_Diff_c35 rfl rfl ((stamp_Right at_ w26 ).ret ?_))
  rintro _ w32 ⟨rfl, hx33⟩
  have H34 := H28.ext hx33
  refine O_v rfl (R_not rfl ?_)
  refine O_nil (Then_n ?_)
  refine W_cond (t := (!(stRight at_))) rfl (fun hc35 => ?_) (fun hc35 => ?_)
  ·have hc35 : (stRight at_) = false := (notT hc35)
   refine W_seq (W_reg ?_)
   refine O_v rfl (R_assign (v := (.slice none 0 0)) rfl ?_)
   refine O_v rfl (R_assign (v := (.int .i64 1)) rfl ?_)
   refine O_nil (Then_n (W_ret (Then_r ?_)))
   refine ret_2 (v := (.slice none 0 0)) (v' := (.int .i64 1)) Try.results14 rfl rfl ?_
   have H36 := H34.addNil 39 41 opCh
   have H37 := H36.deepNil stampCh 2 (fun x : OpS => x.oh) (fun x : OpS => x.over)
   exact ⟨nilH, ([] : List OpS), nob, 1, rfl, H37.gr, H37.retRow 0 rfl, H37.retDeep 0 rfl 0 rfl (fun _ h => h.elim), H37.getImm 0 rfl, (diff_time (by assumption) (by assumption))⟩
  ·have hc35 : (stRight at_) = true := (notF hc35)
   refine W_skip (Then_n (W_seq (W_reg ?_)))
   refine O_v rfl (R_loadA (cs := [[(.int .i64 at_.T)], [(.int .i64 at_.R)]]) Try.isAgg24 Try.sizeOf24 rfl rfl ((boxR_at (H34.getOwn 0 rfl)).chunks 0 2 0 0 _ rfl rfl rfl) ?_)
   refine O_v rfl (R_buildL (vs := [(0, (aggOf (stampCh at_)))]) (v := aggOf [[(.int .i64 at_.T)], [(.int .i64 at_.R)], [(.slice none 0 0)], [(.bool false)]]) rfl (fun _ => by kernel_rfl) ?_)
   refine O_v rfl (C_box H34 [[(.int .i64 at_.T)], [(.int .i64 at_.R)], [(.slice none 0 0)], [(.bool false)]] rfl ?_)
   intro b38 w39 hb40 hx41 H42
   refine O_v rfl (R_assign (v := (.pointer (some ⟨b38, 0, none⟩))) rfl ?_)
   refine O_nil (Then_n (W_seq (W_reg ?_)))
   refine O_v rfl (R_move (v := (.pointer (some ⟨b38, 0, none⟩))) rfl ?_)
   refine O_v rfl (R_move (v := (slV ha a)) rfl ?_)
   refine O_v rfl (R_move (v := (slV hb b)) rfl ?_)
   have H43 := H42.addNil 39 41 opCh
   have H44 := H43.deepNil stampCh 2 (fun x : OpS => x.oh) (fun x : OpS => x.over)
   refine O_v rfl (R_callL (vs := [(.pointer (some ⟨b38, 0, none⟩)), (slV ha a), (slV hb b)]) differ_Diff_c36 rfl rfl ((maker_moves b38 ({ at_ := at_, ops := ([] : List OpS), oh := nilH, bad := false } : MakerS) nob ha a hb b w39 ((H44.pick (B' := [boxR b38 71 [[(.int .i64 at_.T)], [(.int .i64 at_.R)], [(slV nilH ([] : List OpS))], [(.bool false)]], rowR 39 41 opCh nilH ([] : List OpS)]) (I' := [deepI nob stampCh 2 (fun x : OpS => x.oh) (fun x : OpS => x.over) ([] : List OpS)]) [1, 0] (by decide) rfl (List.forall_mem_cons.2 ⟨List.mem_of_getElem? (i := 0) rfl, fun _ h => (nomatch h)⟩)).objStart) (Old w) (H44.objFree 1 0 rfl rfl 4 rfl) (H44.sl 4 rfl) (Old w) (H44.objFree 1 0 rfl rfl 2 rfl) (H44.sl 2 rfl) (snap_len (by assumption : snapOk a = true ∧ snapOk b = true)).1 (snap_len (by assumption : snapOk a = true ∧ snapOk b = true)).2 (snap_dep ((by assumption : snapOk a = true ∧ snapOk b = true)).2) hna hnb (st_T (s := at_) (by assumption)) (Nat.zero_le _)).ret ?_))
   rintro _ w47 ⟨m45, S46, rfl, hg48, hQ49, hk50, hS51, hr52⟩
   have H53 := H44.obj2 1 0 (by decide) rfl rfl rfl (fun _ h => h) hg48 hQ49 rfl hk50 (fun c hc => (hS51 c hc).elim (fun h => .inl ⟨_, List.mem_of_getElem? (i := 0) rfl, h⟩) .inr)
   refine O_nil (Then_n (W_seq (W_reg ?_)))
   refine O_v rfl (R_move (v := (.pointer (some ⟨b38, 0, none⟩))) rfl ?_)
   refine O_v rfl (R_move (v := (slV ha a)) rfl ?_)
   refine O_v rfl (R_move (v := (slV hb b)) rfl ?_)
   refine O_v rfl (R_callL (vs := [(.pointer (some ⟨b38, 0, none⟩)), (slV ha a), (slV hb b)]) differ_Diff_c37 rfl rfl ((maker_edits b38 m45 S46 ha a hb b w47 ((H53.pick (B' := [boxR b38 71 [[(.int .i64 m45.at_.T)], [(.int .i64 m45.at_.R)], [(slV m45.oh m45.ops)], [(.bool m45.bad)]], rowR 39 41 opCh m45.oh m45.ops]) (I' := [deepI S46 stampCh 2 (fun x : OpS => x.oh) (fun x : OpS => x.over) m45.ops]) [1, 0] (by decide) rfl (List.forall_mem_cons.2 ⟨List.mem_of_getElem? (i := 0) rfl, fun _ h => (nomatch h)⟩)).objStart) (Old w) (H53.objFree 1 0 rfl rfl 5 rfl) (H53.sl 5 rfl) (H53.getImm 4 rfl) (Old w) (H53.objFree 1 0 rfl rfl 3 rfl) (H53.sl 3 rfl) (H53.getImm 2 rfl) (snap_len (by assumption : snapOk a = true ∧ snapOk b = true)).2 hha (moves_room (m0 := { at_ := at_, ops := [], oh := nilH, bad := false }) (by assumption : snapOk a = true ∧ snapOk b = true) (by assumption) rfl hr52).1 (moves_room (m0 := { at_ := at_, ops := [], oh := nilH, bad := false }) (by assumption : snapOk a = true ∧ snapOk b = true) (by assumption) rfl hr52).2).ret ?_))
   rintro _ w56 ⟨m54, S55, rfl, hg57, hQ58, hk59, hS60, hr61⟩
   have H62 := H53.obj2 1 0 (by decide) rfl rfl rfl (fun _ h => h) hg57 hQ58 rfl hk59 (fun c hc => (hS60 c hc).elim (fun h => .inl ⟨_, List.mem_of_getElem? (i := 0) rfl, h⟩) .inr)
   refine O_v rfl (R_assign (v := (.bool (editsOne a b))) rfl ?_)
   refine O_nil (Then_n (W_seq (W_block (W_seq (W_reg ?_)))))
   refine O_v rfl (R_move (v := (.pointer (some ⟨b38, 0, none⟩))) rfl ?_)
   refine O_v rfl (R_nilCheck rfl ?_)
   refine O_v rfl (R_fieldAddr (off := 3) (oo := 3) Try.underlying71 rfl rfl Try.sizeOf4 rfl rfl ?_)
   refine O_v rfl (R_load1 (v := (.bool m54.bad)) Try.isAgg4 rfl ((boxR_at (H62.getOwn 1 rfl)).chunks 3 1 3 3 _ rfl rfl rfl) ?_)
   refine O_v rfl (R_assign (v := (.bool m54.bad)) rfl ?_)
   refine O_nil (Then_n ?_)
   refine W_cond (t := m54.bad) rfl (fun hc63 => ?_) (fun hc63 => ?_)
   ·have hc63 : m54.bad = true := hc63
    refine W_seq (W_reg ?_)
    refine O_v rfl (R_assign (v := (.slice none 0 0)) rfl ?_)
    refine O_v rfl (R_assign (v := (.int .i64 1)) rfl ?_)
    refine O_nil (Then_n (W_ret (Blk_r (Then_r ?_))))
    refine ret_2 (v := (.slice none 0 0)) (v' := (.int .i64 1)) Try.results14 rfl rfl ?_
    have H64 := H62.addNil 39 41 opCh
    have H65 := H64.deepNil stampCh 2 (fun x : OpS => x.oh) (fun x : OpS => x.over)
    exact ⟨nilH, ([] : List OpS), nob, 1, rfl, H65.gr, H65.retRow 0 rfl, H65.retDeep 0 rfl 0 rfl (fun _ h => h.elim), H65.getImm 0 rfl, (diff_bad (m0 := { at_ := at_, ops := [], oh := nilH, bad := false }) rfl hr52 hr61 (by assumption) (by assumption) (by assumption))⟩
   ·have hc63 : m54.bad = false := hc63
    refine W_seq ?_
    refine W_rg [(0, .q false), (1, .q false), (2, .q false), (3, .q false), (4, .q false), (5, .q false), (6, .q false), (7, .q false), (8, .q false), (9, .q false), (10, .q false)] (by kernel_rfl) ?_
    refine Lx_q (i := 0) rfl rfl _ (fun v66 hv67 => R_move (v := (.bool (editsOne a b))) rfl ⟨rfl, Gr.refl _ _⟩) ?_
    refine Lx_q (i := 1) rfl rfl _ (fun v68 hv69 => R_not rfl ⟨rfl, Gr.refl _ _⟩) ?_
    refine Lx_q (i := 2) rfl rfl _ (fun v70 hv71 => R_move (v := (.bool (!(editsOne a b)))) rfl ⟨rfl, Gr.refl _ _⟩) ?_
    refine Lx_qg (i := 3) true (!(editsOne a b)) rfl rfl rfl rfl rfl (!(!(editsOne a b))) ga_f _ (fun hA v72 hv73 => R_move (v := (.pointer (some ⟨b38, 0, none⟩))) rfl ⟨rfl, Gr.refl _ _⟩) ?_
    refine Lx_qg (i := 4) true (!(editsOne a b)) rfl rfl rfl rfl rfl (!(!(editsOne a b))) ga_f _ (fun hA v74 hv75 => R_nilCheck (gv_t hA) ⟨rfl, Gr.refl _ _⟩) ?_
    refine Lx_qg (i := 5) true (!(editsOne a b)) rfl rfl rfl rfl rfl (!(!(editsOne a b))) ga_f _ (fun hA v76 hv77 => R_fieldAddr (off := 2) (oo := 2) Try.underlying71 rfl rfl Try.sizeOf31 (gv_t hA) rfl ⟨rfl, Gr.refl _ _⟩) ?_
    refine Lx_qg (i := 6) true (!(editsOne a b)) rfl rfl rfl rfl rfl (!(!(editsOne a b))) ga_f _ (fun hA v78 hv79 => R_load1 (v := (slV m54.oh m54.ops)) Try.isAgg31 (gv_t hA) ((boxR_at ((H62.ext hv79).getOwn 1 rfl)).chunks 2 1 2 2 _ rfl rfl rfl) ⟨rfl, Gr.refl _ _⟩) ?_
    refine Lx_qg (i := 7) true (!(editsOne a b)) rfl rfl rfl rfl rfl (!(!(editsOne a b))) ga_f _ (fun hA v80 hv81 => R_len_slice (a := m54.oh.a) (n := m54.ops.length) (c := m54.oh.c) Try.underlying31 (gv_t hA) ⟨rfl, Gr.refl _ _⟩) ?_
    refine Lx_qg (i := 8) true (!(editsOne a b)) rfl rfl rfl rfl rfl (!(!(editsOne a b))) ga_f _ (fun hA v82 hv83 => R_cmp (a := ((m54.ops.length : Nat) : Int)) (b := 64) (r := (decide (64 < ((m54.ops.length : Nat) : Int)))) (gv_t hA) rfl rfl ⟨rfl, Gr.refl _ _⟩) ?_
    refine Lx_q (i := 9) rfl rfl _ (fun v84 hv85 => R_pick (t := (!(editsOne a b))) (v := (.bool ((!(editsOne a b)) || (decide (64 < ((m54.ops.length : Nat) : Int)))))) rfl pk_or ⟨rfl, Gr.refl _ _⟩) ?_
    refine Lx_q (i := 10) rfl rfl _ (fun v86 hv87 => R_assign (v := (.bool ((!(editsOne a b)) || (decide (64 < ((m54.ops.length : Nat) : Int)))))) rfl ⟨rfl, Gr.refl _ _⟩) ?_
    refine Lx_nil (fun w88 hw89 => ?_)
    have H90 := H62.ext hw89
    refine Then_n ?_
    refine W_cond (t := ((!(editsOne a b)) || (decide (64 < ((m54.ops.length : Nat) : Int))))) rfl (fun hc91 => ?_) (fun hc91 => ?_)
    ·have hc91 : ((editsOne a b) = false ∨ (64 < ((m54.ops.length : Nat) : Int))) := (Or.imp (fun h => (notT h)) (fun h => (of_decide_eq_true h)) (orT hc91))
     refine W_seq (W_reg ?_)
     refine O_v rfl (R_assign (v := (.slice none 0 0)) rfl ?_)
     refine O_v rfl (R_assign (v := (.int .i64 3)) rfl ?_)
     refine O_nil (Then_n (W_ret (Blk_r (Then_r ?_))))
     refine ret_2 (v := (.slice none 0 0)) (v' := (.int .i64 3)) Try.results14 rfl rfl ?_
     have H92 := H90.addNil 39 41 opCh
     have H93 := H92.deepNil stampCh 2 (fun x : OpS => x.oh) (fun x : OpS => x.over)
     exact ⟨nilH, ([] : List OpS), nob, 3, rfl, H93.gr, H93.retRow 0 rfl, H93.retDeep 0 rfl 0 rfl (fun _ h => h.elim), H93.getImm 0 rfl, (diff_many (m0 := { at_ := at_, ops := [], oh := nilH, bad := false }) rfl hr52 hr61 (by assumption) (by assumption) (by assumption) (by assumption))⟩
    ·have hc91 : ((editsOne a b) = true ∧ ¬ (64 < ((m54.ops.length : Nat) : Int))) := (And.imp (fun h => (notF h)) (fun h => (of_decide_eq_false h)) (orF hc91))
     refine W_skip (Blk_n (Then_n (W_seq (W_reg ?_))))
     refine O_v rfl (R_move (v := (.pointer (some ⟨b38, 0, none⟩))) rfl ?_)
     refine O_v rfl (R_nilCheck rfl ?_)
     refine O_v rfl (R_fieldAddr (off := 2) (oo := 2) Try.underlying71 rfl rfl Try.sizeOf31 rfl rfl ?_)
     refine O_v rfl (R_load1 (v := (slV m54.oh m54.ops)) Try.isAgg31 rfl ((boxR_at (H90.getOwn 1 rfl)).chunks 2 1 2 2 _ rfl rfl rfl) ?_)
     refine O_v rfl (R_assign (v := (slV m54.oh m54.ops)) rfl ?_)
     refine O_v rfl (R_assign (v := (.int .i64 0)) rfl ?_)
     refine O_nil (Then_n (W_ret ?_))
     refine ret_2 (v := (slV m54.oh m54.ops)) (v' := (.int .i64 0)) Try.results14 rfl rfl ?_
     exact ⟨m54.oh, m54.ops, S55, 0, rfl, H90.gr, H90.retRow 0 rfl, H90.retDeep 0 rfl 0 rfl (fun c hc => (hS60 c hc).elim (fun h => (hS51 c h).elim (fun h => h.elim) (Nat.le_trans H44.gr.size)) (Nat.le_trans H53.gr.size)), H90.getImm 0 rfl, (diff_ok (m0 := { at_ := at_, ops := [], oh := nilH, bad := false }) rfl hr52 hr61 (by assumption) (by assumption) (by assumption) (by assumption))⟩

end Go.Proofs.Ytiknfldhommmpaa
/- The examples that the statements of layer 14 begin with. -/
namespace Go.Proofs.Ytiknfldhommmpaa
open Go
set_option linter.unusedVariables false
set_option linter.unusedSimpArgs false
set_option linter.unusedSectionVars false
def oneRow : RowS := { node := ⟨1, 1⟩, par := ⟨0, 0⟩, tm := ⟨1, 1⟩, name := ⟨#[97]⟩, heads := [], hh := nilH }
theorem one_deep (w : World) : ∀ x ∈ [oneRow], Sl (Old w) headCh 34 x.hh x.heads w := fun x hx => by
  rw [List.mem_singleton.1 hx]; exact Sl.nil _ _ _ _
theorem one_snap : snapOk [oneRow] = true := by
  refine snapOk_iff.2 ⟨by decide, fun i hi => ?_, fun i hi => ?_⟩
  · have : i = 0 := by simp at hi; omega
    subst this
    exact ⟨by decide, .inl rfl⟩
  · have : i = 0 := by simp at hi; omega
    subst this
    exact ⟨1, by decide, by decide, show fixedSt _ = true by decide⟩
theorem nil_snap : snapOk [] = true := snapOk_iff.2 ⟨by decide, fun i hi => absurd hi (Nat.not_lt_zero _), fun i hi => absurd hi (Nat.not_lt_zero _)⟩
theorem one_ascii : ∀ x ∈ [oneRow], asciiOr x.name := fun x hx => by
  rw [List.mem_singleton.1 hx]; unfold asciiOr; decide
theorem one_heads : ∀ x ∈ [oneRow], x.heads.length ≤ 1048576 := fun x hx => by
  rw [List.mem_singleton.1 hx]; decide
theorem alive1 {l : List OpS} {e : Int} (h : DiffRel [] [oneRow] ⟨5, 1⟩ (l.map OpS.core) e) : e = 0 ∧ l.length = 1 ∧ (nth l 0).kind = 1 ∧ (nth l 0).tm.T = 5 := by
  obtain ⟨L, hL, _, h2, h3⟩ := h.2.2 ⟨nil_snap, one_snap⟩ (by decide)
  have hf : [oneRow].filter (needs []) = [oneRow] := by rw [List.filter_cons_of_pos (by decide)]; rfl
  rw [hf, List.perm_singleton] at hL
  subst hL
  obtain ⟨h4, h5⟩ := h3 (by decide) ⟨by decide, by decide⟩
  have h6 : l.map OpS.core = [{ mvOp oneRow with tm := ⟨5, 1⟩ }] := h4
  obtain ⟨o, rfl, h7⟩ := List.map_eq_singleton_iff.1 h6
  refine ⟨h5, rfl, ?_, ?_⟩
  · exact congrArg OpC.kind h7
  · exact congrArg (fun x => (OpC.tm x).T) h7
theorem alive2 {l : List OpS} {e : Int} (h : DiffRel [oneRow] [] ⟨5, 1⟩ (l.map OpS.core) e) : e = 0 ∧ l.length = 1 ∧ (nth l 0).par = ⟨0, 1⟩ := by
  obtain ⟨L, hL, _, h2, h3⟩ := h.2.2 ⟨one_snap, nil_snap⟩ (by decide)
  have hf : ([] : List RowS).filter (needs [oneRow]) = [] := rfl
  rw [hf, List.perm_nil] at hL
  subst hL
  obtain ⟨h4, h5⟩ := h3 (by decide) ⟨by decide, by decide⟩
  have h6 : l.map OpS.core = [{ trOp oneRow with tm := ⟨5, 1⟩ }] := h4
  obtain ⟨o, rfl, h7⟩ := List.map_eq_singleton_iff.1 h6
  exact ⟨h5, rfl, congrArg OpC.par h7⟩
theorem alive3 : pathOf [oneRow] ⟨1, 1⟩ = ⟨#[97]⟩ := by decide
theorem alive4 : alikeOf [oneRow] [oneRow] = true := decide_eq_true rfl
theorem alive5 : alikeOf [oneRow] [] = false := by decide
theorem alive6 {l : List RowS} (h : l.map RowS.core = (aliveOf [oneRow]).map RowS.core) : l.length = 1 := by
  have := congrArg List.length h
  have h2 : (aliveOf [oneRow]).length = 1 := by decide
  simpa [h2] using this
theorem tree_heads {rows : List RowS} (h : treeOk rows = true) : ∀ x ∈ rows, x.heads.length ≤ 1048576 := by
  have h := of_decide_eq_true h
  intro x hx
  obtain ⟨i, hi, rfl⟩ := List.getElem_of_mem hx
  have h1 := (h.2 i hi).1
  rw [nth_eq hi] at h1
  unfold itemOk at h1
  have := of_decide_eq_true h1
  omega
theorem nameOk_size {s : ByteArray} (h : nameOk s = true) : s.size ≤ 60 := (of_decide_eq_true h).2.1
theorem tree_names {rows : List RowS} (h : treeOk rows = true) : ∀ x ∈ rows, x.name.size ≤ 60 := by
  have h := of_decide_eq_true h
  intro x hx
  obtain ⟨i, hi, rfl⟩ := List.getElem_of_mem hx
  have h1 := (h.2 i hi).1
  rw [nth_eq hi] at h1
  unfold itemOk at h1
  have := of_decide_eq_true h1
  exact nameOk_size (by simp_all)
theorem rows_true {a b l : List RowS} (h : l.map RowS.core = (aliveOf a).map RowS.core) (ha : treeOk a = true) (hb : treeOk b = true) (node : Stamp) :
    Value.bool ((sameRows l (aliveRef a) && decide (alikeOf a b = alikeRef a b)) && decide (pathOf a node = pathRef a node)) = Value.bool true := by
  obtain ⟨h1, h2, h3⟩ := rows_law ha hb node
  rw [h2, h3]
  simp [sameRows, h, h1]
end Go.Proofs.Ytiknfldhommmpaa
namespace Go.Proofs.Ytiknfldhommmpaa
open Go
set_option maxRecDepth 100000
set_option linter.unusedVariables false
set_option linter.unusedSimpArgs false
set_option maxHeartbeats 1000000 in
theorem law14_one  (w : World) :
    Calls Try.prog 17 #[] w (Ret fun v w' => ∃ h, v = slV h ([oneRow]) ∧ Ext w w' ∧ OwnS w.heap.size 44 8 rowCh h ([oneRow]) w') := by
 refine calls_W Try.func17 rfl Try.ntmps17 rfl ?_
 have H0 := Ctx.start w nob
 refine W_seq (W_reg ?_)
 refine O_v rfl (R_assign (v := (.slice none 0 0)) rfl ?_)
 refine O_nil (Then_n (W_seq (W_reg ?_)))
 refine O_v rfl (R_buildL (vs := [(0, (.int .i64 1)), (1, (.int .i64 1))]) (v := aggOf [[(.int .i64 1)], [(.int .i64 1)]]) rfl (fun _ => by kernel_rfl) ?_)
 refine O_v rfl (C_alloc H0 [[(.int .i64 0)], [(.int .i64 0)]] Try.zeroValue24 ?_)
 intro b1 w2 hb3 hx4 H5
 refine O_u (C_storeA H5 0 rfl 0 (sub := [[(.int .i64 1)], [(.int .i64 1)]]) [[(.int .i64 1)], [(.int .i64 1)]] Try.sizeOf24 rfl rfl rfl rfl ⟨[[(.int .i64 0)], [(.int .i64 0)]], [], rfl, rfl, rfl⟩ rfl ?_)
 intro w6 hg7 H8
 refine O_nil (Then_n (W_seq (W_reg ?_)))
 refine O_v rfl (R_loadA (cs := [[(.int .i64 1)], [(.int .i64 1)]]) Try.isAgg24 Try.sizeOf24 rfl rfl ((boxR_at (H8.getOwn 0 rfl)).chunks 0 2 0 0 _ rfl rfl rfl) ?_)
 refine O_v rfl (R_loadA (cs := [[(.int .i64 1)], [(.int .i64 1)]]) Try.isAgg24 Try.sizeOf24 rfl rfl ((boxR_at (H8.getOwn 0 rfl)).chunks 0 2 0 0 _ rfl rfl rfl) ?_)
 refine O_v rfl (R_buildL (vs := [(0, (aggOf [[(.int .i64 1)], [(.int .i64 1)]])), (2, (aggOf [[(.int .i64 1)], [(.int .i64 1)]])), (3, (.string (⟨#[97]⟩ : ByteArray)))]) (v := aggOf [[(.int .i64 1)], [(.int .i64 1)], [(.int .i64 0)], [(.int .i64 0)], [(.int .i64 1)], [(.int .i64 1)], [(.string (⟨#[97]⟩ : ByteArray))], [(.slice none 0 0)]]) rfl (fun _ => by kernel_rfl) ?_)
 refine O_v rfl (C_buildSliceL H8 (enc := rowCh) (val := rowV) ([({ node := ({ T := 1, R := 1 } : Stamp), par := ({ T := 0, R := 0 } : Stamp), tm := ({ T := 1, R := 1 } : Stamp), name := (⟨#[97]⟩ : ByteArray), heads := [], hh := nilH } : RowS)] : List RowS) Try.underlying22 Try.sizeOf44 Try.zeroValue44 rfl (by decide) (fun _ => rfl) (fun _ => rfl) rfl rfl (by decide) ?_)
 intro b9 w10 hb11 hx12 H13
 refine O_v rfl (R_assign (v := (slV ⟨some ⟨b9, 0, none⟩, b9, 0, 1⟩ ([({ node := ({ T := 1, R := 1 } : Stamp), par := ({ T := 0, R := 0 } : Stamp), tm := ({ T := 1, R := 1 } : Stamp), name := (⟨#[97]⟩ : ByteArray), heads := [], hh := nilH } : RowS)] : List RowS))) rfl ?_)
 refine O_nil (Then_n (W_ret ?_))
 refine ret_1 (v := (slV ⟨some ⟨b9, 0, none⟩, b9, 0, 1⟩ ([({ node := ({ T := 1, R := 1 } : Stamp), par := ({ T := 0, R := 0 } : Stamp), tm := ({ T := 1, R := 1 } : Stamp), name := (⟨#[97]⟩ : ByteArray), heads := [], hh := nilH } : RowS)] : List RowS))) Try.results17 rfl ?_
 exact ⟨⟨some ⟨b9, 0, none⟩, b9, 0, 1⟩, rfl, H13.gr, H13.retRow 0 rfl⟩

end Go.Proofs.Ytiknfldhommmpaa
namespace Go.Proofs.Ytiknfldhommmpaa
open Go
set_option maxRecDepth 100000
set_option linter.unusedVariables false
set_option linter.unusedSimpArgs false
theorem law14_alive_c8 : callable Try.prog 8 = true := by kernel_rfl
theorem law14_alive_c10 : callable Try.prog 10 = true := by kernel_rfl
theorem law14_alive_c12 : callable Try.prog 12 = true := by kernel_rfl
theorem law14_alive_c14 : callable Try.prog 14 = true := by kernel_rfl
theorem law14_alive_c17 : callable Try.prog 17 = true := by kernel_rfl
set_option maxHeartbeats 4000000 in
theorem law14_alive  (w : World) :
    Calls Try.prog 5 #[] w (Ret fun v w' => v = (.bool true) ∧ Ext w w') := by
 refine calls_W Try.func5 rfl Try.ntmps5 rfl ?_
 have H0 := Ctx.start w nob
 refine W_seq (W_reg ?_)
 refine O_v rfl (R_assign (v := (.bool false)) rfl ?_)
 refine O_nil (Then_n (W_seq (W_reg ?_)))
 refine O_v rfl (R_callL (vs := []) law14_alive_c17 rfl rfl ((law14_one  w ).ret ?_))
 rintro _ w2 ⟨h1, rfl, hx3, ho4⟩
 have H5 := H0.addRow hx3 ho4
 refine O_v rfl (R_buildL (vs := [(0, (.int .i64 5)), (1, (.int .i64 1))]) (v := aggOf [[(.int .i64 5)], [(.int .i64 1)]]) rfl (fun _ => by kernel_rfl) ?_)
 refine O_v rfl (R_callL (vs := [(.slice none 0 0), (slV h1 [oneRow]), (aggOf [[(.int .i64 5)], [(.int .i64 1)]])]) law14_alive_c14 rfl rfl ((differ_Diff nilH [] h1 [oneRow] ({ T := 5, R := 1 } : Stamp) w2 (Sl.nil _ _ _ _) (fun _ hx => (nomatch hx)) (H5.rowSl 0 rfl (fun _ => rfl)) (one_deep _) (fun _ hx => (nomatch hx)) one_ascii (fun _ hx => (nomatch hx)) one_heads).ret ?_))
 rintro _ w9 ⟨h6, l7, S8, e16, rfl, hx10, ho11, hS12, hd13, hr14⟩
 have H15 := H5.addRowDeep (h := fun x : OpS => x.oh) (f := fun x : OpS => x.over) hx10 ho11 hS12 hd13
 obtain ⟨kE, kL, kK, kT⟩ := alive1 hr14
 refine O_v rfl (R_move (v := (.tuple #[(slV h6 l7), (.int .i64 e16)])) rfl ?_)
 refine O_v rfl (R_extract (v := (slV h6 l7)) rfl rfl ?_)
 refine O_v rfl (R_extract (v := (.int .i64 e16)) rfl rfl ?_)
 refine O_v rfl (R_assign (v := (slV h6 l7)) rfl ?_)
 refine O_v rfl (R_assign (v := (.int .i64 e16)) rfl ?_)
 refine O_nil (Then_n (W_seq (W_reg ?_)))
 refine O_v rfl (R_callL (vs := []) law14_alive_c17 rfl rfl ((law14_one  w9 ).ret ?_))
 rintro _ w18 ⟨h17, rfl, hx19, ho20⟩
 have H21 := H15.addRow hx19 ho20
 refine O_v rfl (R_buildL (vs := [(0, (.int .i64 5)), (1, (.int .i64 1))]) (v := aggOf [[(.int .i64 5)], [(.int .i64 1)]]) rfl (fun _ => by kernel_rfl) ?_)
 refine O_v rfl (R_callL (vs := [(slV h17 [oneRow]), (.slice none 0 0), (aggOf [[(.int .i64 5)], [(.int .i64 1)]])]) law14_alive_c14 rfl rfl ((differ_Diff h17 [oneRow] nilH [] ({ T := 5, R := 1 } : Stamp) w18 (H21.rowSl 0 rfl (fun _ => rfl)) (one_deep _) (Sl.nil _ _ _ _) (fun _ hx => (nomatch hx)) one_ascii (fun _ hx => (nomatch hx)) one_heads (fun _ hx => (nomatch hx))).ret ?_))
 rintro _ w25 ⟨h22, l23, S24, e32, rfl, hx26, ho27, hS28, hd29, hr30⟩
 have H31 := H21.addRowDeep (h := fun x : OpS => x.oh) (f := fun x : OpS => x.over) hx26 ho27 hS28 hd29
 obtain ⟨jE, jL, jP⟩ := alive2 hr30
 refine O_v rfl (R_move (v := (.tuple #[(slV h22 l23), (.int .i64 e32)])) rfl ?_)
 refine O_v rfl (R_extract (v := (slV h22 l23)) rfl rfl ?_)
 refine O_v rfl (R_extract (v := (.int .i64 e32)) rfl rfl ?_)
 refine O_v rfl (R_assign (v := (slV h22 l23)) rfl ?_)
 refine O_v rfl (R_assign (v := (.int .i64 e32)) rfl ?_)
 refine O_nil (Then_n (W_seq ?_))
 refine W_rg [(0, .q false), (1, .q false), (2, .q false), (3, .q false), (4, .q false), (5, .q false), (6, .q false), (7, .q false), (8, .q false), (9, .q false), (10, .q false), (11, .q false), (12, .q false), (13, .q false), (14, .q false), (15, .q false), (16, .q false), (17, .q false), (18, .q false), (19, .q false), (20, .q false), (21, .q false), (22, .q false), (23, .q false), (24, .q false), (25, .q false), (26, .q false), (27, .q false), (28, .q false), (29, .q false), (30, .q false), (31, .q false), (32, .q false), (33, .q false), (34, .q false), (35, .q false), (36, .q false), (37, .q false), (38, .q false), (39, .q false), (41, .q false), (40, .c false), (42, .q false), (43, .q false), (44, .q false), (45, .q false), (46, .c false), (47, .c false), (48, .q false), (49, .q false), (50, .q false), (51, .c false), (52, .q false), (53, .q false), (54, .q false), (55, .q false), (56, .c false), (57, .c false), (58, .q false), (59, .q false), (60, .q false), (61, .q false)] (by kernel_rfl) ?_
 refine Lx_q (i := 0) rfl rfl _ (fun v33 hv34 => R_move (v := (.int .i64 e16)) rfl ⟨rfl, Gr.refl _ _⟩) ?_
 refine Lx_q (i := 1) rfl rfl (.bool true) (fun v35 hv36 => R_cmp (a := e16) (b := 0) (r := (decide (e16 = 0))) rfl rfl rfl ⟨boolK (decide_eq_true kE), Gr.refl _ _⟩) ?_
 refine Lx_q (i := 2) rfl rfl _ (fun v37 hv38 => R_move (v := (.bool true)) rfl ⟨rfl, Gr.refl _ _⟩) ?_
 refine Lx_qT (i := 3) rfl rfl rfl rfl rfl _ (fun v39 hv40 => R_move (v := (slV h6 l7)) rfl ⟨rfl, Gr.refl _ _⟩) ?_
 refine Lx_qT (i := 4) rfl rfl rfl rfl rfl _ (fun v41 hv42 => R_len_slice (a := h6.a) (n := l7.length) (c := h6.c) Try.underlying31 rfl ⟨rfl, Gr.refl _ _⟩) ?_
 refine Lx_qT (i := 5) rfl rfl rfl rfl rfl (.bool true) (fun v43 hv44 => R_cmp (a := ((l7.length : Nat) : Int)) (b := 1) (r := (decide (((l7.length : Nat) : Int) = 1))) rfl rfl rfl ⟨boolK (decide_eq_true (by omega)), Gr.refl _ _⟩) ?_
 refine Lx_q (i := 6) rfl rfl _ (fun v45 hv46 => R_pick (t := true) (v := (.bool true)) rfl rfl ⟨rfl, Gr.refl _ _⟩) ?_
 refine Lx_q (i := 7) rfl rfl _ (fun v47 hv48 => R_move (v := (.bool true)) rfl ⟨rfl, Gr.refl _ _⟩) ?_
 refine Lx_qT (i := 8) rfl rfl rfl rfl rfl _ (fun v49 hv50 => R_move (v := (slV h6 l7)) rfl ⟨rfl, Gr.refl _ _⟩) ?_
 refine Lx_qT (i := 9) rfl rfl rfl rfl rfl _ (fun v51 hv52 => R_index_pure (OwnS.sl (H31.getOwn 2 rfl) (fun _ => rfl)) (n := l7.length) rfl (j := 0) (oo := (h6.o + 0 * 41)) Try.underlying31 Try.sizeOf39 rfl rfl (by omega) (by omega) rfl ⟨rfl, Gr.refl _ _⟩) ?_
 refine Lx_qT (i := 10) rfl rfl rfl rfl rfl _ (fun v53 hv54 => R_fieldAddr (off := 0) (oo := (h6.o + 0 * 41)) Try.underlying39 rfl rfl Try.sizeOf3 rfl rfl ⟨rfl, Gr.refl _ _⟩) ?_
 refine Lx_qT (i := 11) rfl rfl rfl rfl rfl _ (fun v55 hv56 => R_load1 (v := (.int .i64 ((nth l7 0).kind))) Try.isAgg3 rfl ((Sl.elem (OwnS.sl ((H31.ext hv56).getOwn 2 rfl) (fun _ => rfl)) (i := 0) (by omega) rfl).chunks 0 1 0 (h6.o + 0 * 41) _ rfl rfl rfl) ⟨rfl, Gr.refl _ _⟩) ?_
 refine Lx_qT (i := 12) rfl rfl rfl rfl rfl (.bool true) (fun v57 hv58 => R_cmp (a := (nth l7 0).kind) (b := 1) (r := (decide ((nth l7 0).kind = 1))) rfl rfl rfl ⟨boolK (decide_eq_true kK), Gr.refl _ _⟩) ?_
 refine Lx_q (i := 13) rfl rfl _ (fun v59 hv60 => R_pick (t := true) (v := (.bool true)) rfl rfl ⟨rfl, Gr.refl _ _⟩) ?_
 refine Lx_q (i := 14) rfl rfl _ (fun v61 hv62 => R_move (v := (.bool true)) rfl ⟨rfl, Gr.refl _ _⟩) ?_
 refine Lx_qT (i := 15) rfl rfl rfl rfl rfl _ (fun v63 hv64 => R_move (v := (slV h6 l7)) rfl ⟨rfl, Gr.refl _ _⟩) ?_
 refine Lx_qT (i := 16) rfl rfl rfl rfl rfl _ (fun v65 hv66 => R_index_pure (OwnS.sl (H31.getOwn 2 rfl) (fun _ => rfl)) (n := l7.length) rfl (j := 0) (oo := (h6.o + 0 * 41)) Try.underlying31 Try.sizeOf39 rfl rfl (by omega) (by omega) rfl ⟨rfl, Gr.refl _ _⟩) ?_
 refine Lx_qT (i := 17) rfl rfl rfl rfl rfl _ (fun v67 hv68 => R_fieldAddr (off := 1) (oo := ((h6.o + 0 * 41) + 1)) Try.underlying39 rfl rfl Try.sizeOf24 rfl rfl ⟨rfl, Gr.refl _ _⟩) ?_
 refine Lx_qT (i := 18) rfl rfl rfl rfl rfl _ (fun v69 hv70 => R_fieldAddr (off := 0) (oo := ((h6.o + 0 * 41) + 1)) Try.underlying24 rfl rfl Try.sizeOf2 rfl rfl ⟨rfl, Gr.refl _ _⟩) ?_
 refine Lx_qT (i := 19) rfl rfl rfl rfl rfl _ (fun v71 hv72 => R_load1 (v := (.int .i64 (((nth l7 0).tm).T))) Try.isAgg2 rfl ((Sl.elem (OwnS.sl ((H31.ext hv72).getOwn 2 rfl) (fun _ => rfl)) (i := 0) (by omega) rfl).chunks 1 1 1 ((h6.o + 0 * 41) + 1) _ rfl rfl rfl) ⟨rfl, Gr.refl _ _⟩) ?_
 refine Lx_qT (i := 20) rfl rfl rfl rfl rfl (.bool true) (fun v73 hv74 => R_cmp (a := ((nth l7 0).tm).T) (b := 5) (r := (decide (((nth l7 0).tm).T = 5))) rfl rfl rfl ⟨boolK (decide_eq_true kT), Gr.refl _ _⟩) ?_
 refine Lx_q (i := 21) rfl rfl _ (fun v75 hv76 => R_pick (t := true) (v := (.bool true)) rfl rfl ⟨rfl, Gr.refl _ _⟩) ?_
 refine Lx_q (i := 22) rfl rfl _ (fun v77 hv78 => R_move (v := (.bool true)) rfl ⟨rfl, Gr.refl _ _⟩) ?_
 refine Lx_qT (i := 23) rfl rfl rfl rfl rfl _ (fun v79 hv80 => R_move (v := (.int .i64 e32)) rfl ⟨rfl, Gr.refl _ _⟩) ?_
 refine Lx_qT (i := 24) rfl rfl rfl rfl rfl (.bool true) (fun v81 hv82 => R_cmp (a := e32) (b := 0) (r := (decide (e32 = 0))) rfl rfl rfl ⟨boolK (decide_eq_true jE), Gr.refl _ _⟩) ?_
 refine Lx_q (i := 25) rfl rfl _ (fun v83 hv84 => R_pick (t := true) (v := (.bool true)) rfl rfl ⟨rfl, Gr.refl _ _⟩) ?_
 refine Lx_q (i := 26) rfl rfl _ (fun v85 hv86 => R_move (v := (.bool true)) rfl ⟨rfl, Gr.refl _ _⟩) ?_
 refine Lx_qT (i := 27) rfl rfl rfl rfl rfl _ (fun v87 hv88 => R_move (v := (slV h22 l23)) rfl ⟨rfl, Gr.refl _ _⟩) ?_
 refine Lx_qT (i := 28) rfl rfl rfl rfl rfl _ (fun v89 hv90 => R_len_slice (a := h22.a) (n := l23.length) (c := h22.c) Try.underlying31 rfl ⟨rfl, Gr.refl _ _⟩) ?_
 refine Lx_qT (i := 29) rfl rfl rfl rfl rfl (.bool true) (fun v91 hv92 => R_cmp (a := ((l23.length : Nat) : Int)) (b := 1) (r := (decide (((l23.length : Nat) : Int) = 1))) rfl rfl rfl ⟨boolK (decide_eq_true (by omega)), Gr.refl _ _⟩) ?_
 refine Lx_q (i := 30) rfl rfl _ (fun v93 hv94 => R_pick (t := true) (v := (.bool true)) rfl rfl ⟨rfl, Gr.refl _ _⟩) ?_
 refine Lx_q (i := 31) rfl rfl _ (fun v95 hv96 => R_move (v := (.bool true)) rfl ⟨rfl, Gr.refl _ _⟩) ?_
 refine Lx_qT (i := 32) rfl rfl rfl rfl rfl _ (fun v97 hv98 => R_move (v := (slV h22 l23)) rfl ⟨rfl, Gr.refl _ _⟩) ?_
 refine Lx_qT (i := 33) rfl rfl rfl rfl rfl _ (fun v99 hv100 => R_index_pure (OwnS.sl (H31.getOwn 0 rfl) (fun _ => rfl)) (n := l23.length) rfl (j := 0) (oo := (h22.o + 0 * 41)) Try.underlying31 Try.sizeOf39 rfl rfl (by omega) (by omega) rfl ⟨rfl, Gr.refl _ _⟩) ?_
 refine Lx_qT (i := 34) rfl rfl rfl rfl rfl _ (fun v101 hv102 => R_fieldAddr (off := 5) (oo := ((h22.o + 0 * 41) + 5)) Try.underlying39 rfl rfl Try.sizeOf24 rfl rfl ⟨rfl, Gr.refl _ _⟩) ?_
 refine Lx_qT (i := 35) rfl rfl rfl rfl rfl _ (fun v103 hv104 => R_loadA (cs := [[(.int .i64 (((nth l23 0).par).T))], [(.int .i64 (((nth l23 0).par).R))]]) Try.isAgg24 Try.sizeOf24 rfl rfl ((Sl.elem (OwnS.sl ((H31.ext hv104).getOwn 0 rfl) (fun _ => rfl)) (i := 0) (by omega) rfl).chunks 5 2 5 ((h22.o + 0 * 41) + 5) _ rfl rfl rfl) ⟨rfl, Gr.refl _ _⟩) ?_
 refine Lx_qT (i := 36) rfl rfl rfl rfl rfl _ (fun v105 hv106 => R_buildL (vs := [(1, (.int .i64 1))]) (v := aggOf [[(.int .i64 0)], [(.int .i64 1)]]) rfl (fun _ => by kernel_rfl) ⟨rfl, Gr.refl _ _⟩) ?_
 refine Lx_qT (i := 37) rfl rfl rfl rfl rfl (.bool true) (fun v107 hv108 => R_eqv (a := ((nth l23 0).par)) (b := ({ T := 0, R := 1 } : Stamp)) eqv_Stamp24 rfl Try.eqGuardType24 rfl rfl ⟨boolK (decide_eq_true jP), Gr.refl _ _⟩) ?_
 refine Lx_q (i := 38) rfl rfl _ (fun v109 hv110 => R_pick (t := true) (v := (.bool true)) rfl rfl ⟨rfl, Gr.refl _ _⟩) ?_
 refine Lx_q (i := 39) rfl rfl _ (fun v111 hv112 => R_move (v := (.bool true)) rfl ⟨rfl, Gr.refl _ _⟩) ?_
 refine Lx_qT (i := 41) rfl rfl rfl rfl rfl _ (fun v113 hv114 => R_buildL (vs := [(0, (.int .i64 1)), (1, (.int .i64 1))]) (v := aggOf [[(.int .i64 1)], [(.int .i64 1)]]) rfl (fun _ => by kernel_rfl) ⟨rfl, Gr.refl _ _⟩) ?_
 refine Lx_cT (i := 40) rfl rfl rfl rfl rfl (fun w115 hw116 => ?_)
 have H117 := H31.ext hw116
 refine (R_callL (vs := []) law14_alive_c17 rfl rfl ((law14_one  w115 ).ret ?_))
 rintro _ w119 ⟨h118, rfl, hx120, ho121⟩
 have H122 := H117.addRow hx120 ho121
 refine ⟨GrF.ofExt hx120, ?_⟩
 refine Lx_qT (i := 42) rfl rfl rfl rfl rfl (.string (pathOf [oneRow] ({ T := 1, R := 1 } : Stamp))) (fun v123 hv124 => R_callL (vs := [(slV h118 [oneRow]), (aggOf [[(.int .i64 1)], [(.int .i64 1)]])]) law14_alive_c12 rfl rfl (differ_Path h118 [oneRow] ({ T := 1, R := 1 } : Stamp) v123 ((H122.ext hv124).rowSl 0 rfl (fun _ => rfl)) (by decide) (fun x hx => by rw [List.mem_singleton.1 hx]; decide))) ?_
 refine Lx_qT (i := 43) rfl rfl rfl rfl rfl (.bool true) (fun v125 hv126 => R_cmpS (a := pathOf [oneRow] ({ T := 1, R := 1 } : Stamp)) (b := (⟨#[97]⟩ : ByteArray)) (r := (decide (pathOf [oneRow] ({ T := 1, R := 1 } : Stamp) = (⟨#[97]⟩ : ByteArray)))) rfl rfl rfl ⟨boolK (decide_eq_true alive3), Gr.refl _ _⟩) ?_
 refine Lx_q (i := 44) rfl rfl _ (fun v127 hv128 => R_pick (t := true) (v := (.bool true)) rfl rfl ⟨rfl, Gr.refl _ _⟩) ?_
 refine Lx_q (i := 45) rfl rfl _ (fun v129 hv130 => R_move (v := (.bool true)) rfl ⟨rfl, Gr.refl _ _⟩) ?_
 refine Lx_cT (i := 46) rfl rfl rfl rfl rfl (fun w131 hw132 => ?_)
 have H133 := H122.ext hw132
 refine (R_callL (vs := []) law14_alive_c17 rfl rfl ((law14_one  w131 ).ret ?_))
 rintro _ w135 ⟨h134, rfl, hx136, ho137⟩
 have H138 := H133.addRow hx136 ho137
 refine ⟨GrF.ofExt hx136, ?_⟩
 refine Lx_cT (i := 47) rfl rfl rfl rfl rfl (fun w139 hw140 => ?_)
 have H141 := H138.ext hw140
 refine (R_callL (vs := []) law14_alive_c17 rfl rfl ((law14_one  w139 ).ret ?_))
 rintro _ w143 ⟨h142, rfl, hx144, ho145⟩
 have H146 := H141.addRow hx144 ho145
 refine ⟨GrF.ofExt hx144, ?_⟩
 refine Lx_qT (i := 48) rfl rfl rfl rfl rfl (.bool true) (fun v147 hv148 => R_callL (vs := [(slV h134 [oneRow]), (slV h142 [oneRow])]) law14_alive_c10 rfl rfl ((differ_Alike h134 [oneRow] h142 [oneRow] v147 ((H146.ext hv148).rowSl 1 rfl (fun _ => rfl)) (one_deep _) ((H146.ext hv148).rowSl 0 rfl (fun _ => rfl)) (one_deep _) (by decide) one_heads (by decide) one_heads).ret (fun _ _ h => ⟨h.1.trans (boolK alive4), h.2⟩))) ?_
 refine Lx_q (i := 49) rfl rfl _ (fun v149 hv150 => R_pick (t := true) (v := (.bool true)) rfl rfl ⟨rfl, Gr.refl _ _⟩) ?_
 refine Lx_q (i := 50) rfl rfl _ (fun v151 hv152 => R_move (v := (.bool true)) rfl ⟨rfl, Gr.refl _ _⟩) ?_
 refine Lx_cT (i := 51) rfl rfl rfl rfl rfl (fun w153 hw154 => ?_)
 have H155 := H146.ext hw154
 refine (R_callL (vs := []) law14_alive_c17 rfl rfl ((law14_one  w153 ).ret ?_))
 rintro _ w157 ⟨h156, rfl, hx158, ho159⟩
 have H160 := H155.addRow hx158 ho159
 refine ⟨GrF.ofExt hx158, ?_⟩
 refine Lx_qT (i := 52) rfl rfl rfl rfl rfl (.bool (alikeOf [oneRow] [])) (fun v161 hv162 => R_callL (vs := [(slV h156 [oneRow]), (.slice none 0 0)]) law14_alive_c10 rfl rfl (differ_Alike h156 [oneRow] nilH [] v161 ((H160.ext hv162).rowSl 0 rfl (fun _ => rfl)) (one_deep _) (Sl.nil _ _ _ _) (fun _ hx => (nomatch hx)) (by decide) one_heads (by decide) (fun _ hx => (nomatch hx)))) ?_
 refine Lx_qT (i := 53) rfl rfl rfl rfl rfl (.bool true) (fun v163 hv164 => R_not rfl ⟨boolK (by rw [alive5]; rfl), Gr.refl _ _⟩) ?_
 refine Lx_q (i := 54) rfl rfl _ (fun v165 hv166 => R_pick (t := true) (v := (.bool true)) rfl rfl ⟨rfl, Gr.refl _ _⟩) ?_
 refine Lx_q (i := 55) rfl rfl _ (fun v167 hv168 => R_move (v := (.bool true)) rfl ⟨rfl, Gr.refl _ _⟩) ?_
 refine Lx_cT (i := 56) rfl rfl rfl rfl rfl (fun w169 hw170 => ?_)
 have H171 := H160.ext hw170
 refine (R_callL (vs := []) law14_alive_c17 rfl rfl ((law14_one  w169 ).ret ?_))
 rintro _ w173 ⟨h172, rfl, hx174, ho175⟩
 have H176 := H171.addRow hx174 ho175
 refine ⟨GrF.ofExt hx174, ?_⟩
 refine Lx_cT (i := 57) rfl rfl rfl rfl rfl (fun w177 hw178 => ?_)
 have H179 := H176.ext hw178
 refine (R_callL (vs := [(slV h172 [oneRow])]) law14_alive_c8 rfl rfl ((differ_Alive h172 [oneRow] w177 (H179.rowSl 0 rfl (fun _ => rfl)) (one_deep _) (by decide) one_heads).ret ?_))
 rintro _ w183 ⟨h180, l181, S182, rfl, hx184, ho185, hS186, hd187, hr188⟩
 have H189 := H179.addRowDeep (h := fun x : RowS => x.hh) (f := fun x : RowS => x.heads) hx184 ho185 hS186 hd187
 refine ⟨GrF.ofExt hx184, ?_⟩
 refine Lx_qT (i := 58) rfl rfl rfl rfl rfl _ (fun v190 hv191 => R_len_slice (a := h180.a) (n := l181.length) (c := h180.c) Try.underlying22 rfl ⟨rfl, Gr.refl _ _⟩) ?_
 refine Lx_qT (i := 59) rfl rfl rfl rfl rfl (.bool true) (fun v192 hv193 => R_cmp (a := ((l181.length : Nat) : Int)) (b := 1) (r := (decide (((l181.length : Nat) : Int) = 1))) rfl rfl rfl ⟨boolK (decide_eq_true (by have := alive6 hr188; omega)), Gr.refl _ _⟩) ?_
 refine Lx_q (i := 60) rfl rfl _ (fun v194 hv195 => R_pick (t := true) (v := (.bool true)) rfl rfl ⟨rfl, Gr.refl _ _⟩) ?_
 refine Lx_q (i := 61) rfl rfl _ (fun v196 hv197 => R_assign (v := (.bool true)) rfl ⟨rfl, Gr.refl _ _⟩) ?_
 refine Lx_nil (fun w198 hw199 => ?_)
 have H200 := H189.ext hw199
 refine Then_n (W_ret ?_)
 refine ret_1 (v := (.bool true)) Try.results5 rfl ?_
 exact ⟨rfl, H200.gr⟩

end Go.Proofs.Ytiknfldhommmpaa
namespace Go.Proofs.Ytiknfldhommmpaa
open Go
set_option maxRecDepth 100000
set_option linter.unusedVariables false
set_option linter.unusedSimpArgs false
set_option maxHeartbeats 1000000 in
theorem ref04_SameHeads (ha : SlH) (a : List Head) (hb : SlH) (b : List Head) (w : World) (Sa : Sl (Old w) headCh 34 ha a w) (Sb : Sl (Old w) headCh 34 hb b w) :
    Calls Try.prog 23 #[(slV ha a), (slV hb b)] w (Ret fun v w' => v = (.bool (decide (a = b))) ∧ Ext w w') := by
 refine calls_W Try.func23 rfl Try.ntmps23 rfl ?_
 have H0 := Ctx.start w nob
 have H1 := H0.addSl _ Sa (fun b hb => ⟨hb, fun _ ho => (nomatch ho)⟩)
 have LSa := Sa.len
 have H2 := H1.addSl _ Sb (fun b hb => ⟨hb, fun _ ho => (nomatch ho)⟩)
 have LSb := Sb.len
 refine W_seq (W_reg ?_)
 refine O_v rfl (R_assign (v := (.bool false)) rfl ?_)
 refine O_nil (Then_n (W_seq (W_seq (W_reg ?_))))
 refine O_v rfl (R_move (v := (slV ha a)) rfl ?_)
 refine O_v rfl (R_len_slice (a := ha.a) (n := a.length) (c := ha.c) Try.underlying42 rfl ?_)
 refine O_v rfl (R_move (v := (slV hb b)) rfl ?_)
 refine O_v rfl (R_len_slice (a := hb.a) (n := b.length) (c := hb.c) Try.underlying42 rfl ?_)
 refine O_v rfl (R_cmp (a := ((a.length : Nat) : Int)) (b := ((b.length : Nat) : Int)) (r := (!(decide (((a.length : Nat) : Int) = ((b.length : Nat) : Int))))) rfl rfl rfl ?_)
 refine O_nil (Then_n ?_)
 refine W_cond (t := (!(decide (((a.length : Nat) : Int) = ((b.length : Nat) : Int))))) rfl (fun hc3 => ?_) (fun hc3 => ?_)
 ·have hc3 : ¬ (((a.length : Nat) : Int) = ((b.length : Nat) : Int)) := (of_decide_eq_false (notT hc3))
  refine W_seq (W_reg ?_)
  refine O_v rfl (R_assign (v := (.bool false)) rfl ?_)
  refine O_nil (Then_n (W_ret (Then_r ?_)))
  refine ret_1 (v := (.bool false)) Try.results23 rfl ?_
  exact ⟨(boolF (fun h => by subst h; omega)), H2.gr⟩
 ·have hc3 : (((a.length : Nat) : Int) = ((b.length : Nat) : Int)) := (of_decide_eq_true (notF hc3))
  refine W_skip (Then_n (W_seq (W_seq (W_reg ?_))))
  refine O_v rfl (R_assign (v := (.int .i64 0)) rfl ?_)
  refine O_nil (Then_n (W_block ?_))
  refine W_loop (fun m4 e5 w6 => ∃ (k : Nat), m4 = a.length - k ∧ (k ≤ a.length) ∧ (∀ i, i < k → nth a i = nth b i) ∧ ∃ eb7, e5 = envL [(0, (slV ha a)), (1, (slV hb b)), (5, (.int .i64 ((k : Nat) : Int)))] eb7 ∧ Ctx w nob w6 [] [slI (Old w) headCh 34 hb b, slI (Old w) headCh 34 ha a]) _ ⟨0, rfl, (by omega), (all_zero _), _, envL_self ⟨rfl, rfl, rfl, trivial⟩, H2⟩ ?_
  rintro m4 _ w6 ⟨k, rfl, hk, hn, eb7, rfl, H8⟩
  refine W_seq (W_seq (W_reg ?_))
  refine O_v rfl (R_move (v := (.int .i64 ((k : Nat) : Int))) rfl ?_)
  refine O_v rfl (R_move (v := (slV ha a)) rfl ?_)
  refine O_v rfl (R_len_slice (a := ha.a) (n := a.length) (c := ha.c) Try.underlying42 rfl ?_)
  refine O_v rfl (R_cmp (a := ((k : Nat) : Int)) (b := ((a.length : Nat) : Int)) (r := (decide (((k : Nat) : Int) < ((a.length : Nat) : Int)))) rfl rfl rfl ?_)
  refine O_nil (Then_n ?_)
  refine W_cond (t := (decide (((k : Nat) : Int) < ((a.length : Nat) : Int)))) rfl (fun hc9 => ?_) (fun hc9 => ?_)
  ·have hc9 : (((k : Nat) : Int) < ((a.length : Nat) : Int)) := (of_decide_eq_true hc9)
   refine W_skip (Then_n (W_seq (W_block (W_seq ?_))))
   refine W_rgd TryMixed [(0, .q false), (1, .q false), (2, .q false), (3, .q false), (4, .q false), (5, .q false), (6, .q false), (7, .q false), (8, .q false)] (by kernel_rfl) ?_
   refine Lx_q (i := 0) rfl rfl _ (fun v10 hv11 => R_move (v := (slV ha a)) rfl ⟨rfl, Gr.refl _ _⟩) ?_
   refine Lx_q (i := 1) rfl rfl _ (fun v12 hv13 => R_move (v := (.int .i64 ((k : Nat) : Int))) rfl ⟨rfl, Gr.refl _ _⟩) ?_
   refine Lx_q (i := 2) rfl rfl _ (fun v14 hv15 => R_index_pure (H8.sl 1 rfl) (n := a.length) rfl (j := ((k : Nat) : Int)) (oo := (ha.o + k * 34)) Try.underlying42 Try.sizeOf62 rfl rfl (by omega) (by omega) rfl ⟨rfl, Gr.refl _ _⟩) ?_
   refine Lx_q (i := 3) rfl rfl _ (fun v16 hv17 => R_loadA (cs := [[(.int .i64 (((nth a k).tm).T))], [(.int .i64 (((nth a k).tm).R))], (idCells ((nth a k).data))]) Try.isAgg62 Try.sizeOf62 rfl rfl ((Sl.elem ((H8.ext hv17).sl 1 rfl) (i := k) (by omega) rfl).chunks 0 3 0 (ha.o + k * 34) _ rfl rfl rfl) ⟨rfl, Gr.refl _ _⟩) ?_
   refine Lx_q (i := 4) rfl rfl _ (fun v18 hv19 => R_move (v := (slV hb b)) rfl ⟨rfl, Gr.refl _ _⟩) ?_
   refine Lx_q (i := 5) rfl rfl _ (fun v20 hv21 => R_move (v := (.int .i64 ((k : Nat) : Int))) rfl ⟨rfl, Gr.refl _ _⟩) ?_
   refine Lx_q (i := 6) rfl rfl _ (fun v22 hv23 => R_index_pure (H8.sl 0 rfl) (n := b.length) rfl (j := ((k : Nat) : Int)) (oo := (hb.o + k * 34)) Try.underlying42 Try.sizeOf62 rfl rfl (by omega) (by omega) rfl ⟨rfl, Gr.refl _ _⟩) ?_
   refine Lx_q (i := 7) rfl rfl _ (fun v24 hv25 => R_loadA (cs := [[(.int .i64 (((nth b k).tm).T))], [(.int .i64 (((nth b k).tm).R))], (idCells ((nth b k).data))]) Try.isAgg62 Try.sizeOf62 rfl rfl ((Sl.elem ((H8.ext hv25).sl 0 rfl) (i := k) (by omega) rfl).chunks 0 3 0 (hb.o + k * 34) _ rfl rfl rfl) ⟨rfl, Gr.refl _ _⟩) ?_
   refine Lx_q (i := 8) rfl rfl _ (fun v26 hv27 => R_nev (a := (nth a k)) (b := (nth b k)) eqv_Head62 rfl Try.eqGuardType62 rfl rfl ⟨rfl, Gr.refl _ _⟩) ?_
   refine Lx_nil (fun w28 hw29 => ?_)
   have H30 := H8.ext hw29
   refine Then_n ?_
   refine W_cond (t := (!(decide ((nth a k) = (nth b k))))) rfl (fun hc31 => ?_) (fun hc31 => ?_)
   ·have hc31 : ¬ ((nth a k) = (nth b k)) := (of_decide_eq_false (notT hc31))
    refine W_seq (W_reg ?_)
    refine O_v rfl (R_assign (v := (.bool false)) rfl ?_)
    refine O_nil (Then_n (W_ret (Blk_r (Then_r (Then_r (Blk_r (Then_r ?_)))))))
    refine ret_1 (v := (.bool false)) Try.results23 rfl ?_
    exact ⟨(boolF (fun h => by subst h; exact absurd rfl (by assumption))), H30.gr⟩
   ·have hc31 : ((nth a k) = (nth b k)) := (of_decide_eq_true (notF hc31))
    refine W_skip (Blk_n (Then_n (W_reg ?_)))
    refine O_v rfl (R_move (v := (.int .i64 ((k : Nat) : Int))) rfl ?_)
    refine O_v rfl (R_arith (a := ((k : Nat) : Int)) (b := 1) (r0 := ((k : Nat) : Int) + 1) (r := ((k + 1 : Nat) : Int)) rfl rfl rfl (wrapN _ (by omega)) ?_)
    refine O_v rfl (R_assign (v := (.int .i64 ((k + 1 : Nat) : Int))) rfl ?_)
    refine O_nil (Then_n ?_)
    refine ⟨_, ?_, (k + 1), rfl, (by omega), (all_succ hn (by assumption)), _, envL_self ⟨rfl, rfl, rfl, trivial⟩, H30⟩
    omega
  ·have hc9 : ¬ (((k : Nat) : Int) < ((a.length : Nat) : Int)) := (of_decide_eq_false hc9)
   refine W_exit (Then_x (Then_x (Blk_x (Then_n (W_seq (W_reg ?_))))))
   refine O_v rfl (R_assign (v := (.bool true)) rfl ?_)
   refine O_nil (Then_n (W_ret ?_))
   refine ret_1 (v := (.bool true)) Try.results23 rfl ?_
   exact ⟨(boolT (eq_of_nth (by omega) (by rwa [show a.length = k from by omega]))), H8.gr⟩

end Go.Proofs.Ytiknfldhommmpaa
namespace Go.Proofs.Ytiknfldhommmpaa
open Go
set_option maxRecDepth 100000
set_option linter.unusedVariables false
set_option linter.unusedSimpArgs false
theorem ref12_Same_c23 : callable Try.prog 23 = true := by kernel_rfl
set_option maxHeartbeats 1000000 in
theorem ref12_Same (ha : SlH) (a : List RowS) (hb : SlH) (b : List RowS) (w : World) (Sa : Sl (Old w) rowCh 8 ha a w) (Da_heads : ∀ x ∈ a, Sl (Old w) headCh 34 x.hh x.heads w) (Sb : Sl (Old w) rowCh 8 hb b w) (Db_heads : ∀ x ∈ b, Sl (Old w) headCh 34 x.hh x.heads w) :
    Calls Try.prog 7 #[(slV ha a), (slV hb b)] w (Ret fun v w' => v = (.bool (sameRows a b)) ∧ Ext w w') := by
 refine calls_W Try.func7 rfl Try.ntmps7 rfl ?_
 have H0 := Ctx.start w nob
 have H1 := H0.addSl _ Sa (fun b hb => ⟨hb, fun _ ho => (nomatch ho)⟩)
 have LSa := Sa.len
 have H2 := H1.addImm' (deepI (Old w) headCh 34 (fun x : RowS => x.hh) (fun x : RowS => x.heads) a) Da_heads (fun b hb => ⟨hb, fun _ ho => (nomatch ho)⟩)
 have H3 := H2.addSl _ Sb (fun b hb => ⟨hb, fun _ ho => (nomatch ho)⟩)
 have LSb := Sb.len
 have H4 := H3.addImm' (deepI (Old w) headCh 34 (fun x : RowS => x.hh) (fun x : RowS => x.heads) b) Db_heads (fun b hb => ⟨hb, fun _ ho => (nomatch ho)⟩)
 refine W_seq (W_reg ?_)
 refine O_v rfl (R_assign (v := (.bool false)) rfl ?_)
 refine O_nil (Then_n (W_seq (W_seq (W_reg ?_))))
 refine O_v rfl (R_move (v := (slV ha a)) rfl ?_)
 refine O_v rfl (R_len_slice (a := ha.a) (n := a.length) (c := ha.c) Try.underlying22 rfl ?_)
 refine O_v rfl (R_move (v := (slV hb b)) rfl ?_)
 refine O_v rfl (R_len_slice (a := hb.a) (n := b.length) (c := hb.c) Try.underlying22 rfl ?_)
 refine O_v rfl (R_cmp (a := ((a.length : Nat) : Int)) (b := ((b.length : Nat) : Int)) (r := (!(decide (((a.length : Nat) : Int) = ((b.length : Nat) : Int))))) rfl rfl rfl ?_)
 refine O_nil (Then_n ?_)
 refine W_cond (t := (!(decide (((a.length : Nat) : Int) = ((b.length : Nat) : Int))))) rfl (fun hc5 => ?_) (fun hc5 => ?_)
 ·have hc5 : ¬ (((a.length : Nat) : Int) = ((b.length : Nat) : Int)) := (of_decide_eq_false (notT hc5))
  refine W_seq (W_reg ?_)
  refine O_v rfl (R_assign (v := (.bool false)) rfl ?_)
  refine O_nil (Then_n (W_ret (Then_r ?_)))
  refine ret_1 (v := (.bool false)) Try.results7 rfl ?_
  exact ⟨(sameRows_len (by assumption)), H4.gr⟩
 ·have hc5 : (((a.length : Nat) : Int) = ((b.length : Nat) : Int)) := (of_decide_eq_true (notF hc5))
  refine W_skip (Then_n (W_seq (W_seq (W_reg ?_))))
  refine O_v rfl (R_assign (v := (.int .i64 0)) rfl ?_)
  refine O_nil (Then_n (W_block ?_))
  refine W_loop (fun m6 e7 w8 => ∃ (k : Nat), m6 = a.length - k ∧ (k ≤ a.length) ∧ (∀ i, i < k → (nth a i).core = (nth b i).core) ∧ ∃ eb9, e7 = envL [(0, (slV ha a)), (1, (slV hb b)), (5, (.int .i64 ((k : Nat) : Int)))] eb9 ∧ Ctx w nob w8 [] [deepI (Old w) headCh 34 (fun x : RowS => x.hh) (fun x : RowS => x.heads) b, slI (Old w) rowCh 8 hb b, deepI (Old w) headCh 34 (fun x : RowS => x.hh) (fun x : RowS => x.heads) a, slI (Old w) rowCh 8 ha a]) _ ⟨0, rfl, (by omega), (all_zero _), _, envL_self ⟨rfl, rfl, rfl, trivial⟩, H4⟩ ?_
  rintro m6 _ w8 ⟨k, rfl, hk, hn, eb9, rfl, H10⟩
  refine W_seq (W_seq (W_reg ?_))
  refine O_v rfl (R_move (v := (.int .i64 ((k : Nat) : Int))) rfl ?_)
  refine O_v rfl (R_move (v := (slV ha a)) rfl ?_)
  refine O_v rfl (R_len_slice (a := ha.a) (n := a.length) (c := ha.c) Try.underlying22 rfl ?_)
  refine O_v rfl (R_cmp (a := ((k : Nat) : Int)) (b := ((a.length : Nat) : Int)) (r := (decide (((k : Nat) : Int) < ((a.length : Nat) : Int)))) rfl rfl rfl ?_)
  refine O_nil (Then_n ?_)
  refine W_cond (t := (decide (((k : Nat) : Int) < ((a.length : Nat) : Int)))) rfl (fun hc11 => ?_) (fun hc11 => ?_)
  ·have hc11 : (((k : Nat) : Int) < ((a.length : Nat) : Int)) := (of_decide_eq_true hc11)
   refine W_skip (Then_n (W_seq (W_block (W_seq ?_))))
   refine W_rgd TryMixed [(0, .q false), (1, .q false), (2, .q false), (3, .q false), (4, .q false), (5, .q false), (6, .q false), (7, .q false), (8, .q false), (9, .q false), (10, .q false), (11, .q false), (12, .q false), (13, .q false), (14, .q false), (15, .q false), (16, .q false), (17, .q false), (18, .q false), (19, .q false), (20, .q false), (21, .q false), (22, .q false), (23, .q false), (24, .q false), (25, .q false), (26, .q false), (27, .q false), (28, .q false), (29, .q false), (30, .q false), (31, .q false), (32, .q false), (33, .q false), (34, .q false), (35, .q false), (36, .q false), (37, .q false), (38, .q false), (39, .q false), (40, .q false), (41, .q false), (42, .q false), (43, .q false), (44, .q false), (45, .q false), (46, .q false), (47, .q false), (48, .q false), (49, .q false), (50, .q false), (51, .q false), (52, .q false), (53, .q false), (54, .q false), (55, .q false), (56, .q false), (57, .q false), (58, .q false), (59, .q false), (60, .q false), (61, .q false), (62, .q false), (63, .q false)] (by kernel_rfl) ?_
   refine Lx_q (i := 0) rfl rfl _ (fun v12 hv13 => R_move (v := (slV ha a)) rfl ⟨rfl, Gr.refl _ _⟩) ?_
   refine Lx_q (i := 1) rfl rfl _ (fun v14 hv15 => R_move (v := (.int .i64 ((k : Nat) : Int))) rfl ⟨rfl, Gr.refl _ _⟩) ?_
   refine Lx_q (i := 2) rfl rfl _ (fun v16 hv17 => R_index_pure (H10.sl 3 rfl) (n := a.length) rfl (j := ((k : Nat) : Int)) (oo := (ha.o + k * 8)) Try.underlying22 Try.sizeOf44 rfl rfl (by omega) (by omega) rfl ⟨rfl, Gr.refl _ _⟩) ?_
   refine Lx_q (i := 3) rfl rfl _ (fun v18 hv19 => R_fieldAddr (off := 0) (oo := (ha.o + k * 8)) Try.underlying44 rfl rfl Try.sizeOf24 rfl rfl ⟨rfl, Gr.refl _ _⟩) ?_
   refine Lx_q (i := 4) rfl rfl _ (fun v20 hv21 => R_loadA (cs := [[(.int .i64 (((nth a k).node).T))], [(.int .i64 (((nth a k).node).R))]]) Try.isAgg24 Try.sizeOf24 rfl rfl ((Sl.elem ((H10.ext hv21).sl 3 rfl) (i := k) (by omega) rfl).chunks 0 2 0 (ha.o + k * 8) _ rfl rfl rfl) ⟨rfl, Gr.refl _ _⟩) ?_
   refine Lx_q (i := 5) rfl rfl _ (fun v22 hv23 => R_move (v := (slV hb b)) rfl ⟨rfl, Gr.refl _ _⟩) ?_
   refine Lx_q (i := 6) rfl rfl _ (fun v24 hv25 => R_move (v := (.int .i64 ((k : Nat) : Int))) rfl ⟨rfl, Gr.refl _ _⟩) ?_
   refine Lx_q (i := 7) rfl rfl _ (fun v26 hv27 => R_index_pure (H10.sl 1 rfl) (n := b.length) rfl (j := ((k : Nat) : Int)) (oo := (hb.o + k * 8)) Try.underlying22 Try.sizeOf44 rfl rfl (by omega) (by omega) rfl ⟨rfl, Gr.refl _ _⟩) ?_
   refine Lx_q (i := 8) rfl rfl _ (fun v28 hv29 => R_fieldAddr (off := 0) (oo := (hb.o + k * 8)) Try.underlying44 rfl rfl Try.sizeOf24 rfl rfl ⟨rfl, Gr.refl _ _⟩) ?_
   refine Lx_q (i := 9) rfl rfl _ (fun v30 hv31 => R_loadA (cs := [[(.int .i64 (((nth b k).node).T))], [(.int .i64 (((nth b k).node).R))]]) Try.isAgg24 Try.sizeOf24 rfl rfl ((Sl.elem ((H10.ext hv31).sl 1 rfl) (i := k) (by omega) rfl).chunks 0 2 0 (hb.o + k * 8) _ rfl rfl rfl) ⟨rfl, Gr.refl _ _⟩) ?_
   refine Lx_q (i := 10) rfl rfl _ (fun v32 hv33 => R_nev (a := ((nth a k).node)) (b := ((nth b k).node)) eqv_Stamp24 rfl Try.eqGuardType24 rfl rfl ⟨rfl, Gr.refl _ _⟩) ?_
   refine Lx_q (i := 11) rfl rfl _ (fun v34 hv35 => R_move (v := (.bool (!(decide (((nth a k).node) = ((nth b k).node)))))) rfl ⟨rfl, Gr.refl _ _⟩) ?_
   refine Lx_qg (i := 12) true (!(decide (((nth a k).node) = ((nth b k).node)))) rfl rfl rfl rfl rfl (!(!(decide (((nth a k).node) = ((nth b k).node))))) ga_f _ (fun hA v36 hv37 => R_move (v := (slV ha a)) rfl ⟨rfl, Gr.refl _ _⟩) ?_
   refine Lx_qg (i := 13) true (!(decide (((nth a k).node) = ((nth b k).node)))) rfl rfl rfl rfl rfl (!(!(decide (((nth a k).node) = ((nth b k).node))))) ga_f _ (fun hA v38 hv39 => R_move (v := (.int .i64 ((k : Nat) : Int))) rfl ⟨rfl, Gr.refl _ _⟩) ?_
   refine Lx_qg (i := 14) true (!(decide (((nth a k).node) = ((nth b k).node)))) rfl rfl rfl rfl rfl (!(!(decide (((nth a k).node) = ((nth b k).node))))) ga_f _ (fun hA v40 hv41 => by
          have hP : (((nth a k).node) = ((nth b k).node)) := (of_decide_eq_true (notF (notT hA)))
          exact R_index_pure (H10.sl 3 rfl) (n := a.length) rfl (j := ((k : Nat) : Int)) (oo := (ha.o + k * 8)) Try.underlying22 Try.sizeOf44 (gv_t hA) (gv_t hA) (by omega) (by omega) rfl ⟨rfl, Gr.refl _ _⟩) ?_
   refine Lx_qg (i := 15) true (!(decide (((nth a k).node) = ((nth b k).node)))) rfl rfl rfl rfl rfl (!(!(decide (((nth a k).node) = ((nth b k).node))))) ga_f _ (fun hA v42 hv43 => R_fieldAddr (off := 2) (oo := ((ha.o + k * 8) + 2)) Try.underlying44 rfl rfl Try.sizeOf24 (gv_t hA) rfl ⟨rfl, Gr.refl _ _⟩) ?_
   refine Lx_qg (i := 16) true (!(decide (((nth a k).node) = ((nth b k).node)))) rfl rfl rfl rfl rfl (!(!(decide (((nth a k).node) = ((nth b k).node))))) ga_f _ (fun hA v44 hv45 => by
          have hP : (((nth a k).node) = ((nth b k).node)) := (of_decide_eq_true (notF (notT hA)))
          exact R_loadA (cs := [[(.int .i64 (((nth a k).par).T))], [(.int .i64 (((nth a k).par).R))]]) Try.isAgg24 Try.sizeOf24 rfl (gv_t hA) ((Sl.elem ((H10.ext hv45).sl 3 rfl) (i := k) (by omega) rfl).chunks 2 2 2 ((ha.o + k * 8) + 2) _ rfl rfl rfl) ⟨rfl, Gr.refl _ _⟩) ?_
   refine Lx_qg (i := 17) true (!(decide (((nth a k).node) = ((nth b k).node)))) rfl rfl rfl rfl rfl (!(!(decide (((nth a k).node) = ((nth b k).node))))) ga_f _ (fun hA v46 hv47 => R_move (v := (slV hb b)) rfl ⟨rfl, Gr.refl _ _⟩) ?_
   refine Lx_qg (i := 18) true (!(decide (((nth a k).node) = ((nth b k).node)))) rfl rfl rfl rfl rfl (!(!(decide (((nth a k).node) = ((nth b k).node))))) ga_f _ (fun hA v48 hv49 => R_move (v := (.int .i64 ((k : Nat) : Int))) rfl ⟨rfl, Gr.refl _ _⟩) ?_
   refine Lx_qg (i := 19) true (!(decide (((nth a k).node) = ((nth b k).node)))) rfl rfl rfl rfl rfl (!(!(decide (((nth a k).node) = ((nth b k).node))))) ga_f _ (fun hA v50 hv51 => by
          have hP : (((nth a k).node) = ((nth b k).node)) := (of_decide_eq_true (notF (notT hA)))
          exact R_index_pure (H10.sl 1 rfl) (n := b.length) rfl (j := ((k : Nat) : Int)) (oo := (hb.o + k * 8)) Try.underlying22 Try.sizeOf44 (gv_t hA) (gv_t hA) (by omega) (by omega) rfl ⟨rfl, Gr.refl _ _⟩) ?_
   refine Lx_qg (i := 20) true (!(decide (((nth a k).node) = ((nth b k).node)))) rfl rfl rfl rfl rfl (!(!(decide (((nth a k).node) = ((nth b k).node))))) ga_f _ (fun hA v52 hv53 => R_fieldAddr (off := 2) (oo := ((hb.o + k * 8) + 2)) Try.underlying44 rfl rfl Try.sizeOf24 (gv_t hA) rfl ⟨rfl, Gr.refl _ _⟩) ?_
   refine Lx_qg (i := 21) true (!(decide (((nth a k).node) = ((nth b k).node)))) rfl rfl rfl rfl rfl (!(!(decide (((nth a k).node) = ((nth b k).node))))) ga_f _ (fun hA v54 hv55 => by
          have hP : (((nth a k).node) = ((nth b k).node)) := (of_decide_eq_true (notF (notT hA)))
          exact R_loadA (cs := [[(.int .i64 (((nth b k).par).T))], [(.int .i64 (((nth b k).par).R))]]) Try.isAgg24 Try.sizeOf24 rfl (gv_t hA) ((Sl.elem ((H10.ext hv55).sl 1 rfl) (i := k) (by omega) rfl).chunks 2 2 2 ((hb.o + k * 8) + 2) _ rfl rfl rfl) ⟨rfl, Gr.refl _ _⟩) ?_
   refine Lx_qg (i := 22) true (!(decide (((nth a k).node) = ((nth b k).node)))) rfl rfl rfl rfl rfl (!(!(decide (((nth a k).node) = ((nth b k).node))))) ga_f _ (fun hA v56 hv57 => R_nev (a := ((nth a k).par)) (b := ((nth b k).par)) eqv_Stamp24 rfl Try.eqGuardType24 (gv_t hA) (gv_t hA) ⟨rfl, Gr.refl _ _⟩) ?_
   refine Lx_q (i := 23) rfl rfl _ (fun v58 hv59 => R_pick (t := (!(decide (((nth a k).node) = ((nth b k).node))))) (v := (.bool ((!(decide (((nth a k).node) = ((nth b k).node)))) || (!(decide (((nth a k).par) = ((nth b k).par))))))) rfl pk_or ⟨rfl, Gr.refl _ _⟩) ?_
   refine Lx_q (i := 24) rfl rfl _ (fun v60 hv61 => R_move (v := (.bool ((!(decide (((nth a k).node) = ((nth b k).node)))) || (!(decide (((nth a k).par) = ((nth b k).par))))))) rfl ⟨rfl, Gr.refl _ _⟩) ?_
   refine Lx_qg (i := 25) true ((!(decide (((nth a k).node) = ((nth b k).node)))) || (!(decide (((nth a k).par) = ((nth b k).par))))) rfl rfl rfl rfl rfl (!((!(decide (((nth a k).node) = ((nth b k).node)))) || (!(decide (((nth a k).par) = ((nth b k).par)))))) ga_f _ (fun hA v62 hv63 => R_move (v := (slV ha a)) rfl ⟨rfl, Gr.refl _ _⟩) ?_
   refine Lx_qg (i := 26) true ((!(decide (((nth a k).node) = ((nth b k).node)))) || (!(decide (((nth a k).par) = ((nth b k).par))))) rfl rfl rfl rfl rfl (!((!(decide (((nth a k).node) = ((nth b k).node)))) || (!(decide (((nth a k).par) = ((nth b k).par)))))) ga_f _ (fun hA v64 hv65 => R_move (v := (.int .i64 ((k : Nat) : Int))) rfl ⟨rfl, Gr.refl _ _⟩) ?_
   refine Lx_qg (i := 27) true ((!(decide (((nth a k).node) = ((nth b k).node)))) || (!(decide (((nth a k).par) = ((nth b k).par))))) rfl rfl rfl rfl rfl (!((!(decide (((nth a k).node) = ((nth b k).node)))) || (!(decide (((nth a k).par) = ((nth b k).par)))))) ga_f _ (fun hA v66 hv67 => by
          have hP : ((((nth a k).node) = ((nth b k).node)) ∧ (((nth a k).par) = ((nth b k).par))) := (And.imp (fun h => (of_decide_eq_true (notF h))) (fun h => (of_decide_eq_true (notF h))) (orF (notT hA)))
          exact R_index_pure (H10.sl 3 rfl) (n := a.length) rfl (j := ((k : Nat) : Int)) (oo := (ha.o + k * 8)) Try.underlying22 Try.sizeOf44 (gv_t hA) (gv_t hA) (by omega) (by omega) rfl ⟨rfl, Gr.refl _ _⟩) ?_
   refine Lx_qg (i := 28) true ((!(decide (((nth a k).node) = ((nth b k).node)))) || (!(decide (((nth a k).par) = ((nth b k).par))))) rfl rfl rfl rfl rfl (!((!(decide (((nth a k).node) = ((nth b k).node)))) || (!(decide (((nth a k).par) = ((nth b k).par)))))) ga_f _ (fun hA v68 hv69 => R_fieldAddr (off := 4) (oo := ((ha.o + k * 8) + 4)) Try.underlying44 rfl rfl Try.sizeOf24 (gv_t hA) rfl ⟨rfl, Gr.refl _ _⟩) ?_
   refine Lx_qg (i := 29) true ((!(decide (((nth a k).node) = ((nth b k).node)))) || (!(decide (((nth a k).par) = ((nth b k).par))))) rfl rfl rfl rfl rfl (!((!(decide (((nth a k).node) = ((nth b k).node)))) || (!(decide (((nth a k).par) = ((nth b k).par)))))) ga_f _ (fun hA v70 hv71 => by
          have hP : ((((nth a k).node) = ((nth b k).node)) ∧ (((nth a k).par) = ((nth b k).par))) := (And.imp (fun h => (of_decide_eq_true (notF h))) (fun h => (of_decide_eq_true (notF h))) (orF (notT hA)))
          exact R_loadA (cs := [[(.int .i64 (((nth a k).tm).T))], [(.int .i64 (((nth a k).tm).R))]]) Try.isAgg24 Try.sizeOf24 rfl (gv_t hA) ((Sl.elem ((H10.ext hv71).sl 3 rfl) (i := k) (by omega) rfl).chunks 4 2 4 ((ha.o + k * 8) + 4) _ rfl rfl rfl) ⟨rfl, Gr.refl _ _⟩) ?_
   refine Lx_qg (i := 30) true ((!(decide (((nth a k).node) = ((nth b k).node)))) || (!(decide (((nth a k).par) = ((nth b k).par))))) rfl rfl rfl rfl rfl (!((!(decide (((nth a k).node) = ((nth b k).node)))) || (!(decide (((nth a k).par) = ((nth b k).par)))))) ga_f _ (fun hA v72 hv73 => R_move (v := (slV hb b)) rfl ⟨rfl, Gr.refl _ _⟩) ?_
   refine Lx_qg (i := 31) true ((!(decide (((nth a k).node) = ((nth b k).node)))) || (!(decide (((nth a k).par) = ((nth b k).par))))) rfl rfl rfl rfl rfl (!((!(decide (((nth a k).node) = ((nth b k).node)))) || (!(decide (((nth a k).par) = ((nth b k).par)))))) ga_f _ (fun hA v74 hv75 => R_move (v := (.int .i64 ((k : Nat) : Int))) rfl ⟨rfl, Gr.refl _ _⟩) ?_
   refine Lx_qg (i := 32) true ((!(decide (((nth a k).node) = ((nth b k).node)))) || (!(decide (((nth a k).par) = ((nth b k).par))))) rfl rfl rfl rfl rfl (!((!(decide (((nth a k).node) = ((nth b k).node)))) || (!(decide (((nth a k).par) = ((nth b k).par)))))) ga_f _ (fun hA v76 hv77 => by
          have hP : ((((nth a k).node) = ((nth b k).node)) ∧ (((nth a k).par) = ((nth b k).par))) := (And.imp (fun h => (of_decide_eq_true (notF h))) (fun h => (of_decide_eq_true (notF h))) (orF (notT hA)))
          exact R_index_pure (H10.sl 1 rfl) (n := b.length) rfl (j := ((k : Nat) : Int)) (oo := (hb.o + k * 8)) Try.underlying22 Try.sizeOf44 (gv_t hA) (gv_t hA) (by omega) (by omega) rfl ⟨rfl, Gr.refl _ _⟩) ?_
   refine Lx_qg (i := 33) true ((!(decide (((nth a k).node) = ((nth b k).node)))) || (!(decide (((nth a k).par) = ((nth b k).par))))) rfl rfl rfl rfl rfl (!((!(decide (((nth a k).node) = ((nth b k).node)))) || (!(decide (((nth a k).par) = ((nth b k).par)))))) ga_f _ (fun hA v78 hv79 => R_fieldAddr (off := 4) (oo := ((hb.o + k * 8) + 4)) Try.underlying44 rfl rfl Try.sizeOf24 (gv_t hA) rfl ⟨rfl, Gr.refl _ _⟩) ?_
   refine Lx_qg (i := 34) true ((!(decide (((nth a k).node) = ((nth b k).node)))) || (!(decide (((nth a k).par) = ((nth b k).par))))) rfl rfl rfl rfl rfl (!((!(decide (((nth a k).node) = ((nth b k).node)))) || (!(decide (((nth a k).par) = ((nth b k).par)))))) ga_f _ (fun hA v80 hv81 => by
          have hP : ((((nth a k).node) = ((nth b k).node)) ∧ (((nth a k).par) = ((nth b k).par))) := (And.imp (fun h => (of_decide_eq_true (notF h))) (fun h => (of_decide_eq_true (notF h))) (orF (notT hA)))
          exact R_loadA (cs := [[(.int .i64 (((nth b k).tm).T))], [(.int .i64 (((nth b k).tm).R))]]) Try.isAgg24 Try.sizeOf24 rfl (gv_t hA) ((Sl.elem ((H10.ext hv81).sl 1 rfl) (i := k) (by omega) rfl).chunks 4 2 4 ((hb.o + k * 8) + 4) _ rfl rfl rfl) ⟨rfl, Gr.refl _ _⟩) ?_
   refine Lx_qg (i := 35) true ((!(decide (((nth a k).node) = ((nth b k).node)))) || (!(decide (((nth a k).par) = ((nth b k).par))))) rfl rfl rfl rfl rfl (!((!(decide (((nth a k).node) = ((nth b k).node)))) || (!(decide (((nth a k).par) = ((nth b k).par)))))) ga_f _ (fun hA v82 hv83 => R_nev (a := ((nth a k).tm)) (b := ((nth b k).tm)) eqv_Stamp24 rfl Try.eqGuardType24 (gv_t hA) (gv_t hA) ⟨rfl, Gr.refl _ _⟩) ?_
   refine Lx_q (i := 36) rfl rfl _ (fun v84 hv85 => R_pick (t := ((!(decide (((nth a k).node) = ((nth b k).node)))) || (!(decide (((nth a k).par) = ((nth b k).par)))))) (v := (.bool (((!(decide (((nth a k).node) = ((nth b k).node)))) || (!(decide (((nth a k).par) = ((nth b k).par))))) || (!(decide (((nth a k).tm) = ((nth b k).tm))))))) rfl pk_or ⟨rfl, Gr.refl _ _⟩) ?_
   refine Lx_q (i := 37) rfl rfl _ (fun v86 hv87 => R_move (v := (.bool (((!(decide (((nth a k).node) = ((nth b k).node)))) || (!(decide (((nth a k).par) = ((nth b k).par))))) || (!(decide (((nth a k).tm) = ((nth b k).tm))))))) rfl ⟨rfl, Gr.refl _ _⟩) ?_
   refine Lx_qg (i := 38) true (((!(decide (((nth a k).node) = ((nth b k).node)))) || (!(decide (((nth a k).par) = ((nth b k).par))))) || (!(decide (((nth a k).tm) = ((nth b k).tm))))) rfl rfl rfl rfl rfl (!(((!(decide (((nth a k).node) = ((nth b k).node)))) || (!(decide (((nth a k).par) = ((nth b k).par))))) || (!(decide (((nth a k).tm) = ((nth b k).tm)))))) ga_f _ (fun hA v88 hv89 => R_move (v := (slV ha a)) rfl ⟨rfl, Gr.refl _ _⟩) ?_
   refine Lx_qg (i := 39) true (((!(decide (((nth a k).node) = ((nth b k).node)))) || (!(decide (((nth a k).par) = ((nth b k).par))))) || (!(decide (((nth a k).tm) = ((nth b k).tm))))) rfl rfl rfl rfl rfl (!(((!(decide (((nth a k).node) = ((nth b k).node)))) || (!(decide (((nth a k).par) = ((nth b k).par))))) || (!(decide (((nth a k).tm) = ((nth b k).tm)))))) ga_f _ (fun hA v90 hv91 => R_move (v := (.int .i64 ((k : Nat) : Int))) rfl ⟨rfl, Gr.refl _ _⟩) ?_
   refine Lx_qg (i := 40) true (((!(decide (((nth a k).node) = ((nth b k).node)))) || (!(decide (((nth a k).par) = ((nth b k).par))))) || (!(decide (((nth a k).tm) = ((nth b k).tm))))) rfl rfl rfl rfl rfl (!(((!(decide (((nth a k).node) = ((nth b k).node)))) || (!(decide (((nth a k).par) = ((nth b k).par))))) || (!(decide (((nth a k).tm) = ((nth b k).tm)))))) ga_f _ (fun hA v92 hv93 => by
          have hP : (((((nth a k).node) = ((nth b k).node)) ∧ (((nth a k).par) = ((nth b k).par))) ∧ (((nth a k).tm) = ((nth b k).tm))) := (And.imp (fun h => (And.imp (fun h => (of_decide_eq_true (notF h))) (fun h => (of_decide_eq_true (notF h))) (orF h))) (fun h => (of_decide_eq_true (notF h))) (orF (notT hA)))
          exact R_index_pure (H10.sl 3 rfl) (n := a.length) rfl (j := ((k : Nat) : Int)) (oo := (ha.o + k * 8)) Try.underlying22 Try.sizeOf44 (gv_t hA) (gv_t hA) (by omega) (by omega) rfl ⟨rfl, Gr.refl _ _⟩) ?_
   refine Lx_qg (i := 41) true (((!(decide (((nth a k).node) = ((nth b k).node)))) || (!(decide (((nth a k).par) = ((nth b k).par))))) || (!(decide (((nth a k).tm) = ((nth b k).tm))))) rfl rfl rfl rfl rfl (!(((!(decide (((nth a k).node) = ((nth b k).node)))) || (!(decide (((nth a k).par) = ((nth b k).par))))) || (!(decide (((nth a k).tm) = ((nth b k).tm)))))) ga_f _ (fun hA v94 hv95 => R_fieldAddr (off := 6) (oo := ((ha.o + k * 8) + 6)) Try.underlying44 rfl rfl Try.sizeOf9 (gv_t hA) rfl ⟨rfl, Gr.refl _ _⟩) ?_
   refine Lx_qg (i := 42) true (((!(decide (((nth a k).node) = ((nth b k).node)))) || (!(decide (((nth a k).par) = ((nth b k).par))))) || (!(decide (((nth a k).tm) = ((nth b k).tm))))) rfl rfl rfl rfl rfl (!(((!(decide (((nth a k).node) = ((nth b k).node)))) || (!(decide (((nth a k).par) = ((nth b k).par))))) || (!(decide (((nth a k).tm) = ((nth b k).tm)))))) ga_f _ (fun hA v96 hv97 => by
          have hP : (((((nth a k).node) = ((nth b k).node)) ∧ (((nth a k).par) = ((nth b k).par))) ∧ (((nth a k).tm) = ((nth b k).tm))) := (And.imp (fun h => (And.imp (fun h => (of_decide_eq_true (notF h))) (fun h => (of_decide_eq_true (notF h))) (orF h))) (fun h => (of_decide_eq_true (notF h))) (orF (notT hA)))
          exact R_load1 (v := (.string ((nth a k).name))) Try.isAgg9 (gv_t hA) ((Sl.elem ((H10.ext hv97).sl 3 rfl) (i := k) (by omega) rfl).chunks 6 1 6 ((ha.o + k * 8) + 6) _ rfl rfl rfl) ⟨rfl, Gr.refl _ _⟩) ?_
   refine Lx_qg (i := 43) true (((!(decide (((nth a k).node) = ((nth b k).node)))) || (!(decide (((nth a k).par) = ((nth b k).par))))) || (!(decide (((nth a k).tm) = ((nth b k).tm))))) rfl rfl rfl rfl rfl (!(((!(decide (((nth a k).node) = ((nth b k).node)))) || (!(decide (((nth a k).par) = ((nth b k).par))))) || (!(decide (((nth a k).tm) = ((nth b k).tm)))))) ga_f _ (fun hA v98 hv99 => R_move (v := (slV hb b)) rfl ⟨rfl, Gr.refl _ _⟩) ?_
   refine Lx_qg (i := 44) true (((!(decide (((nth a k).node) = ((nth b k).node)))) || (!(decide (((nth a k).par) = ((nth b k).par))))) || (!(decide (((nth a k).tm) = ((nth b k).tm))))) rfl rfl rfl rfl rfl (!(((!(decide (((nth a k).node) = ((nth b k).node)))) || (!(decide (((nth a k).par) = ((nth b k).par))))) || (!(decide (((nth a k).tm) = ((nth b k).tm)))))) ga_f _ (fun hA v100 hv101 => R_move (v := (.int .i64 ((k : Nat) : Int))) rfl ⟨rfl, Gr.refl _ _⟩) ?_
   refine Lx_qg (i := 45) true (((!(decide (((nth a k).node) = ((nth b k).node)))) || (!(decide (((nth a k).par) = ((nth b k).par))))) || (!(decide (((nth a k).tm) = ((nth b k).tm))))) rfl rfl rfl rfl rfl (!(((!(decide (((nth a k).node) = ((nth b k).node)))) || (!(decide (((nth a k).par) = ((nth b k).par))))) || (!(decide (((nth a k).tm) = ((nth b k).tm)))))) ga_f _ (fun hA v102 hv103 => by
          have hP : (((((nth a k).node) = ((nth b k).node)) ∧ (((nth a k).par) = ((nth b k).par))) ∧ (((nth a k).tm) = ((nth b k).tm))) := (And.imp (fun h => (And.imp (fun h => (of_decide_eq_true (notF h))) (fun h => (of_decide_eq_true (notF h))) (orF h))) (fun h => (of_decide_eq_true (notF h))) (orF (notT hA)))
          exact R_index_pure (H10.sl 1 rfl) (n := b.length) rfl (j := ((k : Nat) : Int)) (oo := (hb.o + k * 8)) Try.underlying22 Try.sizeOf44 (gv_t hA) (gv_t hA) (by omega) (by omega) rfl ⟨rfl, Gr.refl _ _⟩) ?_
   refine Lx_qg (i := 46) true (((!(decide (((nth a k).node) = ((nth b k).node)))) || (!(decide (((nth a k).par) = ((nth b k).par))))) || (!(decide (((nth a k).tm) = ((nth b k).tm))))) rfl rfl rfl rfl rfl (!(((!(decide (((nth a k).node) = ((nth b k).node)))) || (!(decide (((nth a k).par) = ((nth b k).par))))) || (!(decide (((nth a k).tm) = ((nth b k).tm)))))) ga_f _ (fun hA v104 hv105 => R_fieldAddr (off := 6) (oo := ((hb.o + k * 8) + 6)) Try.underlying44 rfl rfl Try.sizeOf9 (gv_t hA) rfl ⟨rfl, Gr.refl _ _⟩) ?_
   refine Lx_qg (i := 47) true (((!(decide (((nth a k).node) = ((nth b k).node)))) || (!(decide (((nth a k).par) = ((nth b k).par))))) || (!(decide (((nth a k).tm) = ((nth b k).tm))))) rfl rfl rfl rfl rfl (!(((!(decide (((nth a k).node) = ((nth b k).node)))) || (!(decide (((nth a k).par) = ((nth b k).par))))) || (!(decide (((nth a k).tm) = ((nth b k).tm)))))) ga_f _ (fun hA v106 hv107 => by
          have hP : (((((nth a k).node) = ((nth b k).node)) ∧ (((nth a k).par) = ((nth b k).par))) ∧ (((nth a k).tm) = ((nth b k).tm))) := (And.imp (fun h => (And.imp (fun h => (of_decide_eq_true (notF h))) (fun h => (of_decide_eq_true (notF h))) (orF h))) (fun h => (of_decide_eq_true (notF h))) (orF (notT hA)))
          exact R_load1 (v := (.string ((nth b k).name))) Try.isAgg9 (gv_t hA) ((Sl.elem ((H10.ext hv107).sl 1 rfl) (i := k) (by omega) rfl).chunks 6 1 6 ((hb.o + k * 8) + 6) _ rfl rfl rfl) ⟨rfl, Gr.refl _ _⟩) ?_
   refine Lx_qg (i := 48) true (((!(decide (((nth a k).node) = ((nth b k).node)))) || (!(decide (((nth a k).par) = ((nth b k).par))))) || (!(decide (((nth a k).tm) = ((nth b k).tm))))) rfl rfl rfl rfl rfl (!(((!(decide (((nth a k).node) = ((nth b k).node)))) || (!(decide (((nth a k).par) = ((nth b k).par))))) || (!(decide (((nth a k).tm) = ((nth b k).tm)))))) ga_f _ (fun hA v108 hv109 => R_cmpS (a := (nth a k).name) (b := (nth b k).name) (r := (!(decide ((nth a k).name = (nth b k).name)))) (gv_t hA) (gv_t hA) rfl ⟨rfl, Gr.refl _ _⟩) ?_
   refine Lx_q (i := 49) rfl rfl _ (fun v110 hv111 => R_pick (t := (((!(decide (((nth a k).node) = ((nth b k).node)))) || (!(decide (((nth a k).par) = ((nth b k).par))))) || (!(decide (((nth a k).tm) = ((nth b k).tm)))))) (v := (.bool ((((!(decide (((nth a k).node) = ((nth b k).node)))) || (!(decide (((nth a k).par) = ((nth b k).par))))) || (!(decide (((nth a k).tm) = ((nth b k).tm))))) || (!(decide ((nth a k).name = (nth b k).name)))))) rfl pk_or ⟨rfl, Gr.refl _ _⟩) ?_
   refine Lx_q (i := 50) rfl rfl _ (fun v112 hv113 => R_move (v := (.bool ((((!(decide (((nth a k).node) = ((nth b k).node)))) || (!(decide (((nth a k).par) = ((nth b k).par))))) || (!(decide (((nth a k).tm) = ((nth b k).tm))))) || (!(decide ((nth a k).name = (nth b k).name)))))) rfl ⟨rfl, Gr.refl _ _⟩) ?_
   refine Lx_qg (i := 51) true ((((!(decide (((nth a k).node) = ((nth b k).node)))) || (!(decide (((nth a k).par) = ((nth b k).par))))) || (!(decide (((nth a k).tm) = ((nth b k).tm))))) || (!(decide ((nth a k).name = (nth b k).name)))) rfl rfl rfl rfl rfl (!((((!(decide (((nth a k).node) = ((nth b k).node)))) || (!(decide (((nth a k).par) = ((nth b k).par))))) || (!(decide (((nth a k).tm) = ((nth b k).tm))))) || (!(decide ((nth a k).name = (nth b k).name))))) ga_f _ (fun hA v114 hv115 => R_move (v := (slV ha a)) rfl ⟨rfl, Gr.refl _ _⟩) ?_
   refine Lx_qg (i := 52) true ((((!(decide (((nth a k).node) = ((nth b k).node)))) || (!(decide (((nth a k).par) = ((nth b k).par))))) || (!(decide (((nth a k).tm) = ((nth b k).tm))))) || (!(decide ((nth a k).name = (nth b k).name)))) rfl rfl rfl rfl rfl (!((((!(decide (((nth a k).node) = ((nth b k).node)))) || (!(decide (((nth a k).par) = ((nth b k).par))))) || (!(decide (((nth a k).tm) = ((nth b k).tm))))) || (!(decide ((nth a k).name = (nth b k).name))))) ga_f _ (fun hA v116 hv117 => R_move (v := (.int .i64 ((k : Nat) : Int))) rfl ⟨rfl, Gr.refl _ _⟩) ?_
   refine Lx_qg (i := 53) true ((((!(decide (((nth a k).node) = ((nth b k).node)))) || (!(decide (((nth a k).par) = ((nth b k).par))))) || (!(decide (((nth a k).tm) = ((nth b k).tm))))) || (!(decide ((nth a k).name = (nth b k).name)))) rfl rfl rfl rfl rfl (!((((!(decide (((nth a k).node) = ((nth b k).node)))) || (!(decide (((nth a k).par) = ((nth b k).par))))) || (!(decide (((nth a k).tm) = ((nth b k).tm))))) || (!(decide ((nth a k).name = (nth b k).name))))) ga_f _ (fun hA v118 hv119 => by
          have hP : ((((((nth a k).node) = ((nth b k).node)) ∧ (((nth a k).par) = ((nth b k).par))) ∧ (((nth a k).tm) = ((nth b k).tm))) ∧ ((nth a k).name = (nth b k).name)) := (And.imp (fun h => (And.imp (fun h => (And.imp (fun h => (of_decide_eq_true (notF h))) (fun h => (of_decide_eq_true (notF h))) (orF h))) (fun h => (of_decide_eq_true (notF h))) (orF h))) (fun h => (of_decide_eq_true (notF h))) (orF (notT hA)))
          exact R_index_pure (H10.sl 3 rfl) (n := a.length) rfl (j := ((k : Nat) : Int)) (oo := (ha.o + k * 8)) Try.underlying22 Try.sizeOf44 (gv_t hA) (gv_t hA) (by omega) (by omega) rfl ⟨rfl, Gr.refl _ _⟩) ?_
   refine Lx_qg (i := 54) true ((((!(decide (((nth a k).node) = ((nth b k).node)))) || (!(decide (((nth a k).par) = ((nth b k).par))))) || (!(decide (((nth a k).tm) = ((nth b k).tm))))) || (!(decide ((nth a k).name = (nth b k).name)))) rfl rfl rfl rfl rfl (!((((!(decide (((nth a k).node) = ((nth b k).node)))) || (!(decide (((nth a k).par) = ((nth b k).par))))) || (!(decide (((nth a k).tm) = ((nth b k).tm))))) || (!(decide ((nth a k).name = (nth b k).name))))) ga_f _ (fun hA v120 hv121 => R_fieldAddr (off := 7) (oo := ((ha.o + k * 8) + 7)) Try.underlying44 rfl rfl Try.sizeOf42 (gv_t hA) rfl ⟨rfl, Gr.refl _ _⟩) ?_
   refine Lx_qg (i := 55) true ((((!(decide (((nth a k).node) = ((nth b k).node)))) || (!(decide (((nth a k).par) = ((nth b k).par))))) || (!(decide (((nth a k).tm) = ((nth b k).tm))))) || (!(decide ((nth a k).name = (nth b k).name)))) rfl rfl rfl rfl rfl (!((((!(decide (((nth a k).node) = ((nth b k).node)))) || (!(decide (((nth a k).par) = ((nth b k).par))))) || (!(decide (((nth a k).tm) = ((nth b k).tm))))) || (!(decide ((nth a k).name = (nth b k).name))))) ga_f _ (fun hA v122 hv123 => by
          have hP : ((((((nth a k).node) = ((nth b k).node)) ∧ (((nth a k).par) = ((nth b k).par))) ∧ (((nth a k).tm) = ((nth b k).tm))) ∧ ((nth a k).name = (nth b k).name)) := (And.imp (fun h => (And.imp (fun h => (And.imp (fun h => (of_decide_eq_true (notF h))) (fun h => (of_decide_eq_true (notF h))) (orF h))) (fun h => (of_decide_eq_true (notF h))) (orF h))) (fun h => (of_decide_eq_true (notF h))) (orF (notT hA)))
          exact R_load1 (v := (slV ((nth a k).hh) ((nth a k).heads))) Try.isAgg42 (gv_t hA) ((Sl.elem ((H10.ext hv123).sl 3 rfl) (i := k) (by omega) rfl).chunks 7 1 7 ((ha.o + k * 8) + 7) _ rfl rfl rfl) ⟨rfl, Gr.refl _ _⟩) ?_
   refine Lx_qg (i := 56) true ((((!(decide (((nth a k).node) = ((nth b k).node)))) || (!(decide (((nth a k).par) = ((nth b k).par))))) || (!(decide (((nth a k).tm) = ((nth b k).tm))))) || (!(decide ((nth a k).name = (nth b k).name)))) rfl rfl rfl rfl rfl (!((((!(decide (((nth a k).node) = ((nth b k).node)))) || (!(decide (((nth a k).par) = ((nth b k).par))))) || (!(decide (((nth a k).tm) = ((nth b k).tm))))) || (!(decide ((nth a k).name = (nth b k).name))))) ga_f _ (fun hA v124 hv125 => R_move (v := (slV hb b)) rfl ⟨rfl, Gr.refl _ _⟩) ?_
   refine Lx_qg (i := 57) true ((((!(decide (((nth a k).node) = ((nth b k).node)))) || (!(decide (((nth a k).par) = ((nth b k).par))))) || (!(decide (((nth a k).tm) = ((nth b k).tm))))) || (!(decide ((nth a k).name = (nth b k).name)))) rfl rfl rfl rfl rfl (!((((!(decide (((nth a k).node) = ((nth b k).node)))) || (!(decide (((nth a k).par) = ((nth b k).par))))) || (!(decide (((nth a k).tm) = ((nth b k).tm))))) || (!(decide ((nth a k).name = (nth b k).name))))) ga_f _ (fun hA v126 hv127 => R_move (v := (.int .i64 ((k : Nat) : Int))) rfl ⟨rfl, Gr.refl _ _⟩) ?_
   refine Lx_qg (i := 58) true ((((!(decide (((nth a k).node) = ((nth b k).node)))) || (!(decide (((nth a k).par) = ((nth b k).par))))) || (!(decide (((nth a k).tm) = ((nth b k).tm))))) || (!(decide ((nth a k).name = (nth b k).name)))) rfl rfl rfl rfl rfl (!((((!(decide (((nth a k).node) = ((nth b k).node)))) || (!(decide (((nth a k).par) = ((nth b k).par))))) || (!(decide (((nth a k).tm) = ((nth b k).tm))))) || (!(decide ((nth a k).name = (nth b k).name))))) ga_f _ (fun hA v128 hv129 => by
          have hP : ((((((nth a k).node) = ((nth b k).node)) ∧ (((nth a k).par) = ((nth b k).par))) ∧ (((nth a k).tm) = ((nth b k).tm))) ∧ ((nth a k).name = (nth b k).name)) := (And.imp (fun h => (And.imp (fun h => (And.imp (fun h => (of_decide_eq_true (notF h))) (fun h => (of_decide_eq_true (notF h))) (orF h))) (fun h => (of_decide_eq_true (notF h))) (orF h))) (fun h => (of_decide_eq_true (notF h))) (orF (notT hA)))
          exact R_index_pure (H10.sl 1 rfl) (n := b.length) rfl (j := ((k : Nat) : Int)) (oo := (hb.o + k * 8)) Try.underlying22 Try.sizeOf44 (gv_t hA) (gv_t hA) (by omega) (by omega) rfl ⟨rfl, Gr.refl _ _⟩) ?_
   refine Lx_qg (i := 59) true ((((!(decide (((nth a k).node) = ((nth b k).node)))) || (!(decide (((nth a k).par) = ((nth b k).par))))) || (!(decide (((nth a k).tm) = ((nth b k).tm))))) || (!(decide ((nth a k).name = (nth b k).name)))) rfl rfl rfl rfl rfl (!((((!(decide (((nth a k).node) = ((nth b k).node)))) || (!(decide (((nth a k).par) = ((nth b k).par))))) || (!(decide (((nth a k).tm) = ((nth b k).tm))))) || (!(decide ((nth a k).name = (nth b k).name))))) ga_f _ (fun hA v130 hv131 => R_fieldAddr (off := 7) (oo := ((hb.o + k * 8) + 7)) Try.underlying44 rfl rfl Try.sizeOf42 (gv_t hA) rfl ⟨rfl, Gr.refl _ _⟩) ?_
   refine Lx_qg (i := 60) true ((((!(decide (((nth a k).node) = ((nth b k).node)))) || (!(decide (((nth a k).par) = ((nth b k).par))))) || (!(decide (((nth a k).tm) = ((nth b k).tm))))) || (!(decide ((nth a k).name = (nth b k).name)))) rfl rfl rfl rfl rfl (!((((!(decide (((nth a k).node) = ((nth b k).node)))) || (!(decide (((nth a k).par) = ((nth b k).par))))) || (!(decide (((nth a k).tm) = ((nth b k).tm))))) || (!(decide ((nth a k).name = (nth b k).name))))) ga_f _ (fun hA v132 hv133 => by
          have hP : ((((((nth a k).node) = ((nth b k).node)) ∧ (((nth a k).par) = ((nth b k).par))) ∧ (((nth a k).tm) = ((nth b k).tm))) ∧ ((nth a k).name = (nth b k).name)) := (And.imp (fun h => (And.imp (fun h => (And.imp (fun h => (of_decide_eq_true (notF h))) (fun h => (of_decide_eq_true (notF h))) (orF h))) (fun h => (of_decide_eq_true (notF h))) (orF h))) (fun h => (of_decide_eq_true (notF h))) (orF (notT hA)))
          exact R_load1 (v := (slV ((nth b k).hh) ((nth b k).heads))) Try.isAgg42 (gv_t hA) ((Sl.elem ((H10.ext hv133).sl 1 rfl) (i := k) (by omega) rfl).chunks 7 1 7 ((hb.o + k * 8) + 7) _ rfl rfl rfl) ⟨rfl, Gr.refl _ _⟩) ?_
   refine Lx_qg (i := 61) true ((((!(decide (((nth a k).node) = ((nth b k).node)))) || (!(decide (((nth a k).par) = ((nth b k).par))))) || (!(decide (((nth a k).tm) = ((nth b k).tm))))) || (!(decide ((nth a k).name = (nth b k).name)))) rfl rfl rfl rfl rfl (!((((!(decide (((nth a k).node) = ((nth b k).node)))) || (!(decide (((nth a k).par) = ((nth b k).par))))) || (!(decide (((nth a k).tm) = ((nth b k).tm))))) || (!(decide ((nth a k).name = (nth b k).name))))) ga_f (.bool (decide (((nth a k).heads) = ((nth b k).heads)))) (fun hA v134 hv135 => by
          have hP : ((((((nth a k).node) = ((nth b k).node)) ∧ (((nth a k).par) = ((nth b k).par))) ∧ (((nth a k).tm) = ((nth b k).tm))) ∧ ((nth a k).name = (nth b k).name)) := (And.imp (fun h => (And.imp (fun h => (And.imp (fun h => (of_decide_eq_true (notF h))) (fun h => (of_decide_eq_true (notF h))) (orF h))) (fun h => (of_decide_eq_true (notF h))) (orF h))) (fun h => (of_decide_eq_true (notF h))) (orF (notT hA)))
          exact R_callL (vs := [(slV ((nth a k).hh) ((nth a k).heads)), (slV ((nth b k).hh) ((nth b k).heads))]) ref12_Same_c23 rfl (lst2 (gv_t hA) (gv_t hA)) (ref04_SameHeads ((nth a k).hh) ((nth a k).heads) ((nth b k).hh) ((nth b k).heads) v134 ((H10.ext hv135).deepOld 2 rfl _ (nth_mem (by omega))) ((H10.ext hv135).deepOld 0 rfl _ (nth_mem (by omega))))) ?_
   refine Lx_qg (i := 62) true ((((!(decide (((nth a k).node) = ((nth b k).node)))) || (!(decide (((nth a k).par) = ((nth b k).par))))) || (!(decide (((nth a k).tm) = ((nth b k).tm))))) || (!(decide ((nth a k).name = (nth b k).name)))) rfl rfl rfl rfl rfl (!((((!(decide (((nth a k).node) = ((nth b k).node)))) || (!(decide (((nth a k).par) = ((nth b k).par))))) || (!(decide (((nth a k).tm) = ((nth b k).tm))))) || (!(decide ((nth a k).name = (nth b k).name))))) ga_f _ (fun hA v136 hv137 => R_not (gv_t hA) ⟨rfl, Gr.refl _ _⟩) ?_
   refine Lx_q (i := 63) rfl rfl _ (fun v138 hv139 => R_pick (t := ((((!(decide (((nth a k).node) = ((nth b k).node)))) || (!(decide (((nth a k).par) = ((nth b k).par))))) || (!(decide (((nth a k).tm) = ((nth b k).tm))))) || (!(decide ((nth a k).name = (nth b k).name))))) (v := (.bool (((((!(decide (((nth a k).node) = ((nth b k).node)))) || (!(decide (((nth a k).par) = ((nth b k).par))))) || (!(decide (((nth a k).tm) = ((nth b k).tm))))) || (!(decide ((nth a k).name = (nth b k).name)))) || (!(decide (((nth a k).heads) = ((nth b k).heads))))))) rfl pk_or ⟨rfl, Gr.refl _ _⟩) ?_
   refine Lx_nil (fun w140 hw141 => ?_)
   have H142 := H10.ext hw141
   refine Then_n ?_
   refine W_cond (t := (((((!(decide (((nth a k).node) = ((nth b k).node)))) || (!(decide (((nth a k).par) = ((nth b k).par))))) || (!(decide (((nth a k).tm) = ((nth b k).tm))))) || (!(decide ((nth a k).name = (nth b k).name)))) || (!(decide (((nth a k).heads) = ((nth b k).heads)))))) rfl (fun hc143 => ?_) (fun hc143 => ?_)
   ·have hc143 : ((((¬ (((nth a k).node) = ((nth b k).node)) ∨ ¬ (((nth a k).par) = ((nth b k).par))) ∨ ¬ (((nth a k).tm) = ((nth b k).tm))) ∨ ¬ ((nth a k).name = (nth b k).name)) ∨ ¬ (((nth a k).heads) = ((nth b k).heads))) := (Or.imp (fun h => (Or.imp (fun h => (Or.imp (fun h => (Or.imp (fun h => (of_decide_eq_false (notT h))) (fun h => (of_decide_eq_false (notT h))) (orT h))) (fun h => (of_decide_eq_false (notT h))) (orT h))) (fun h => (of_decide_eq_false (notT h))) (orT h))) (fun h => (of_decide_eq_false (notT h))) (orT hc143))
    refine W_seq (W_reg ?_)
    refine O_v rfl (R_assign (v := (.bool false)) rfl ?_)
    refine O_nil (Then_n (W_ret (Blk_r (Then_r (Then_r (Blk_r (Then_r ?_)))))))
    refine ret_1 (v := (.bool false)) Try.results7 rfl ?_
    exact ⟨(sameRows_f (k := k) (by omega) (core_ne (by assumption))), H142.gr⟩
   ·have hc143 : (((((((nth a k).node) = ((nth b k).node)) ∧ (((nth a k).par) = ((nth b k).par))) ∧ (((nth a k).tm) = ((nth b k).tm))) ∧ ((nth a k).name = (nth b k).name)) ∧ (((nth a k).heads) = ((nth b k).heads))) := (And.imp (fun h => (And.imp (fun h => (And.imp (fun h => (And.imp (fun h => (of_decide_eq_true (notF h))) (fun h => (of_decide_eq_true (notF h))) (orF h))) (fun h => (of_decide_eq_true (notF h))) (orF h))) (fun h => (of_decide_eq_true (notF h))) (orF h))) (fun h => (of_decide_eq_true (notF h))) (orF hc143))
    refine W_skip (Blk_n (Then_n (W_reg ?_)))
    refine O_v rfl (R_move (v := (.int .i64 ((k : Nat) : Int))) rfl ?_)
    refine O_v rfl (R_arith (a := ((k : Nat) : Int)) (b := 1) (r0 := ((k : Nat) : Int) + 1) (r := ((k + 1 : Nat) : Int)) rfl rfl rfl (wrapN _ (by omega)) ?_)
    refine O_v rfl (R_assign (v := (.int .i64 ((k + 1 : Nat) : Int))) rfl ?_)
    refine O_nil (Then_n ?_)
    refine ⟨_, ?_, (k + 1), rfl, (by omega), (all_succ hn (core_eq (by assumption))), _, envL_self ⟨rfl, rfl, rfl, trivial⟩, H142⟩
    omega
  ·have hc11 : ¬ (((k : Nat) : Int) < ((a.length : Nat) : Int)) := (of_decide_eq_false hc11)
   refine W_exit (Then_x (Then_x (Blk_x (Then_n (W_seq (W_reg ?_))))))
   refine O_v rfl (R_assign (v := (.bool true)) rfl ?_)
   refine O_nil (Then_n (W_ret ?_))
   refine ret_1 (v := (.bool true)) Try.results7 rfl ?_
   exact ⟨(sameRows_t (by omega) (by rwa [show a.length = k from by omega])), H10.gr⟩

end Go.Proofs.Ytiknfldhommmpaa
namespace Go.Proofs.Ytiknfldhommmpaa
open Go
set_option maxRecDepth 100000
set_option linter.unusedVariables false
set_option linter.unusedSimpArgs false
set_option maxHeartbeats 1000000 in
theorem ref03_Cmp (a : Stamp) (b : Stamp) (w : World) :
    Calls Try.prog 21 #[(aggOf (stampCh a)), (aggOf (stampCh b))] w (Ret fun v w' => v = (.int .i64 (cmpSt a b)) ∧ Ext w w') := by
 refine calls_W Try.func21 rfl Try.ntmps21 rfl ?_
 have H0 := Ctx.start w nob
 refine W_seq (W_reg ?_)
 refine O_v rfl (C_box H0 [[(.int .i64 a.T)], [(.int .i64 a.R)]] rfl ?_)
 intro b1 w2 hb3 hx4 H5
 refine O_v rfl (C_box H5 [[(.int .i64 b.T)], [(.int .i64 b.R)]] rfl ?_)
 intro b6 w7 hb8 hx9 H10
 refine O_v rfl (R_assign (v := (.int .i64 0)) rfl ?_)
 refine O_nil (Then_n (W_seq (W_seq ?_)))
 refine W_rg [(0, .q false), (1, .q false), (2, .q false), (3, .q false), (4, .q false), (5, .q false), (6, .q false), (7, .q false), (8, .q false), (9, .q false), (10, .q false), (11, .q false), (12, .q false), (13, .q false), (14, .q false), (15, .q false), (16, .q false), (17, .q false), (18, .q false)] (by kernel_rfl) ?_
 refine Lx_q (i := 0) rfl rfl _ (fun v11 hv12 => R_fieldAddr (off := 0) (oo := 0) Try.underlying24 rfl rfl Try.sizeOf2 rfl rfl ⟨rfl, Gr.refl _ _⟩) ?_
 refine Lx_q (i := 1) rfl rfl _ (fun v13 hv14 => R_load1 (v := (.int .i64 a.T)) Try.isAgg2 rfl ((boxR_at ((H10.ext hv14).getOwn 1 rfl)).chunks 0 1 0 0 _ rfl rfl rfl) ⟨rfl, Gr.refl _ _⟩) ?_
 refine Lx_q (i := 2) rfl rfl _ (fun v15 hv16 => R_fieldAddr (off := 0) (oo := 0) Try.underlying24 rfl rfl Try.sizeOf2 rfl rfl ⟨rfl, Gr.refl _ _⟩) ?_
 refine Lx_q (i := 3) rfl rfl _ (fun v17 hv18 => R_load1 (v := (.int .i64 b.T)) Try.isAgg2 rfl ((boxR_at ((H10.ext hv18).getOwn 0 rfl)).chunks 0 1 0 0 _ rfl rfl rfl) ⟨rfl, Gr.refl _ _⟩) ?_
 refine Lx_q (i := 4) rfl rfl _ (fun v19 hv20 => R_cmp (a := a.T) (b := b.T) (r := (decide (a.T < b.T))) rfl rfl rfl ⟨rfl, Gr.refl _ _⟩) ?_
 refine Lx_q (i := 5) rfl rfl _ (fun v21 hv22 => R_move (v := (.bool (decide (a.T < b.T)))) rfl ⟨rfl, Gr.refl _ _⟩) ?_
 refine Lx_qg (i := 6) true (decide (a.T < b.T)) rfl rfl rfl rfl rfl (!(decide (a.T < b.T))) ga_f _ (fun hA v23 hv24 => R_fieldAddr (off := 0) (oo := 0) Try.underlying24 rfl rfl Try.sizeOf2 rfl rfl ⟨rfl, Gr.refl _ _⟩) ?_
 refine Lx_qg (i := 7) true (decide (a.T < b.T)) rfl rfl rfl rfl rfl (!(decide (a.T < b.T))) ga_f _ (fun hA v25 hv26 => R_load1 (v := (.int .i64 a.T)) Try.isAgg2 (gv_t hA) ((boxR_at ((H10.ext hv26).getOwn 1 rfl)).chunks 0 1 0 0 _ rfl rfl rfl) ⟨rfl, Gr.refl _ _⟩) ?_
 refine Lx_qg (i := 8) true (decide (a.T < b.T)) rfl rfl rfl rfl rfl (!(decide (a.T < b.T))) ga_f _ (fun hA v27 hv28 => R_fieldAddr (off := 0) (oo := 0) Try.underlying24 rfl rfl Try.sizeOf2 rfl rfl ⟨rfl, Gr.refl _ _⟩) ?_
 refine Lx_qg (i := 9) true (decide (a.T < b.T)) rfl rfl rfl rfl rfl (!(decide (a.T < b.T))) ga_f _ (fun hA v29 hv30 => R_load1 (v := (.int .i64 b.T)) Try.isAgg2 (gv_t hA) ((boxR_at ((H10.ext hv30).getOwn 0 rfl)).chunks 0 1 0 0 _ rfl rfl rfl) ⟨rfl, Gr.refl _ _⟩) ?_
 refine Lx_qg (i := 10) true (decide (a.T < b.T)) rfl rfl rfl rfl rfl (!(decide (a.T < b.T))) ga_f _ (fun hA v31 hv32 => R_cmp (a := a.T) (b := b.T) (r := (decide (a.T = b.T))) (gv_t hA) (gv_t hA) rfl ⟨rfl, Gr.refl _ _⟩) ?_
 refine Lx_qg (i := 11) true (decide (a.T < b.T)) rfl rfl rfl rfl rfl (!(decide (a.T < b.T))) ga_f _ (fun hA v33 hv34 => R_move (v := (.bool (decide (a.T = b.T)))) (gv_t hA) ⟨rfl, Gr.refl _ _⟩) ?_
 refine Lx_qg (i := 12) (!(decide (a.T < b.T))) (decide (a.T = b.T)) rfl rfl rfl rfl rfl ((!(decide (a.T < b.T))) && (decide (a.T = b.T))) gb_t _ (fun hA v35 hv36 => R_fieldAddr (off := 1) (oo := 1) Try.underlying24 rfl rfl Try.sizeOf3 rfl rfl ⟨rfl, Gr.refl _ _⟩) ?_
 refine Lx_qg (i := 13) (!(decide (a.T < b.T))) (decide (a.T = b.T)) rfl rfl rfl rfl rfl ((!(decide (a.T < b.T))) && (decide (a.T = b.T))) gb_t _ (fun hA v37 hv38 => R_load1 (v := (.int .i64 a.R)) Try.isAgg3 (gv_t hA) ((boxR_at ((H10.ext hv38).getOwn 1 rfl)).chunks 1 1 1 1 _ rfl rfl rfl) ⟨rfl, Gr.refl _ _⟩) ?_
 refine Lx_qg (i := 14) (!(decide (a.T < b.T))) (decide (a.T = b.T)) rfl rfl rfl rfl rfl ((!(decide (a.T < b.T))) && (decide (a.T = b.T))) gb_t _ (fun hA v39 hv40 => R_fieldAddr (off := 1) (oo := 1) Try.underlying24 rfl rfl Try.sizeOf3 rfl rfl ⟨rfl, Gr.refl _ _⟩) ?_
 refine Lx_qg (i := 15) (!(decide (a.T < b.T))) (decide (a.T = b.T)) rfl rfl rfl rfl rfl ((!(decide (a.T < b.T))) && (decide (a.T = b.T))) gb_t _ (fun hA v41 hv42 => R_load1 (v := (.int .i64 b.R)) Try.isAgg3 (gv_t hA) ((boxR_at ((H10.ext hv42).getOwn 0 rfl)).chunks 1 1 1 1 _ rfl rfl rfl) ⟨rfl, Gr.refl _ _⟩) ?_
 refine Lx_qg (i := 16) (!(decide (a.T < b.T))) (decide (a.T = b.T)) rfl rfl rfl rfl rfl ((!(decide (a.T < b.T))) && (decide (a.T = b.T))) gb_t _ (fun hA v43 hv44 => R_cmp (a := a.R) (b := b.R) (r := (decide (a.R < b.R))) (gv_t hA) (gv_t hA) rfl ⟨rfl, Gr.refl _ _⟩) ?_
 refine Lx_qg (i := 17) true (decide (a.T < b.T)) rfl rfl rfl rfl rfl (!(decide (a.T < b.T))) ga_f _ (fun hA v45 hv46 => R_pick (t := (decide (a.T = b.T))) (v := (.bool ((decide (a.T = b.T)) && (decide (a.R < b.R))))) (gv_t hA) (pk_andA hA) ⟨rfl, Gr.refl _ _⟩) ?_
 refine Lx_q (i := 18) rfl rfl _ (fun v47 hv48 => R_pick (t := (decide (a.T < b.T))) (v := (.bool ((decide (a.T < b.T)) || ((decide (a.T = b.T)) && (decide (a.R < b.R)))))) rfl pk_or ⟨rfl, Gr.refl _ _⟩) ?_
 refine Lx_nil (fun w49 hw50 => ?_)
 have H51 := H10.ext hw50
 refine Then_n ?_
 refine W_cond (t := ((decide (a.T < b.T)) || ((decide (a.T = b.T)) && (decide (a.R < b.R))))) rfl (fun hc52 => ?_) (fun hc52 => ?_)
 ·have hc52 : ((a.T < b.T) ∨ ((a.T = b.T) ∧ (a.R < b.R))) := (Or.imp (fun h => (of_decide_eq_true h)) (fun h => (And.imp (fun h => (of_decide_eq_true h)) (fun h => (of_decide_eq_true h)) (andT h))) (orT hc52))
  refine W_seq (W_reg ?_)
  refine O_v rfl (R_assign (v := (.int .i64 (-1))) rfl ?_)
  refine O_nil (Then_n (W_ret (Then_r ?_)))
  refine ret_1 (v := (.int .i64 (-1))) Try.results21 rfl ?_
  exact ⟨(by rw [cmpSt_lt (by omega)]), H51.gr⟩
 ·have hc52 : (¬ (a.T < b.T) ∧ (¬ (a.T = b.T) ∨ ¬ (a.R < b.R))) := (And.imp (fun h => (of_decide_eq_false h)) (fun h => (Or.imp (fun h => (of_decide_eq_false h)) (fun h => (of_decide_eq_false h)) (andF h))) (orF hc52))
  refine W_skip (Then_n (W_seq (W_seq ?_)))
  refine W_rg [(0, .q false), (1, .q false), (2, .q false), (3, .q false), (4, .q false), (5, .q false), (6, .q false), (7, .q false), (8, .q false), (9, .q false), (10, .q false), (11, .q false)] (by kernel_rfl) ?_
  refine Lx_q (i := 0) rfl rfl _ (fun v53 hv54 => R_fieldAddr (off := 0) (oo := 0) Try.underlying24 rfl rfl Try.sizeOf2 rfl rfl ⟨rfl, Gr.refl _ _⟩) ?_
  refine Lx_q (i := 1) rfl rfl _ (fun v55 hv56 => R_load1 (v := (.int .i64 a.T)) Try.isAgg2 rfl ((boxR_at ((H51.ext hv56).getOwn 1 rfl)).chunks 0 1 0 0 _ rfl rfl rfl) ⟨rfl, Gr.refl _ _⟩) ?_
  refine Lx_q (i := 2) rfl rfl _ (fun v57 hv58 => R_fieldAddr (off := 0) (oo := 0) Try.underlying24 rfl rfl Try.sizeOf2 rfl rfl ⟨rfl, Gr.refl _ _⟩) ?_
  refine Lx_q (i := 3) rfl rfl _ (fun v59 hv60 => R_load1 (v := (.int .i64 b.T)) Try.isAgg2 rfl ((boxR_at ((H51.ext hv60).getOwn 0 rfl)).chunks 0 1 0 0 _ rfl rfl rfl) ⟨rfl, Gr.refl _ _⟩) ?_
  refine Lx_q (i := 4) rfl rfl _ (fun v61 hv62 => R_cmp (a := a.T) (b := b.T) (r := (decide (a.T = b.T))) rfl rfl rfl ⟨rfl, Gr.refl _ _⟩) ?_
  refine Lx_q (i := 5) rfl rfl _ (fun v63 hv64 => R_move (v := (.bool (decide (a.T = b.T)))) rfl ⟨rfl, Gr.refl _ _⟩) ?_
  refine Lx_qg (i := 6) true (decide (a.T = b.T)) rfl rfl rfl rfl rfl (decide (a.T = b.T)) ga_t _ (fun hA v65 hv66 => R_fieldAddr (off := 1) (oo := 1) Try.underlying24 rfl rfl Try.sizeOf3 rfl rfl ⟨rfl, Gr.refl _ _⟩) ?_
  refine Lx_qg (i := 7) true (decide (a.T = b.T)) rfl rfl rfl rfl rfl (decide (a.T = b.T)) ga_t _ (fun hA v67 hv68 => R_load1 (v := (.int .i64 a.R)) Try.isAgg3 (gv_t hA) ((boxR_at ((H51.ext hv68).getOwn 1 rfl)).chunks 1 1 1 1 _ rfl rfl rfl) ⟨rfl, Gr.refl _ _⟩) ?_
  refine Lx_qg (i := 8) true (decide (a.T = b.T)) rfl rfl rfl rfl rfl (decide (a.T = b.T)) ga_t _ (fun hA v69 hv70 => R_fieldAddr (off := 1) (oo := 1) Try.underlying24 rfl rfl Try.sizeOf3 rfl rfl ⟨rfl, Gr.refl _ _⟩) ?_
  refine Lx_qg (i := 9) true (decide (a.T = b.T)) rfl rfl rfl rfl rfl (decide (a.T = b.T)) ga_t _ (fun hA v71 hv72 => R_load1 (v := (.int .i64 b.R)) Try.isAgg3 (gv_t hA) ((boxR_at ((H51.ext hv72).getOwn 0 rfl)).chunks 1 1 1 1 _ rfl rfl rfl) ⟨rfl, Gr.refl _ _⟩) ?_
  refine Lx_qg (i := 10) true (decide (a.T = b.T)) rfl rfl rfl rfl rfl (decide (a.T = b.T)) ga_t _ (fun hA v73 hv74 => R_cmp (a := a.R) (b := b.R) (r := (decide (a.R = b.R))) (gv_t hA) (gv_t hA) rfl ⟨rfl, Gr.refl _ _⟩) ?_
  refine Lx_q (i := 11) rfl rfl _ (fun v75 hv76 => R_pick (t := (decide (a.T = b.T))) (v := (.bool ((decide (a.T = b.T)) && (decide (a.R = b.R))))) rfl pk_and ⟨rfl, Gr.refl _ _⟩) ?_
  refine Lx_nil (fun w77 hw78 => ?_)
  have H79 := H51.ext hw78
  refine Then_n ?_
  refine W_cond (t := ((decide (a.T = b.T)) && (decide (a.R = b.R)))) rfl (fun hc80 => ?_) (fun hc80 => ?_)
  ·have hc80 : ((a.T = b.T) ∧ (a.R = b.R)) := (And.imp (fun h => (of_decide_eq_true h)) (fun h => (of_decide_eq_true h)) (andT hc80))
   refine W_seq (W_reg ?_)
   refine O_v rfl (R_assign (v := (.int .i64 0)) rfl ?_)
   refine O_nil (Then_n (W_ret (Then_r ?_)))
   refine ret_1 (v := (.int .i64 0)) Try.results21 rfl ?_
   exact ⟨(by rw [cmpSt_eq (by omega) (by omega)]), H79.gr⟩
  ·have hc80 : (¬ (a.T = b.T) ∨ ¬ (a.R = b.R)) := (Or.imp (fun h => (of_decide_eq_false h)) (fun h => (of_decide_eq_false h)) (andF hc80))
   refine W_skip (Then_n (W_seq (W_reg ?_)))
   refine O_v rfl (R_assign (v := (.int .i64 1)) rfl ?_)
   refine O_nil (Then_n (W_ret ?_))
   refine ret_1 (v := (.int .i64 1)) Try.results21 rfl ?_
   exact ⟨(by rw [cmpSt_gt (by omega) (by omega)]), H79.gr⟩

end Go.Proofs.Ytiknfldhommmpaa
namespace Go.Proofs.Ytiknfldhommmpaa
open Go
set_option maxRecDepth 100000
set_option linter.unusedVariables false
set_option linter.unusedSimpArgs false
set_option maxHeartbeats 1000000 in
theorem ref03_Name (s : ByteArray) (w : World) (hl : s.size ≤ 9223372036854775807) :
    Calls Try.prog 39 #[(.string s)] w (Ret fun v w' => v = (.bool (nameOk s)) ∧ Ext w w') := by
 refine calls_W Try.func39 rfl Try.ntmps39 rfl ?_
 have H0 := Ctx.start w nob
 refine W_seq (W_reg ?_)
 refine O_v rfl (R_assign (v := (.bool false)) rfl ?_)
 refine O_nil (Then_n (W_seq (W_seq (W_reg ?_))))
 refine O_v rfl (R_assign (v := (.int .i64 0)) rfl ?_)
 refine O_nil (Then_n (W_block ?_))
 refine W_loop (fun m1 e2 w3 => ∃ (k : Nat), m1 = s.size - k ∧ (k ≤ s.size) ∧ (∀ j, j < k → badByte (sbyte s j) = false) ∧ ∃ eb4, e2 = envL [(0, (.string s)), (3, (.int .i64 ((k : Nat) : Int)))] eb4 ∧ Ctx w nob w3 [] []) _ ⟨0, rfl, (by omega), (all_zero _), _, envL_self ⟨rfl, rfl, trivial⟩, H0⟩ ?_
 rintro m1 _ w3 ⟨k, rfl, hk, hn, eb4, rfl, H5⟩
 refine W_seq (W_seq (W_reg ?_))
 refine O_v rfl (R_move (v := (.int .i64 ((k : Nat) : Int))) rfl ?_)
 refine O_v rfl (R_move (v := (.string s)) rfl ?_)
 refine O_v rfl (R_len_string Try.underlying9 rfl ?_)
 refine O_v rfl (R_cmp (a := ((k : Nat) : Int)) (b := ((s.size : Nat) : Int)) (r := (decide (((k : Nat) : Int) < ((s.size : Nat) : Int)))) rfl rfl rfl ?_)
 refine O_nil (Then_n ?_)
 refine W_cond (t := (decide (((k : Nat) : Int) < ((s.size : Nat) : Int)))) rfl (fun hc6 => ?_) (fun hc6 => ?_)
 ·have hc6 : (((k : Nat) : Int) < ((s.size : Nat) : Int)) := (of_decide_eq_true hc6)
  refine W_skip (Then_n (W_seq (W_block (W_seq ?_))))
  refine W_rg [(0, .q false), (1, .q false), (2, .q false), (3, .q false), (4, .q false), (5, .q false), (6, .q false), (7, .q false), (8, .q false), (9, .q false), (10, .q false), (11, .q false), (12, .q false), (13, .q false), (14, .q false), (15, .q false)] (by kernel_rfl) ?_
  refine Lx_q (i := 0) rfl rfl _ (fun v7 hv8 => R_move (v := (.string s)) rfl ⟨rfl, Gr.refl _ _⟩) ?_
  refine Lx_q (i := 1) rfl rfl _ (fun v9 hv10 => R_move (v := (.int .i64 ((k : Nat) : Int))) rfl ⟨rfl, Gr.refl _ _⟩) ?_
  refine Lx_q (i := 2) rfl rfl _ (fun v11 hv12 => R_index_s (s := s) (k := k) Try.underlying9 rfl rfl rfl (by omega) ⟨rfl, Gr.refl _ _⟩) ?_
  refine Lx_q (i := 3) rfl rfl _ (fun v13 hv14 => R_cmp (a := ((sbyte s k).toNat : Int)) (b := 0) (r := (decide (((sbyte s k).toNat : Int) = 0))) rfl rfl rfl ⟨rfl, Gr.refl _ _⟩) ?_
  refine Lx_q (i := 4) rfl rfl _ (fun v15 hv16 => R_move (v := (.bool (decide (((sbyte s k).toNat : Int) = 0)))) rfl ⟨rfl, Gr.refl _ _⟩) ?_
  refine Lx_qg (i := 5) true (decide (((sbyte s k).toNat : Int) = 0)) rfl rfl rfl rfl rfl (!(decide (((sbyte s k).toNat : Int) = 0))) ga_f _ (fun hA v17 hv18 => R_move (v := (.string s)) rfl ⟨rfl, Gr.refl _ _⟩) ?_
  refine Lx_qg (i := 6) true (decide (((sbyte s k).toNat : Int) = 0)) rfl rfl rfl rfl rfl (!(decide (((sbyte s k).toNat : Int) = 0))) ga_f _ (fun hA v19 hv20 => R_move (v := (.int .i64 ((k : Nat) : Int))) rfl ⟨rfl, Gr.refl _ _⟩) ?_
  refine Lx_qg (i := 7) true (decide (((sbyte s k).toNat : Int) = 0)) rfl rfl rfl rfl rfl (!(decide (((sbyte s k).toNat : Int) = 0))) ga_f _ (fun hA v21 hv22 => by
        have hP : ¬ (((sbyte s k).toNat : Int) = 0) := (of_decide_eq_false (notT hA))
        exact R_index_s (s := s) (k := k) Try.underlying9 (gv_t hA) (gv_t hA) rfl (by omega) ⟨rfl, Gr.refl _ _⟩) ?_
  refine Lx_qg (i := 8) true (decide (((sbyte s k).toNat : Int) = 0)) rfl rfl rfl rfl rfl (!(decide (((sbyte s k).toNat : Int) = 0))) ga_f _ (fun hA v23 hv24 => R_cmp (a := ((sbyte s k).toNat : Int)) (b := 47) (r := (decide (((sbyte s k).toNat : Int) = 47))) (gv_t hA) rfl rfl ⟨rfl, Gr.refl _ _⟩) ?_
  refine Lx_q (i := 9) rfl rfl _ (fun v25 hv26 => R_pick (t := (decide (((sbyte s k).toNat : Int) = 0))) (v := (.bool ((decide (((sbyte s k).toNat : Int) = 0)) || (decide (((sbyte s k).toNat : Int) = 47))))) rfl pk_or ⟨rfl, Gr.refl _ _⟩) ?_
  refine Lx_q (i := 10) rfl rfl _ (fun v27 hv28 => R_move (v := (.bool ((decide (((sbyte s k).toNat : Int) = 0)) || (decide (((sbyte s k).toNat : Int) = 47))))) rfl ⟨rfl, Gr.refl _ _⟩) ?_
  refine Lx_qg (i := 11) true ((decide (((sbyte s k).toNat : Int) = 0)) || (decide (((sbyte s k).toNat : Int) = 47))) rfl rfl rfl rfl rfl (!((decide (((sbyte s k).toNat : Int) = 0)) || (decide (((sbyte s k).toNat : Int) = 47)))) ga_f _ (fun hA v29 hv30 => R_move (v := (.string s)) rfl ⟨rfl, Gr.refl _ _⟩) ?_
  refine Lx_qg (i := 12) true ((decide (((sbyte s k).toNat : Int) = 0)) || (decide (((sbyte s k).toNat : Int) = 47))) rfl rfl rfl rfl rfl (!((decide (((sbyte s k).toNat : Int) = 0)) || (decide (((sbyte s k).toNat : Int) = 47)))) ga_f _ (fun hA v31 hv32 => R_move (v := (.int .i64 ((k : Nat) : Int))) rfl ⟨rfl, Gr.refl _ _⟩) ?_
  refine Lx_qg (i := 13) true ((decide (((sbyte s k).toNat : Int) = 0)) || (decide (((sbyte s k).toNat : Int) = 47))) rfl rfl rfl rfl rfl (!((decide (((sbyte s k).toNat : Int) = 0)) || (decide (((sbyte s k).toNat : Int) = 47)))) ga_f _ (fun hA v33 hv34 => by
        have hP : (¬ (((sbyte s k).toNat : Int) = 0) ∧ ¬ (((sbyte s k).toNat : Int) = 47)) := (And.imp (fun h => (of_decide_eq_false h)) (fun h => (of_decide_eq_false h)) (orF (notT hA)))
        exact R_index_s (s := s) (k := k) Try.underlying9 (gv_t hA) (gv_t hA) rfl (by omega) ⟨rfl, Gr.refl _ _⟩) ?_
  refine Lx_qg (i := 14) true ((decide (((sbyte s k).toNat : Int) = 0)) || (decide (((sbyte s k).toNat : Int) = 47))) rfl rfl rfl rfl rfl (!((decide (((sbyte s k).toNat : Int) = 0)) || (decide (((sbyte s k).toNat : Int) = 47)))) ga_f _ (fun hA v35 hv36 => R_cmp (a := ((sbyte s k).toNat : Int)) (b := 10) (r := (decide (((sbyte s k).toNat : Int) = 10))) (gv_t hA) rfl rfl ⟨rfl, Gr.refl _ _⟩) ?_
  refine Lx_q (i := 15) rfl rfl _ (fun v37 hv38 => R_pick (t := ((decide (((sbyte s k).toNat : Int) = 0)) || (decide (((sbyte s k).toNat : Int) = 47)))) (v := (.bool (((decide (((sbyte s k).toNat : Int) = 0)) || (decide (((sbyte s k).toNat : Int) = 47))) || (decide (((sbyte s k).toNat : Int) = 10))))) rfl pk_or ⟨rfl, Gr.refl _ _⟩) ?_
  refine Lx_nil (fun w39 hw40 => ?_)
  have H41 := H5.ext hw40
  refine Then_n ?_
  refine W_cond (t := (((decide (((sbyte s k).toNat : Int) = 0)) || (decide (((sbyte s k).toNat : Int) = 47))) || (decide (((sbyte s k).toNat : Int) = 10)))) rfl (fun hc42 => ?_) (fun hc42 => ?_)
  ·have hc42 : (((((sbyte s k).toNat : Int) = 0) ∨ (((sbyte s k).toNat : Int) = 47)) ∨ (((sbyte s k).toNat : Int) = 10)) := (Or.imp (fun h => (Or.imp (fun h => (of_decide_eq_true h)) (fun h => (of_decide_eq_true h)) (orT h))) (fun h => (of_decide_eq_true h)) (orT hc42))
   refine W_seq (W_reg ?_)
   refine O_v rfl (R_assign (v := (.bool false)) rfl ?_)
   refine O_nil (Then_n (W_ret (Blk_r (Then_r (Then_r (Blk_r (Then_r ?_)))))))
   refine ret_1 (v := (.bool false)) Try.results39 rfl ?_
   exact ⟨(nameOk_bad (k := k) (by omega) (by assumption)), H41.gr⟩
  ·have hc42 : ((¬ (((sbyte s k).toNat : Int) = 0) ∧ ¬ (((sbyte s k).toNat : Int) = 47)) ∧ ¬ (((sbyte s k).toNat : Int) = 10)) := (And.imp (fun h => (And.imp (fun h => (of_decide_eq_false h)) (fun h => (of_decide_eq_false h)) (orF h))) (fun h => (of_decide_eq_false h)) (orF hc42))
   refine W_skip (Blk_n (Then_n (W_reg ?_)))
   refine O_v rfl (R_move (v := (.int .i64 ((k : Nat) : Int))) rfl ?_)
   refine O_v rfl (R_arith (a := ((k : Nat) : Int)) (b := 1) (r0 := ((k : Nat) : Int) + 1) (r := ((k + 1 : Nat) : Int)) rfl rfl rfl (wrapN _ (by omega)) ?_)
   refine O_v rfl (R_assign (v := (.int .i64 ((k + 1 : Nat) : Int))) rfl ?_)
   refine O_nil (Then_n ?_)
   refine ⟨_, ?_, (k + 1), rfl, (by omega), (all_succ hn (badByte_f (by assumption))), _, envL_self ⟨rfl, rfl, trivial⟩, H41⟩
   omega
 ·have hc6 : ¬ (((k : Nat) : Int) < ((s.size : Nat) : Int)) := (of_decide_eq_false hc6)
  refine W_exit (Then_x (Then_x (Blk_x (Then_n (W_seq ?_)))))
  refine W_rg [(0, .q false), (1, .q false), (2, .q false), (3, .q false), (4, .q false), (5, .q false), (6, .q false), (7, .q false), (8, .q false), (9, .q false), (10, .q false), (11, .q false), (12, .q false), (13, .q false), (14, .q false), (15, .q false)] (by kernel_rfl) ?_
  refine Lx_q (i := 0) rfl rfl _ (fun v43 hv44 => R_move (v := (.string s)) rfl ⟨rfl, Gr.refl _ _⟩) ?_
  refine Lx_q (i := 1) rfl rfl _ (fun v45 hv46 => R_cmpS (a := s) (b := ByteArray.empty) (r := (!(decide (s = ByteArray.empty)))) rfl rfl rfl ⟨rfl, Gr.refl _ _⟩) ?_
  refine Lx_q (i := 2) rfl rfl _ (fun v47 hv48 => R_move (v := (.bool (!(decide (s = ByteArray.empty))))) rfl ⟨rfl, Gr.refl _ _⟩) ?_
  refine Lx_qg (i := 3) true (!(decide (s = ByteArray.empty))) rfl rfl rfl rfl rfl (!(decide (s = ByteArray.empty))) ga_t _ (fun hA v49 hv50 => R_move (v := (.string s)) rfl ⟨rfl, Gr.refl _ _⟩) ?_
  refine Lx_qg (i := 4) true (!(decide (s = ByteArray.empty))) rfl rfl rfl rfl rfl (!(decide (s = ByteArray.empty))) ga_t _ (fun hA v51 hv52 => R_len_string Try.underlying9 (gv_t hA) ⟨rfl, Gr.refl _ _⟩) ?_
  refine Lx_qg (i := 5) true (!(decide (s = ByteArray.empty))) rfl rfl rfl rfl rfl (!(decide (s = ByteArray.empty))) ga_t _ (fun hA v53 hv54 => R_cmp (a := ((s.size : Nat) : Int)) (b := 60) (r := (decide (((s.size : Nat) : Int) ≤ 60))) (gv_t hA) rfl rfl ⟨rfl, Gr.refl _ _⟩) ?_
  refine Lx_q (i := 6) rfl rfl _ (fun v55 hv56 => R_pick (t := (!(decide (s = ByteArray.empty)))) (v := (.bool ((!(decide (s = ByteArray.empty))) && (decide (((s.size : Nat) : Int) ≤ 60))))) rfl pk_and ⟨rfl, Gr.refl _ _⟩) ?_
  refine Lx_q (i := 7) rfl rfl _ (fun v57 hv58 => R_move (v := (.bool ((!(decide (s = ByteArray.empty))) && (decide (((s.size : Nat) : Int) ≤ 60))))) rfl ⟨rfl, Gr.refl _ _⟩) ?_
  refine Lx_qg (i := 8) true ((!(decide (s = ByteArray.empty))) && (decide (((s.size : Nat) : Int) ≤ 60))) rfl rfl rfl rfl rfl ((!(decide (s = ByteArray.empty))) && (decide (((s.size : Nat) : Int) ≤ 60))) ga_t _ (fun hA v59 hv60 => R_move (v := (.string s)) rfl ⟨rfl, Gr.refl _ _⟩) ?_
  refine Lx_qg (i := 9) true ((!(decide (s = ByteArray.empty))) && (decide (((s.size : Nat) : Int) ≤ 60))) rfl rfl rfl rfl rfl ((!(decide (s = ByteArray.empty))) && (decide (((s.size : Nat) : Int) ≤ 60))) ga_t _ (fun hA v61 hv62 => R_cmpS (a := s) (b := (⟨#[46]⟩ : ByteArray)) (r := (!(decide (s = (⟨#[46]⟩ : ByteArray))))) (gv_t hA) rfl rfl ⟨rfl, Gr.refl _ _⟩) ?_
  refine Lx_q (i := 10) rfl rfl _ (fun v63 hv64 => R_pick (t := ((!(decide (s = ByteArray.empty))) && (decide (((s.size : Nat) : Int) ≤ 60)))) (v := (.bool (((!(decide (s = ByteArray.empty))) && (decide (((s.size : Nat) : Int) ≤ 60))) && (!(decide (s = (⟨#[46]⟩ : ByteArray))))))) rfl pk_and ⟨rfl, Gr.refl _ _⟩) ?_
  refine Lx_q (i := 11) rfl rfl _ (fun v65 hv66 => R_move (v := (.bool (((!(decide (s = ByteArray.empty))) && (decide (((s.size : Nat) : Int) ≤ 60))) && (!(decide (s = (⟨#[46]⟩ : ByteArray))))))) rfl ⟨rfl, Gr.refl _ _⟩) ?_
  refine Lx_qg (i := 12) true (((!(decide (s = ByteArray.empty))) && (decide (((s.size : Nat) : Int) ≤ 60))) && (!(decide (s = (⟨#[46]⟩ : ByteArray))))) rfl rfl rfl rfl rfl (((!(decide (s = ByteArray.empty))) && (decide (((s.size : Nat) : Int) ≤ 60))) && (!(decide (s = (⟨#[46]⟩ : ByteArray))))) ga_t _ (fun hA v67 hv68 => R_move (v := (.string s)) rfl ⟨rfl, Gr.refl _ _⟩) ?_
  refine Lx_qg (i := 13) true (((!(decide (s = ByteArray.empty))) && (decide (((s.size : Nat) : Int) ≤ 60))) && (!(decide (s = (⟨#[46]⟩ : ByteArray))))) rfl rfl rfl rfl rfl (((!(decide (s = ByteArray.empty))) && (decide (((s.size : Nat) : Int) ≤ 60))) && (!(decide (s = (⟨#[46]⟩ : ByteArray))))) ga_t _ (fun hA v69 hv70 => R_cmpS (a := s) (b := (⟨#[46, 46]⟩ : ByteArray)) (r := (!(decide (s = (⟨#[46, 46]⟩ : ByteArray))))) (gv_t hA) rfl rfl ⟨rfl, Gr.refl _ _⟩) ?_
  refine Lx_q (i := 14) rfl rfl _ (fun v71 hv72 => R_pick (t := (((!(decide (s = ByteArray.empty))) && (decide (((s.size : Nat) : Int) ≤ 60))) && (!(decide (s = (⟨#[46]⟩ : ByteArray)))))) (v := (.bool ((((!(decide (s = ByteArray.empty))) && (decide (((s.size : Nat) : Int) ≤ 60))) && (!(decide (s = (⟨#[46]⟩ : ByteArray))))) && (!(decide (s = (⟨#[46, 46]⟩ : ByteArray))))))) rfl pk_and ⟨rfl, Gr.refl _ _⟩) ?_
  refine Lx_q (i := 15) rfl rfl _ (fun v73 hv74 => R_assign (v := (.bool ((((!(decide (s = ByteArray.empty))) && (decide (((s.size : Nat) : Int) ≤ 60))) && (!(decide (s = (⟨#[46]⟩ : ByteArray))))) && (!(decide (s = (⟨#[46, 46]⟩ : ByteArray))))))) rfl ⟨rfl, Gr.refl _ _⟩) ?_
  refine Lx_nil (fun w75 hw76 => ?_)
  have H77 := H5.ext hw76
  refine Then_n (W_ret ?_)
  refine ret_1 (v := (.bool ((((!(decide (s = ByteArray.empty))) && (decide (((s.size : Nat) : Int) ≤ 60))) && (!(decide (s = (⟨#[46]⟩ : ByteArray))))) && (!(decide (s = (⟨#[46, 46]⟩ : ByteArray))))))) Try.results39 rfl ?_
  exact ⟨(nameOk_good (by rwa [show s.size = k from by omega])), H77.gr⟩

end Go.Proofs.Ytiknfldhommmpaa
namespace Go.Proofs.Ytiknfldhommmpaa
open Go
set_option maxRecDepth 100000
set_option linter.unusedVariables false
set_option linter.unusedSimpArgs false
set_option maxHeartbeats 1000000 in
theorem ref03_Right (s : Stamp) (w : World) :
    Calls Try.prog 38 #[(aggOf (stampCh s))] w (Ret fun v w' => v = (.bool (stRight s)) ∧ Ext w w') := by
 refine calls_W Try.func38 rfl Try.ntmps38 rfl ?_
 have H0 := Ctx.start w nob
 refine W_seq (W_reg ?_)
 refine O_v rfl (C_box H0 [[(.int .i64 s.T)], [(.int .i64 s.R)]] rfl ?_)
 intro b1 w2 hb3 hx4 H5
 refine O_v rfl (R_assign (v := (.bool false)) rfl ?_)
 refine O_nil (Then_n (W_seq ?_))
 refine W_rg [(0, .q false), (1, .q false), (2, .q false), (3, .q false), (4, .q false), (5, .q false), (6, .q false), (7, .q false), (8, .q false), (9, .q false), (10, .q false), (11, .q false), (12, .q false), (13, .q false), (14, .q false), (15, .q false), (16, .q false), (17, .q false), (18, .q false)] (by kernel_rfl) ?_
 refine Lx_q (i := 0) rfl rfl _ (fun v6 hv7 => R_fieldAddr (off := 0) (oo := 0) Try.underlying24 rfl rfl Try.sizeOf2 rfl rfl ⟨rfl, Gr.refl _ _⟩) ?_
 refine Lx_q (i := 1) rfl rfl _ (fun v8 hv9 => R_load1 (v := (.int .i64 s.T)) Try.isAgg2 rfl ((boxR_at ((H5.ext hv9).getOwn 0 rfl)).chunks 0 1 0 0 _ rfl rfl rfl) ⟨rfl, Gr.refl _ _⟩) ?_
 refine Lx_q (i := 2) rfl rfl _ (fun v10 hv11 => R_cmp (a := s.T) (b := 0) (r := (decide (0 < s.T))) rfl rfl rfl ⟨rfl, Gr.refl _ _⟩) ?_
 refine Lx_q (i := 3) rfl rfl _ (fun v12 hv13 => R_move (v := (.bool (decide (0 < s.T)))) rfl ⟨rfl, Gr.refl _ _⟩) ?_
 refine Lx_qg (i := 4) true (decide (0 < s.T)) rfl rfl rfl rfl rfl (decide (0 < s.T)) ga_t _ (fun hA v14 hv15 => R_fieldAddr (off := 0) (oo := 0) Try.underlying24 rfl rfl Try.sizeOf2 rfl rfl ⟨rfl, Gr.refl _ _⟩) ?_
 refine Lx_qg (i := 5) true (decide (0 < s.T)) rfl rfl rfl rfl rfl (decide (0 < s.T)) ga_t _ (fun hA v16 hv17 => R_load1 (v := (.int .i64 s.T)) Try.isAgg2 (gv_t hA) ((boxR_at ((H5.ext hv17).getOwn 0 rfl)).chunks 0 1 0 0 _ rfl rfl rfl) ⟨rfl, Gr.refl _ _⟩) ?_
 refine Lx_qg (i := 6) true (decide (0 < s.T)) rfl rfl rfl rfl rfl (decide (0 < s.T)) ga_t _ (fun hA v18 hv19 => R_cmp (a := s.T) (b := 1099511627776) (r := (decide (s.T ≤ 1099511627776))) (gv_t hA) rfl rfl ⟨rfl, Gr.refl _ _⟩) ?_
 refine Lx_q (i := 7) rfl rfl _ (fun v20 hv21 => R_pick (t := (decide (0 < s.T))) (v := (.bool ((decide (0 < s.T)) && (decide (s.T ≤ 1099511627776))))) rfl pk_and ⟨rfl, Gr.refl _ _⟩) ?_
 refine Lx_q (i := 8) rfl rfl _ (fun v22 hv23 => R_move (v := (.bool ((decide (0 < s.T)) && (decide (s.T ≤ 1099511627776))))) rfl ⟨rfl, Gr.refl _ _⟩) ?_
 refine Lx_qg (i := 9) true ((decide (0 < s.T)) && (decide (s.T ≤ 1099511627776))) rfl rfl rfl rfl rfl ((decide (0 < s.T)) && (decide (s.T ≤ 1099511627776))) ga_t _ (fun hA v24 hv25 => R_fieldAddr (off := 1) (oo := 1) Try.underlying24 rfl rfl Try.sizeOf3 rfl rfl ⟨rfl, Gr.refl _ _⟩) ?_
 refine Lx_qg (i := 10) true ((decide (0 < s.T)) && (decide (s.T ≤ 1099511627776))) rfl rfl rfl rfl rfl ((decide (0 < s.T)) && (decide (s.T ≤ 1099511627776))) ga_t _ (fun hA v26 hv27 => R_load1 (v := (.int .i64 s.R)) Try.isAgg3 (gv_t hA) ((boxR_at ((H5.ext hv27).getOwn 0 rfl)).chunks 1 1 1 1 _ rfl rfl rfl) ⟨rfl, Gr.refl _ _⟩) ?_
 refine Lx_qg (i := 11) true ((decide (0 < s.T)) && (decide (s.T ≤ 1099511627776))) rfl rfl rfl rfl rfl ((decide (0 < s.T)) && (decide (s.T ≤ 1099511627776))) ga_t _ (fun hA v28 hv29 => R_cmp (a := s.R) (b := 0) (r := (decide (0 < s.R))) (gv_t hA) rfl rfl ⟨rfl, Gr.refl _ _⟩) ?_
 refine Lx_q (i := 12) rfl rfl _ (fun v30 hv31 => R_pick (t := ((decide (0 < s.T)) && (decide (s.T ≤ 1099511627776)))) (v := (.bool (((decide (0 < s.T)) && (decide (s.T ≤ 1099511627776))) && (decide (0 < s.R))))) rfl pk_and ⟨rfl, Gr.refl _ _⟩) ?_
 refine Lx_q (i := 13) rfl rfl _ (fun v32 hv33 => R_move (v := (.bool (((decide (0 < s.T)) && (decide (s.T ≤ 1099511627776))) && (decide (0 < s.R))))) rfl ⟨rfl, Gr.refl _ _⟩) ?_
 refine Lx_qg (i := 14) true (((decide (0 < s.T)) && (decide (s.T ≤ 1099511627776))) && (decide (0 < s.R))) rfl rfl rfl rfl rfl (((decide (0 < s.T)) && (decide (s.T ≤ 1099511627776))) && (decide (0 < s.R))) ga_t _ (fun hA v34 hv35 => R_fieldAddr (off := 1) (oo := 1) Try.underlying24 rfl rfl Try.sizeOf3 rfl rfl ⟨rfl, Gr.refl _ _⟩) ?_
 refine Lx_qg (i := 15) true (((decide (0 < s.T)) && (decide (s.T ≤ 1099511627776))) && (decide (0 < s.R))) rfl rfl rfl rfl rfl (((decide (0 < s.T)) && (decide (s.T ≤ 1099511627776))) && (decide (0 < s.R))) ga_t _ (fun hA v36 hv37 => R_load1 (v := (.int .i64 s.R)) Try.isAgg3 (gv_t hA) ((boxR_at ((H5.ext hv37).getOwn 0 rfl)).chunks 1 1 1 1 _ rfl rfl rfl) ⟨rfl, Gr.refl _ _⟩) ?_
 refine Lx_qg (i := 16) true (((decide (0 < s.T)) && (decide (s.T ≤ 1099511627776))) && (decide (0 < s.R))) rfl rfl rfl rfl rfl (((decide (0 < s.T)) && (decide (s.T ≤ 1099511627776))) && (decide (0 < s.R))) ga_t _ (fun hA v38 hv39 => R_cmp (a := s.R) (b := 65536) (r := (decide (s.R ≤ 65536))) (gv_t hA) rfl rfl ⟨rfl, Gr.refl _ _⟩) ?_
 refine Lx_q (i := 17) rfl rfl _ (fun v40 hv41 => R_pick (t := (((decide (0 < s.T)) && (decide (s.T ≤ 1099511627776))) && (decide (0 < s.R)))) (v := (.bool ((((decide (0 < s.T)) && (decide (s.T ≤ 1099511627776))) && (decide (0 < s.R))) && (decide (s.R ≤ 65536))))) rfl pk_and ⟨rfl, Gr.refl _ _⟩) ?_
 refine Lx_q (i := 18) rfl rfl _ (fun v42 hv43 => R_assign (v := (.bool ((((decide (0 < s.T)) && (decide (s.T ≤ 1099511627776))) && (decide (0 < s.R))) && (decide (s.R ≤ 65536))))) rfl ⟨rfl, Gr.refl _ _⟩) ?_
 refine Lx_nil (fun w44 hw45 => ?_)
 have H46 := H5.ext hw45
 refine Then_n (W_ret ?_)
 refine ret_1 (v := (.bool ((((decide (0 < s.T)) && (decide (s.T ≤ 1099511627776))) && (decide (0 < s.R))) && (decide (s.R ≤ 65536))))) Try.results38 rfl ?_
 exact ⟨(boolE (by simp only [stRight, Bool.and_eq_true, Bool.or_eq_true, Bool.not_eq_true, decide_eq_true_eq]; omega)), H46.gr⟩

end Go.Proofs.Ytiknfldhommmpaa
namespace Go.Proofs.Ytiknfldhommmpaa
open Go
set_option maxRecDepth 100000
set_option linter.unusedVariables false
set_option linter.unusedSimpArgs false
set_option maxHeartbeats 1000000 in
theorem ref04_zero (id : ID) (w : World) :
    Calls Try.prog 54 #[(aggOf (idCh id))] w (Ret fun v w' => v = (.bool (decide (id = zeroId))) ∧ Ext w w') := by
 refine calls_W Try.func54 rfl Try.ntmps54 rfl ?_
 have H0 := Ctx.start w nob
 refine W_seq (W_reg ?_)
 refine O_v rfl (C_box H0 [(idCells id)] rfl ?_)
 intro b1 w2 hb3 hx4 H5
 refine O_v rfl (R_assign (v := (.bool false)) rfl ?_)
 refine O_nil (Then_n (W_seq (W_reg ?_)))
 refine O_v rfl (R_loadA (cs := [(idCells id)]) Try.isAgg35 Try.sizeOf35 rfl rfl ((boxR_at (H5.getOwn 0 rfl)).chunks 0 1 0 0 _ rfl rfl rfl) ?_)
 refine O_v rfl (R_buildL (vs := []) (v := aggOf [(idCells zeroId)]) rfl (fun _ => by kernel_rfl) ?_)
 refine O_v rfl (R_eqv (a := id) (b := zeroId) eqv_ID35 rfl Try.eqGuardType35 rfl rfl ?_)
 refine O_v rfl (R_assign (v := (.bool (decide (id = zeroId)))) rfl ?_)
 refine O_nil (Then_n (W_ret ?_))
 refine ret_1 (v := (.bool (decide (id = zeroId)))) Try.results54 rfl ?_
 exact ⟨rfl, H5.gr⟩

end Go.Proofs.Ytiknfldhommmpaa
