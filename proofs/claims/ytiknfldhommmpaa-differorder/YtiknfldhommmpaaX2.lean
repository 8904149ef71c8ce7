/- Proved: for every input, pollardlaw14.DifferOrder returns true and leaves its arguments as they were. No condition. -/
import Derived.Test.YtiknfldhommmpaaX1
namespace Go.Proofs.Ytiknfldhommmpaa
open Go
set_option maxRecDepth 100000
set_option linter.unusedVariables false
set_option linter.unusedSimpArgs false
theorem stamp_Name_c90 : callable Try.prog 90 = true := by kernel_rfl
set_option maxHeartbeats 1000000 in
theorem stamp_Name (s : ByteArray) (w : World) :
    Calls Try.prog 85 #[(.string s)] w (Ret fun v w' => v = (.bool (nameOk s)) ∧ Ext w w') := by
 refine calls_W Try.func85 rfl Try.ntmps85 rfl ?_
 have H0 := Ctx.start w nob
 refine W_seq (W_reg ?_)
 refine O_v rfl (R_assign (v := (.bool false)) rfl ?_)
 refine O_nil (Then_n (W_seq ?_))
 refine W_rg [(0, .q false), (1, .q false), (2, .q false), (3, .q false), (4, .q false), (5, .q false), (6, .q false), (7, .q false), (8, .q false), (9, .q false), (10, .q false), (11, .q false), (12, .q false), (13, .q false), (14, .q false), (15, .q false), (16, .q false), (17, .q false), (18, .q false), (19, .q false), (20, .q false), (21, .q false)] (by kernel_rfl) ?_
 refine Lx_q (i := 0) rfl rfl _ (fun v1 hv2 => R_move (v := (.string s)) rfl ⟨rfl, Gr.refl _ _⟩) ?_
 refine Lx_q (i := 1) rfl rfl _ (fun v3 hv4 => R_len_string Try.underlying9 rfl ⟨rfl, Gr.refl _ _⟩) ?_
 refine Lx_q (i := 2) rfl rfl _ (fun v5 hv6 => R_cmp (a := ((s.size : Nat) : Int)) (b := 1) (r := (decide (1 ≤ ((s.size : Nat) : Int)))) rfl rfl rfl ⟨rfl, Gr.refl _ _⟩) ?_
 refine Lx_q (i := 3) rfl rfl _ (fun v7 hv8 => R_move (v := (.bool (decide (1 ≤ ((s.size : Nat) : Int))))) rfl ⟨rfl, Gr.refl _ _⟩) ?_
 refine Lx_qg (i := 4) true (decide (1 ≤ ((s.size : Nat) : Int))) rfl rfl rfl rfl rfl (decide (1 ≤ ((s.size : Nat) : Int))) ga_t _ (fun hA v9 hv10 => R_move (v := (.string s)) rfl ⟨rfl, Gr.refl _ _⟩) ?_
 refine Lx_qg (i := 5) true (decide (1 ≤ ((s.size : Nat) : Int))) rfl rfl rfl rfl rfl (decide (1 ≤ ((s.size : Nat) : Int))) ga_t _ (fun hA v11 hv12 => R_len_string Try.underlying9 (gv_t hA) ⟨rfl, Gr.refl _ _⟩) ?_
 refine Lx_qg (i := 6) true (decide (1 ≤ ((s.size : Nat) : Int))) rfl rfl rfl rfl rfl (decide (1 ≤ ((s.size : Nat) : Int))) ga_t _ (fun hA v13 hv14 => R_cmp (a := ((s.size : Nat) : Int)) (b := 60) (r := (decide (((s.size : Nat) : Int) ≤ 60))) (gv_t hA) rfl rfl ⟨rfl, Gr.refl _ _⟩) ?_
 refine Lx_q (i := 7) rfl rfl _ (fun v15 hv16 => R_pick (t := (decide (1 ≤ ((s.size : Nat) : Int)))) (v := (.bool ((decide (1 ≤ ((s.size : Nat) : Int))) && (decide (((s.size : Nat) : Int) ≤ 60))))) rfl pk_and ⟨rfl, Gr.refl _ _⟩) ?_
 refine Lx_q (i := 8) rfl rfl _ (fun v17 hv18 => R_move (v := (.bool ((decide (1 ≤ ((s.size : Nat) : Int))) && (decide (((s.size : Nat) : Int) ≤ 60))))) rfl ⟨rfl, Gr.refl _ _⟩) ?_
 refine Lx_qg (i := 9) true ((decide (1 ≤ ((s.size : Nat) : Int))) && (decide (((s.size : Nat) : Int) ≤ 60))) rfl rfl rfl rfl rfl ((decide (1 ≤ ((s.size : Nat) : Int))) && (decide (((s.size : Nat) : Int) ≤ 60))) ga_t _ (fun hA v19 hv20 => R_move (v := (.string s)) rfl ⟨rfl, Gr.refl _ _⟩) ?_
 refine Lx_qg (i := 10) true ((decide (1 ≤ ((s.size : Nat) : Int))) && (decide (((s.size : Nat) : Int) ≤ 60))) rfl rfl rfl rfl rfl ((decide (1 ≤ ((s.size : Nat) : Int))) && (decide (((s.size : Nat) : Int) ≤ 60))) ga_t _ (fun hA v21 hv22 => R_cmpS (a := s) (b := (⟨#[46]⟩ : ByteArray)) (r := (!(decide (s = (⟨#[46]⟩ : ByteArray))))) (gv_t hA) rfl rfl ⟨rfl, Gr.refl _ _⟩) ?_
 refine Lx_q (i := 11) rfl rfl _ (fun v23 hv24 => R_pick (t := ((decide (1 ≤ ((s.size : Nat) : Int))) && (decide (((s.size : Nat) : Int) ≤ 60)))) (v := (.bool (((decide (1 ≤ ((s.size : Nat) : Int))) && (decide (((s.size : Nat) : Int) ≤ 60))) && (!(decide (s = (⟨#[46]⟩ : ByteArray))))))) rfl pk_and ⟨rfl, Gr.refl _ _⟩) ?_
 refine Lx_q (i := 12) rfl rfl _ (fun v25 hv26 => R_move (v := (.bool (((decide (1 ≤ ((s.size : Nat) : Int))) && (decide (((s.size : Nat) : Int) ≤ 60))) && (!(decide (s = (⟨#[46]⟩ : ByteArray))))))) rfl ⟨rfl, Gr.refl _ _⟩) ?_
 refine Lx_qg (i := 13) true (((decide (1 ≤ ((s.size : Nat) : Int))) && (decide (((s.size : Nat) : Int) ≤ 60))) && (!(decide (s = (⟨#[46]⟩ : ByteArray))))) rfl rfl rfl rfl rfl (((decide (1 ≤ ((s.size : Nat) : Int))) && (decide (((s.size : Nat) : Int) ≤ 60))) && (!(decide (s = (⟨#[46]⟩ : ByteArray))))) ga_t _ (fun hA v27 hv28 => R_move (v := (.string s)) rfl ⟨rfl, Gr.refl _ _⟩) ?_
 refine Lx_qg (i := 14) true (((decide (1 ≤ ((s.size : Nat) : Int))) && (decide (((s.size : Nat) : Int) ≤ 60))) && (!(decide (s = (⟨#[46]⟩ : ByteArray))))) rfl rfl rfl rfl rfl (((decide (1 ≤ ((s.size : Nat) : Int))) && (decide (((s.size : Nat) : Int) ≤ 60))) && (!(decide (s = (⟨#[46]⟩ : ByteArray))))) ga_t _ (fun hA v29 hv30 => R_cmpS (a := s) (b := (⟨#[46, 46]⟩ : ByteArray)) (r := (!(decide (s = (⟨#[46, 46]⟩ : ByteArray))))) (gv_t hA) rfl rfl ⟨rfl, Gr.refl _ _⟩) ?_
 refine Lx_q (i := 15) rfl rfl _ (fun v31 hv32 => R_pick (t := (((decide (1 ≤ ((s.size : Nat) : Int))) && (decide (((s.size : Nat) : Int) ≤ 60))) && (!(decide (s = (⟨#[46]⟩ : ByteArray)))))) (v := (.bool ((((decide (1 ≤ ((s.size : Nat) : Int))) && (decide (((s.size : Nat) : Int) ≤ 60))) && (!(decide (s = (⟨#[46]⟩ : ByteArray))))) && (!(decide (s = (⟨#[46, 46]⟩ : ByteArray))))))) rfl pk_and ⟨rfl, Gr.refl _ _⟩) ?_
 refine Lx_q (i := 16) rfl rfl _ (fun v33 hv34 => R_move (v := (.bool ((((decide (1 ≤ ((s.size : Nat) : Int))) && (decide (((s.size : Nat) : Int) ≤ 60))) && (!(decide (s = (⟨#[46]⟩ : ByteArray))))) && (!(decide (s = (⟨#[46, 46]⟩ : ByteArray))))))) rfl ⟨rfl, Gr.refl _ _⟩) ?_
 refine Lx_qg (i := 17) true ((((decide (1 ≤ ((s.size : Nat) : Int))) && (decide (((s.size : Nat) : Int) ≤ 60))) && (!(decide (s = (⟨#[46]⟩ : ByteArray))))) && (!(decide (s = (⟨#[46, 46]⟩ : ByteArray))))) rfl rfl rfl rfl rfl ((((decide (1 ≤ ((s.size : Nat) : Int))) && (decide (((s.size : Nat) : Int) ≤ 60))) && (!(decide (s = (⟨#[46]⟩ : ByteArray))))) && (!(decide (s = (⟨#[46, 46]⟩ : ByteArray))))) ga_t _ (fun hA v35 hv36 => R_move (v := (.string s)) rfl ⟨rfl, Gr.refl _ _⟩) ?_
 refine Lx_qg (i := 18) true ((((decide (1 ≤ ((s.size : Nat) : Int))) && (decide (((s.size : Nat) : Int) ≤ 60))) && (!(decide (s = (⟨#[46]⟩ : ByteArray))))) && (!(decide (s = (⟨#[46, 46]⟩ : ByteArray))))) rfl rfl rfl rfl rfl ((((decide (1 ≤ ((s.size : Nat) : Int))) && (decide (((s.size : Nat) : Int) ≤ 60))) && (!(decide (s = (⟨#[46]⟩ : ByteArray))))) && (!(decide (s = (⟨#[46, 46]⟩ : ByteArray))))) ga_t (.bool (Lib.containsAny s.data.toList (⟨#[0, 47, 10]⟩ : ByteArray).data.toList)) (fun hA v37 hv38 => by
      have hP : ((((1 ≤ ((s.size : Nat) : Int)) ∧ (((s.size : Nat) : Int) ≤ 60)) ∧ ¬ (s = (⟨#[46]⟩ : ByteArray))) ∧ ¬ (s = (⟨#[46, 46]⟩ : ByteArray))) := (And.imp (fun h => (And.imp (fun h => (And.imp (fun h => (of_decide_eq_true h)) (fun h => (of_decide_eq_true h)) (andT h))) (fun h => (of_decide_eq_false (notT h))) (andT h))) (fun h => (of_decide_eq_false (notT h))) (andT hA))
      exact R_callL (vs := [(.string s), (.string (⟨#[0, 47, 10]⟩ : ByteArray))]) stamp_Name_c90 rfl (lst2 (gv_t hA) rfl) (strings_ContainsAny s (⟨#[0, 47, 10]⟩ : ByteArray) v37 (by decide) (by decide) (by omega) bad_ascii)) ?_
 refine Lx_qg (i := 19) true ((((decide (1 ≤ ((s.size : Nat) : Int))) && (decide (((s.size : Nat) : Int) ≤ 60))) && (!(decide (s = (⟨#[46]⟩ : ByteArray))))) && (!(decide (s = (⟨#[46, 46]⟩ : ByteArray))))) rfl rfl rfl rfl rfl ((((decide (1 ≤ ((s.size : Nat) : Int))) && (decide (((s.size : Nat) : Int) ≤ 60))) && (!(decide (s = (⟨#[46]⟩ : ByteArray))))) && (!(decide (s = (⟨#[46, 46]⟩ : ByteArray))))) ga_t _ (fun hA v39 hv40 => R_not (gv_t hA) ⟨rfl, Gr.refl _ _⟩) ?_
 refine Lx_q (i := 20) rfl rfl _ (fun v41 hv42 => R_pick (t := ((((decide (1 ≤ ((s.size : Nat) : Int))) && (decide (((s.size : Nat) : Int) ≤ 60))) && (!(decide (s = (⟨#[46]⟩ : ByteArray))))) && (!(decide (s = (⟨#[46, 46]⟩ : ByteArray)))))) (v := (.bool (((((decide (1 ≤ ((s.size : Nat) : Int))) && (decide (((s.size : Nat) : Int) ≤ 60))) && (!(decide (s = (⟨#[46]⟩ : ByteArray))))) && (!(decide (s = (⟨#[46, 46]⟩ : ByteArray))))) && (!(Lib.containsAny s.data.toList (⟨#[0, 47, 10]⟩ : ByteArray).data.toList))))) rfl pk_and ⟨rfl, Gr.refl _ _⟩) ?_
 refine Lx_q (i := 21) rfl rfl _ (fun v43 hv44 => R_assign (v := (.bool (((((decide (1 ≤ ((s.size : Nat) : Int))) && (decide (((s.size : Nat) : Int) ≤ 60))) && (!(decide (s = (⟨#[46]⟩ : ByteArray))))) && (!(decide (s = (⟨#[46, 46]⟩ : ByteArray))))) && (!(Lib.containsAny s.data.toList (⟨#[0, 47, 10]⟩ : ByteArray).data.toList))))) rfl ⟨rfl, Gr.refl _ _⟩) ?_
 refine Lx_nil (fun w45 hw46 => ?_)
 have H47 := H0.ext hw46
 refine Then_n (W_ret ?_)
 refine ret_1 (v := (.bool (((((decide (1 ≤ ((s.size : Nat) : Int))) && (decide (((s.size : Nat) : Int) ≤ 60))) && (!(decide (s = (⟨#[46]⟩ : ByteArray))))) && (!(decide (s = (⟨#[46, 46]⟩ : ByteArray))))) && (!(Lib.containsAny s.data.toList (⟨#[0, 47, 10]⟩ : ByteArray).data.toList))))) Try.results85 rfl ?_
 exact ⟨nameOk_any, H47.gr⟩

end Go.Proofs.Ytiknfldhommmpaa
namespace Go.Proofs.Ytiknfldhommmpaa
open Go
set_option maxRecDepth 100000
set_option linter.unusedVariables false
set_option linter.unusedSimpArgs false
set_option maxHeartbeats 1000000 in
theorem stamp_fixed (s : Stamp) (w : World) :
    Calls Try.prog 84 #[(aggOf (stampCh s))] w (Ret fun v w' => v = (.bool (fixedSt s)) ∧ Ext w w') := by
 refine calls_W Try.func84 rfl Try.ntmps84 rfl ?_
 have H0 := Ctx.start w nob
 refine W_seq (W_reg ?_)
 refine O_v rfl (C_box H0 [[(.int .i64 s.T)], [(.int .i64 s.R)]] rfl ?_)
 intro b1 w2 hb3 hx4 H5
 refine O_v rfl (R_assign (v := (.bool false)) rfl ?_)
 refine O_nil (Then_n (W_seq ?_))
 refine W_rg [(0, .q false), (1, .q false), (2, .q false), (3, .q false), (4, .q false), (5, .q false), (6, .q false), (7, .q false), (8, .q false), (9, .q false), (10, .q false), (11, .q false), (12, .q false), (13, .q false)] (by kernel_rfl) ?_
 refine Lx_q (i := 0) rfl rfl _ (fun v6 hv7 => R_fieldAddr (off := 0) (oo := 0) Try.underlying24 rfl rfl Try.sizeOf2 rfl rfl ⟨rfl, Gr.refl _ _⟩) ?_
 refine Lx_q (i := 1) rfl rfl _ (fun v8 hv9 => R_load1 (v := (.int .i64 s.T)) Try.isAgg2 rfl ((boxR_at ((H5.ext hv9).getOwn 0 rfl)).chunks 0 1 0 0 _ rfl rfl rfl) ⟨rfl, Gr.refl _ _⟩) ?_
 refine Lx_q (i := 2) rfl rfl _ (fun v10 hv11 => R_cmp (a := s.T) (b := 0) (r := (decide (s.T = 0))) rfl rfl rfl ⟨rfl, Gr.refl _ _⟩) ?_
 refine Lx_q (i := 3) rfl rfl _ (fun v12 hv13 => R_move (v := (.bool (decide (s.T = 0)))) rfl ⟨rfl, Gr.refl _ _⟩) ?_
 refine Lx_qg (i := 4) true (decide (s.T = 0)) rfl rfl rfl rfl rfl (decide (s.T = 0)) ga_t _ (fun hA v14 hv15 => R_fieldAddr (off := 1) (oo := 1) Try.underlying24 rfl rfl Try.sizeOf3 rfl rfl ⟨rfl, Gr.refl _ _⟩) ?_
 refine Lx_qg (i := 5) true (decide (s.T = 0)) rfl rfl rfl rfl rfl (decide (s.T = 0)) ga_t _ (fun hA v16 hv17 => R_load1 (v := (.int .i64 s.R)) Try.isAgg3 (gv_t hA) ((boxR_at ((H5.ext hv17).getOwn 0 rfl)).chunks 1 1 1 1 _ rfl rfl rfl) ⟨rfl, Gr.refl _ _⟩) ?_
 refine Lx_qg (i := 6) true (decide (s.T = 0)) rfl rfl rfl rfl rfl (decide (s.T = 0)) ga_t _ (fun hA v18 hv19 => R_cmp (a := s.R) (b := 0) (r := (decide (s.R = 0))) (gv_t hA) rfl rfl ⟨rfl, Gr.refl _ _⟩) ?_
 refine Lx_qg (i := 7) true (decide (s.T = 0)) rfl rfl rfl rfl rfl (decide (s.T = 0)) ga_t _ (fun hA v20 hv21 => R_move (v := (.bool (decide (s.R = 0)))) (gv_t hA) ⟨rfl, Gr.refl _ _⟩) ?_
 refine Lx_qg (i := 8) (decide (s.T = 0)) (decide (s.R = 0)) rfl rfl rfl rfl rfl ((decide (s.T = 0)) && (!(decide (s.R = 0)))) gb_f _ (fun hA v22 hv23 => R_fieldAddr (off := 1) (oo := 1) Try.underlying24 rfl rfl Try.sizeOf3 rfl rfl ⟨rfl, Gr.refl _ _⟩) ?_
 refine Lx_qg (i := 9) (decide (s.T = 0)) (decide (s.R = 0)) rfl rfl rfl rfl rfl ((decide (s.T = 0)) && (!(decide (s.R = 0)))) gb_f _ (fun hA v24 hv25 => R_load1 (v := (.int .i64 s.R)) Try.isAgg3 (gv_t hA) ((boxR_at ((H5.ext hv25).getOwn 0 rfl)).chunks 1 1 1 1 _ rfl rfl rfl) ⟨rfl, Gr.refl _ _⟩) ?_
 refine Lx_qg (i := 10) (decide (s.T = 0)) (decide (s.R = 0)) rfl rfl rfl rfl rfl ((decide (s.T = 0)) && (!(decide (s.R = 0)))) gb_f _ (fun hA v26 hv27 => R_cmp (a := s.R) (b := 1) (r := (decide (s.R = 1))) (gv_t hA) rfl rfl ⟨rfl, Gr.refl _ _⟩) ?_
 refine Lx_qg (i := 11) true (decide (s.T = 0)) rfl rfl rfl rfl rfl (decide (s.T = 0)) ga_t _ (fun hA v28 hv29 => R_pick (t := (decide (s.R = 0))) (v := (.bool ((decide (s.R = 0)) || (decide (s.R = 1))))) (gv_t hA) (pk_orA hA) ⟨rfl, Gr.refl _ _⟩) ?_
 refine Lx_q (i := 12) rfl rfl _ (fun v30 hv31 => R_pick (t := (decide (s.T = 0))) (v := (.bool ((decide (s.T = 0)) && ((decide (s.R = 0)) || (decide (s.R = 1)))))) rfl pk_and ⟨rfl, Gr.refl _ _⟩) ?_
 refine Lx_q (i := 13) rfl rfl _ (fun v32 hv33 => R_assign (v := (.bool ((decide (s.T = 0)) && ((decide (s.R = 0)) || (decide (s.R = 1)))))) rfl ⟨rfl, Gr.refl _ _⟩) ?_
 refine Lx_nil (fun w34 hw35 => ?_)
 have H36 := H5.ext hw35
 refine Then_n (W_ret ?_)
 refine ret_1 (v := (.bool ((decide (s.T = 0)) && ((decide (s.R = 0)) || (decide (s.R = 1)))))) Try.results84 rfl ?_
 exact ⟨(boolE (by simp only [Bool.and_eq_true, Bool.or_eq_true, decide_eq_true_eq])), H36.gr⟩

end Go.Proofs.Ytiknfldhommmpaa
namespace Go.Proofs.Ytiknfldhommmpaa
open Go
set_option maxRecDepth 100000
set_option linter.unusedVariables false
set_option linter.unusedSimpArgs false
theorem stamp_move_c35 : callable Try.prog 35 = true := by kernel_rfl
theorem stamp_move_c47 : callable Try.prog 47 = true := by kernel_rfl
theorem stamp_move_c84 : callable Try.prog 84 = true := by kernel_rfl
theorem stamp_move_c85 : callable Try.prog 85 = true := by kernel_rfl
set_option maxHeartbeats 1000000 in
theorem stamp_move (o : OpS) (w : World) (So_over : Sl (Old w) stampCh 2 o.oh o.over w) :
    Calls Try.prog 75 #[(aggOf (opCh o))] w (Ret fun v w' => v = (.bool (moveOk o)) ∧ Ext w w') := by
 refine calls_W Try.func75 rfl Try.ntmps75 rfl ?_
 have H0 := Ctx.start w nob
 have H1 := H0.addSl _ So_over (fun b hb => ⟨hb, fun _ ho => (nomatch ho)⟩)
 have LSo_over := So_over.len
 refine W_seq (W_reg ?_)
 refine O_v rfl (C_box H1 [[(.int .i64 o.kind)], [(.int .i64 o.tm.T)], [(.int .i64 o.tm.R)], [(.int .i64 o.node.T)], [(.int .i64 o.node.R)], [(.int .i64 o.par.T)], [(.int .i64 o.par.R)], [(.string o.name)], (idCells o.data), [(slV o.oh o.over)]] rfl ?_)
 intro b2 w3 hb4 hx5 H6
 refine O_v rfl (R_assign (v := (.bool false)) rfl ?_)
 refine O_nil (Then_n (W_seq ?_))
 refine W_rg [(0, .q false), (1, .q false), (2, .q false), (3, .q false), (4, .q false), (5, .q false), (6, .q false), (7, .q false), (8, .q false), (9, .q false), (10, .q false), (11, .q false), (12, .q false), (13, .q false), (14, .q false), (15, .q false), (16, .q false), (17, .q false), (18, .q false), (19, .q false), (20, .q false), (21, .q false), (22, .q false), (23, .q false), (24, .q false), (25, .q false), (26, .q false), (27, .q false), (28, .q false), (29, .q false), (30, .q false), (31, .q false), (32, .q false), (33, .q false)] (by kernel_rfl) ?_
 refine Lx_q (i := 0) rfl rfl _ (fun v7 hv8 => R_fieldAddr (off := 3) (oo := 3) Try.underlying39 rfl rfl Try.sizeOf24 rfl rfl ⟨rfl, Gr.refl _ _⟩) ?_
 refine Lx_q (i := 1) rfl rfl _ (fun v9 hv10 => R_loadA (cs := [[(.int .i64 o.node.T)], [(.int .i64 o.node.R)]]) Try.isAgg24 Try.sizeOf24 rfl rfl ((boxR_at ((H6.ext hv10).getOwn 0 rfl)).chunks 3 2 3 3 _ rfl rfl rfl) ⟨rfl, Gr.refl _ _⟩) ?_
 refine Lx_q (i := 2) rfl rfl _ (fun v11 hv12 => R_fieldAddr (off := 1) (oo := 1) Try.underlying39 rfl rfl Try.sizeOf24 rfl rfl ⟨rfl, Gr.refl _ _⟩) ?_
 refine Lx_q (i := 3) rfl rfl _ (fun v13 hv14 => R_loadA (cs := [[(.int .i64 o.tm.T)], [(.int .i64 o.tm.R)]]) Try.isAgg24 Try.sizeOf24 rfl rfl ((boxR_at ((H6.ext hv14).getOwn 0 rfl)).chunks 1 2 1 1 _ rfl rfl rfl) ⟨rfl, Gr.refl _ _⟩) ?_
 refine Lx_q (i := 4) rfl rfl (.int .i64 (cmpSt o.node o.tm)) (fun v15 hv16 => R_callL (vs := [(aggOf (stampCh o.node)), (aggOf (stampCh o.tm))]) stamp_move_c47 rfl rfl (stamp_Cmp o.node o.tm v15 )) ?_
 refine Lx_q (i := 5) rfl rfl _ (fun v17 hv18 => R_cmp (a := cmpSt o.node o.tm) (b := 0) (r := (decide (cmpSt o.node o.tm ≤ 0))) rfl rfl rfl ⟨rfl, Gr.refl _ _⟩) ?_
 refine Lx_q (i := 6) rfl rfl _ (fun v19 hv20 => R_move (v := (.bool (decide (cmpSt o.node o.tm ≤ 0)))) rfl ⟨rfl, Gr.refl _ _⟩) ?_
 refine Lx_qg (i := 7) true (decide (cmpSt o.node o.tm ≤ 0)) rfl rfl rfl rfl rfl (decide (cmpSt o.node o.tm ≤ 0)) ga_t _ (fun hA v21 hv22 => R_fieldAddr (off := 5) (oo := 5) Try.underlying39 rfl rfl Try.sizeOf24 rfl rfl ⟨rfl, Gr.refl _ _⟩) ?_
 refine Lx_qg (i := 8) true (decide (cmpSt o.node o.tm ≤ 0)) rfl rfl rfl rfl rfl (decide (cmpSt o.node o.tm ≤ 0)) ga_t _ (fun hA v23 hv24 => R_loadA (cs := [[(.int .i64 o.par.T)], [(.int .i64 o.par.R)]]) Try.isAgg24 Try.sizeOf24 rfl (gv_t hA) ((boxR_at ((H6.ext hv24).getOwn 0 rfl)).chunks 5 2 5 5 _ rfl rfl rfl) ⟨rfl, Gr.refl _ _⟩) ?_
 refine Lx_qg (i := 9) true (decide (cmpSt o.node o.tm ≤ 0)) rfl rfl rfl rfl rfl (decide (cmpSt o.node o.tm ≤ 0)) ga_t (.bool (stRight o.par)) (fun hA v25 hv26 => R_callL (vs := [(aggOf (stampCh o.par))]) stamp_move_c35 rfl (lst1 (gv_t hA)) (stamp_Right o.par v25 )) ?_
 refine Lx_qg (i := 10) true (decide (cmpSt o.node o.tm ≤ 0)) rfl rfl rfl rfl rfl (decide (cmpSt o.node o.tm ≤ 0)) ga_t _ (fun hA v27 hv28 => R_move (v := (.bool (stRight o.par))) (gv_t hA) ⟨rfl, Gr.refl _ _⟩) ?_
 refine Lx_qg (i := 11) (decide (cmpSt o.node o.tm ≤ 0)) (stRight o.par) rfl rfl rfl rfl rfl ((decide (cmpSt o.node o.tm ≤ 0)) && (!(stRight o.par))) gb_f _ (fun hA v29 hv30 => R_fieldAddr (off := 5) (oo := 5) Try.underlying39 rfl rfl Try.sizeOf24 rfl rfl ⟨rfl, Gr.refl _ _⟩) ?_
 refine Lx_qg (i := 12) (decide (cmpSt o.node o.tm ≤ 0)) (stRight o.par) rfl rfl rfl rfl rfl ((decide (cmpSt o.node o.tm ≤ 0)) && (!(stRight o.par))) gb_f _ (fun hA v31 hv32 => R_loadA (cs := [[(.int .i64 o.par.T)], [(.int .i64 o.par.R)]]) Try.isAgg24 Try.sizeOf24 rfl (gv_t hA) ((boxR_at ((H6.ext hv32).getOwn 0 rfl)).chunks 5 2 5 5 _ rfl rfl rfl) ⟨rfl, Gr.refl _ _⟩) ?_
 refine Lx_qg (i := 13) (decide (cmpSt o.node o.tm ≤ 0)) (stRight o.par) rfl rfl rfl rfl rfl ((decide (cmpSt o.node o.tm ≤ 0)) && (!(stRight o.par))) gb_f (.bool (fixedSt o.par)) (fun hA v33 hv34 => R_callL (vs := [(aggOf (stampCh o.par))]) stamp_move_c84 rfl (lst1 (gv_t hA)) (stamp_fixed o.par v33 )) ?_
 refine Lx_qg (i := 14) true (decide (cmpSt o.node o.tm ≤ 0)) rfl rfl rfl rfl rfl (decide (cmpSt o.node o.tm ≤ 0)) ga_t _ (fun hA v35 hv36 => R_pick (t := (stRight o.par)) (v := (.bool ((stRight o.par) || (fixedSt o.par)))) (gv_t hA) (pk_orA hA) ⟨rfl, Gr.refl _ _⟩) ?_
 refine Lx_q (i := 15) rfl rfl _ (fun v37 hv38 => R_pick (t := (decide (cmpSt o.node o.tm ≤ 0))) (v := (.bool ((decide (cmpSt o.node o.tm ≤ 0)) && ((stRight o.par) || (fixedSt o.par))))) rfl pk_and ⟨rfl, Gr.refl _ _⟩) ?_
 refine Lx_q (i := 16) rfl rfl _ (fun v39 hv40 => R_move (v := (.bool ((decide (cmpSt o.node o.tm ≤ 0)) && ((stRight o.par) || (fixedSt o.par))))) rfl ⟨rfl, Gr.refl _ _⟩) ?_
 refine Lx_qg (i := 17) true ((decide (cmpSt o.node o.tm ≤ 0)) && ((stRight o.par) || (fixedSt o.par))) rfl rfl rfl rfl rfl ((decide (cmpSt o.node o.tm ≤ 0)) && ((stRight o.par) || (fixedSt o.par))) ga_t _ (fun hA v41 hv42 => R_fieldAddr (off := 7) (oo := 7) Try.underlying39 rfl rfl Try.sizeOf9 rfl rfl ⟨rfl, Gr.refl _ _⟩) ?_
 refine Lx_qg (i := 18) true ((decide (cmpSt o.node o.tm ≤ 0)) && ((stRight o.par) || (fixedSt o.par))) rfl rfl rfl rfl rfl ((decide (cmpSt o.node o.tm ≤ 0)) && ((stRight o.par) || (fixedSt o.par))) ga_t _ (fun hA v43 hv44 => R_load1 (v := (.string o.name)) Try.isAgg9 (gv_t hA) ((boxR_at ((H6.ext hv44).getOwn 0 rfl)).chunks 7 1 7 7 _ rfl rfl rfl) ⟨rfl, Gr.refl _ _⟩) ?_
 refine Lx_qg (i := 19) true ((decide (cmpSt o.node o.tm ≤ 0)) && ((stRight o.par) || (fixedSt o.par))) rfl rfl rfl rfl rfl ((decide (cmpSt o.node o.tm ≤ 0)) && ((stRight o.par) || (fixedSt o.par))) ga_t (.bool (nameOk o.name)) (fun hA v45 hv46 => R_callL (vs := [(.string o.name)]) stamp_move_c85 rfl (lst1 (gv_t hA)) (stamp_Name o.name v45 )) ?_
 refine Lx_q (i := 20) rfl rfl _ (fun v47 hv48 => R_pick (t := ((decide (cmpSt o.node o.tm ≤ 0)) && ((stRight o.par) || (fixedSt o.par)))) (v := (.bool (((decide (cmpSt o.node o.tm ≤ 0)) && ((stRight o.par) || (fixedSt o.par))) && (nameOk o.name)))) rfl pk_and ⟨rfl, Gr.refl _ _⟩) ?_
 refine Lx_q (i := 21) rfl rfl _ (fun v49 hv50 => R_move (v := (.bool (((decide (cmpSt o.node o.tm ≤ 0)) && ((stRight o.par) || (fixedSt o.par))) && (nameOk o.name)))) rfl ⟨rfl, Gr.refl _ _⟩) ?_
 refine Lx_qg (i := 22) true (((decide (cmpSt o.node o.tm ≤ 0)) && ((stRight o.par) || (fixedSt o.par))) && (nameOk o.name)) rfl rfl rfl rfl rfl (((decide (cmpSt o.node o.tm ≤ 0)) && ((stRight o.par) || (fixedSt o.par))) && (nameOk o.name)) ga_t _ (fun hA v51 hv52 => R_fieldAddr (off := 8) (oo := 8) Try.underlying39 rfl rfl Try.sizeOf36 rfl rfl ⟨rfl, Gr.refl _ _⟩) ?_
 refine Lx_qg (i := 23) true (((decide (cmpSt o.node o.tm ≤ 0)) && ((stRight o.par) || (fixedSt o.par))) && (nameOk o.name)) rfl rfl rfl rfl rfl (((decide (cmpSt o.node o.tm ≤ 0)) && ((stRight o.par) || (fixedSt o.par))) && (nameOk o.name)) ga_t _ (fun hA v53 hv54 => R_loadA (cs := [(idCells o.data)]) Try.isAgg36 Try.sizeOf36 rfl (gv_t hA) ((boxR_at ((H6.ext hv54).getOwn 0 rfl)).chunks 8 1 8 8 _ rfl rfl rfl) ⟨rfl, Gr.refl _ _⟩) ?_
 refine Lx_qg (i := 24) true (((decide (cmpSt o.node o.tm ≤ 0)) && ((stRight o.par) || (fixedSt o.par))) && (nameOk o.name)) rfl rfl rfl rfl rfl (((decide (cmpSt o.node o.tm ≤ 0)) && ((stRight o.par) || (fixedSt o.par))) && (nameOk o.name)) ga_t _ (fun hA v55 hv56 => R_buildL (vs := []) (v := aggOf [(idCells zeroId)]) rfl (fun _ => by kernel_rfl) ⟨rfl, Gr.refl _ _⟩) ?_
 refine Lx_qg (i := 25) true (((decide (cmpSt o.node o.tm ≤ 0)) && ((stRight o.par) || (fixedSt o.par))) && (nameOk o.name)) rfl rfl rfl rfl rfl (((decide (cmpSt o.node o.tm ≤ 0)) && ((stRight o.par) || (fixedSt o.par))) && (nameOk o.name)) ga_t _ (fun hA v57 hv58 => R_eqv (a := o.data) (b := zeroId) eqv_ID36 rfl Try.eqGuardType36 (gv_t hA) (gv_t hA) ⟨rfl, Gr.refl _ _⟩) ?_
 refine Lx_q (i := 26) rfl rfl _ (fun v59 hv60 => R_pick (t := (((decide (cmpSt o.node o.tm ≤ 0)) && ((stRight o.par) || (fixedSt o.par))) && (nameOk o.name))) (v := (.bool ((((decide (cmpSt o.node o.tm ≤ 0)) && ((stRight o.par) || (fixedSt o.par))) && (nameOk o.name)) && (decide (o.data = zeroId))))) rfl pk_and ⟨rfl, Gr.refl _ _⟩) ?_
 refine Lx_q (i := 27) rfl rfl _ (fun v61 hv62 => R_move (v := (.bool ((((decide (cmpSt o.node o.tm ≤ 0)) && ((stRight o.par) || (fixedSt o.par))) && (nameOk o.name)) && (decide (o.data = zeroId))))) rfl ⟨rfl, Gr.refl _ _⟩) ?_
 refine Lx_qg (i := 28) true ((((decide (cmpSt o.node o.tm ≤ 0)) && ((stRight o.par) || (fixedSt o.par))) && (nameOk o.name)) && (decide (o.data = zeroId))) rfl rfl rfl rfl rfl ((((decide (cmpSt o.node o.tm ≤ 0)) && ((stRight o.par) || (fixedSt o.par))) && (nameOk o.name)) && (decide (o.data = zeroId))) ga_t _ (fun hA v63 hv64 => R_fieldAddr (off := 40) (oo := 40) Try.underlying39 rfl rfl Try.sizeOf37 rfl rfl ⟨rfl, Gr.refl _ _⟩) ?_
 refine Lx_qg (i := 29) true ((((decide (cmpSt o.node o.tm ≤ 0)) && ((stRight o.par) || (fixedSt o.par))) && (nameOk o.name)) && (decide (o.data = zeroId))) rfl rfl rfl rfl rfl ((((decide (cmpSt o.node o.tm ≤ 0)) && ((stRight o.par) || (fixedSt o.par))) && (nameOk o.name)) && (decide (o.data = zeroId))) ga_t _ (fun hA v65 hv66 => R_load1 (v := (slV o.oh o.over)) Try.isAgg37 (gv_t hA) ((boxR_at ((H6.ext hv66).getOwn 0 rfl)).chunks 9 1 40 40 _ rfl rfl rfl) ⟨rfl, Gr.refl _ _⟩) ?_
 refine Lx_qg (i := 30) true ((((decide (cmpSt o.node o.tm ≤ 0)) && ((stRight o.par) || (fixedSt o.par))) && (nameOk o.name)) && (decide (o.data = zeroId))) rfl rfl rfl rfl rfl ((((decide (cmpSt o.node o.tm ≤ 0)) && ((stRight o.par) || (fixedSt o.par))) && (nameOk o.name)) && (decide (o.data = zeroId))) ga_t _ (fun hA v67 hv68 => R_len_slice (a := o.oh.a) (n := o.over.length) (c := o.oh.c) Try.underlying37 (gv_t hA) ⟨rfl, Gr.refl _ _⟩) ?_
 refine Lx_qg (i := 31) true ((((decide (cmpSt o.node o.tm ≤ 0)) && ((stRight o.par) || (fixedSt o.par))) && (nameOk o.name)) && (decide (o.data = zeroId))) rfl rfl rfl rfl rfl ((((decide (cmpSt o.node o.tm ≤ 0)) && ((stRight o.par) || (fixedSt o.par))) && (nameOk o.name)) && (decide (o.data = zeroId))) ga_t _ (fun hA v69 hv70 => R_cmp (a := ((o.over.length : Nat) : Int)) (b := 0) (r := (decide (((o.over.length : Nat) : Int) = 0))) (gv_t hA) rfl rfl ⟨rfl, Gr.refl _ _⟩) ?_
 refine Lx_q (i := 32) rfl rfl _ (fun v71 hv72 => R_pick (t := ((((decide (cmpSt o.node o.tm ≤ 0)) && ((stRight o.par) || (fixedSt o.par))) && (nameOk o.name)) && (decide (o.data = zeroId)))) (v := (.bool (((((decide (cmpSt o.node o.tm ≤ 0)) && ((stRight o.par) || (fixedSt o.par))) && (nameOk o.name)) && (decide (o.data = zeroId))) && (decide (((o.over.length : Nat) : Int) = 0))))) rfl pk_and ⟨rfl, Gr.refl _ _⟩) ?_
 refine Lx_q (i := 33) rfl rfl _ (fun v73 hv74 => R_assign (v := (.bool (((((decide (cmpSt o.node o.tm ≤ 0)) && ((stRight o.par) || (fixedSt o.par))) && (nameOk o.name)) && (decide (o.data = zeroId))) && (decide (((o.over.length : Nat) : Int) = 0))))) rfl ⟨rfl, Gr.refl _ _⟩) ?_
 refine Lx_nil (fun w75 hw76 => ?_)
 have H77 := H6.ext hw76
 refine Then_n (W_ret ?_)
 refine ret_1 (v := (.bool (((((decide (cmpSt o.node o.tm ≤ 0)) && ((stRight o.par) || (fixedSt o.par))) && (nameOk o.name)) && (decide (o.data = zeroId))) && (decide (((o.over.length : Nat) : Int) = 0))))) Try.results75 rfl ?_
 exact ⟨moveOk_e, H77.gr⟩

end Go.Proofs.Ytiknfldhommmpaa
namespace Go.Proofs.Ytiknfldhommmpaa
open Go
set_option maxRecDepth 100000
set_option linter.unusedVariables false
set_option linter.unusedSimpArgs false
theorem stamp_Good_c35 : callable Try.prog 35 = true := by kernel_rfl
theorem stamp_Good_c75 : callable Try.prog 75 = true := by kernel_rfl
theorem stamp_Good_c76 : callable Try.prog 76 = true := by kernel_rfl
set_option maxHeartbeats 1000000 in
theorem stamp_Good (o : OpS) (w : World) (So_over : Sl (Old w) stampCh 2 o.oh o.over w) :
    Calls Try.prog 64 #[(aggOf (opCh o))] w (Ret fun v w' => v = (.bool (goodOp o)) ∧ Ext w w') := by
 refine calls_W Try.func64 rfl Try.ntmps64 rfl ?_
 have H0 := Ctx.start w nob
 have H1 := H0.addSl _ So_over (fun b hb => ⟨hb, fun _ ho => (nomatch ho)⟩)
 have LSo_over := So_over.len
 refine W_seq (W_reg ?_)
 refine O_v rfl (C_box H1 [[(.int .i64 o.kind)], [(.int .i64 o.tm.T)], [(.int .i64 o.tm.R)], [(.int .i64 o.node.T)], [(.int .i64 o.node.R)], [(.int .i64 o.par.T)], [(.int .i64 o.par.R)], [(.string o.name)], (idCells o.data), [(slV o.oh o.over)]] rfl ?_)
 intro b2 w3 hb4 hx5 H6
 refine O_v rfl (R_assign (v := (.bool false)) rfl ?_)
 refine O_nil (Then_n (W_seq (W_seq ?_)))
 refine W_rg [(0, .q false), (1, .q false), (2, .q false), (3, .q false), (4, .q false), (5, .q false), (6, .q false), (7, .q false), (8, .q false), (9, .q false)] (by kernel_rfl) ?_
 refine Lx_q (i := 0) rfl rfl _ (fun v7 hv8 => R_fieldAddr (off := 1) (oo := 1) Try.underlying39 rfl rfl Try.sizeOf24 rfl rfl ⟨rfl, Gr.refl _ _⟩) ?_
 refine Lx_q (i := 1) rfl rfl _ (fun v9 hv10 => R_loadA (cs := [[(.int .i64 o.tm.T)], [(.int .i64 o.tm.R)]]) Try.isAgg24 Try.sizeOf24 rfl rfl ((boxR_at ((H6.ext hv10).getOwn 0 rfl)).chunks 1 2 1 1 _ rfl rfl rfl) ⟨rfl, Gr.refl _ _⟩) ?_
 refine Lx_q (i := 2) rfl rfl (.bool (stRight o.tm)) (fun v11 hv12 => R_callL (vs := [(aggOf (stampCh o.tm))]) stamp_Good_c35 rfl rfl (stamp_Right o.tm v11 )) ?_
 refine Lx_q (i := 3) rfl rfl _ (fun v13 hv14 => R_not rfl ⟨rfl, Gr.refl _ _⟩) ?_
 refine Lx_q (i := 4) rfl rfl _ (fun v15 hv16 => R_move (v := (.bool (!(stRight o.tm)))) rfl ⟨rfl, Gr.refl _ _⟩) ?_
 refine Lx_qg (i := 5) true (!(stRight o.tm)) rfl rfl rfl rfl rfl (!(!(stRight o.tm))) ga_f _ (fun hA v17 hv18 => R_fieldAddr (off := 3) (oo := 3) Try.underlying39 rfl rfl Try.sizeOf24 rfl rfl ⟨rfl, Gr.refl _ _⟩) ?_
 refine Lx_qg (i := 6) true (!(stRight o.tm)) rfl rfl rfl rfl rfl (!(!(stRight o.tm))) ga_f _ (fun hA v19 hv20 => R_loadA (cs := [[(.int .i64 o.node.T)], [(.int .i64 o.node.R)]]) Try.isAgg24 Try.sizeOf24 rfl (gv_t hA) ((boxR_at ((H6.ext hv20).getOwn 0 rfl)).chunks 3 2 3 3 _ rfl rfl rfl) ⟨rfl, Gr.refl _ _⟩) ?_
 refine Lx_qg (i := 7) true (!(stRight o.tm)) rfl rfl rfl rfl rfl (!(!(stRight o.tm))) ga_f (.bool (stRight o.node)) (fun hA v21 hv22 => R_callL (vs := [(aggOf (stampCh o.node))]) stamp_Good_c35 rfl (lst1 (gv_t hA)) (stamp_Right o.node v21 )) ?_
 refine Lx_qg (i := 8) true (!(stRight o.tm)) rfl rfl rfl rfl rfl (!(!(stRight o.tm))) ga_f _ (fun hA v23 hv24 => R_not (gv_t hA) ⟨rfl, Gr.refl _ _⟩) ?_
 refine Lx_q (i := 9) rfl rfl _ (fun v25 hv26 => R_pick (t := (!(stRight o.tm))) (v := (.bool ((!(stRight o.tm)) || (!(stRight o.node))))) rfl pk_or ⟨rfl, Gr.refl _ _⟩) ?_
 refine Lx_nil (fun w27 hw28 => ?_)
 have H29 := H6.ext hw28
 refine Then_n ?_
 refine W_cond (t := ((!(stRight o.tm)) || (!(stRight o.node)))) rfl (fun hc30 => ?_) (fun hc30 => ?_)
 ·have hc30 : ((stRight o.tm) = false ∨ (stRight o.node) = false) := (Or.imp (fun h => (notT h)) (fun h => (notT h)) (orT hc30))
  refine W_seq (W_reg ?_)
  refine O_v rfl (R_assign (v := (.bool false)) rfl ?_)
  refine O_nil (Then_n (W_ret (Then_r ?_)))
  refine ret_1 (v := (.bool false)) Try.results64 rfl ?_
  exact ⟨(good_f (by assumption)), H29.gr⟩
 ·have hc30 : ((stRight o.tm) = true ∧ (stRight o.node) = true) := (And.imp (fun h => (notF h)) (fun h => (notF h)) (orF hc30))
  refine W_skip (Then_n (W_seq (W_seq (W_reg ?_))))
  refine O_v rfl (R_fieldAddr (off := 0) (oo := 0) Try.underlying39 rfl rfl Try.sizeOf3 rfl rfl ?_)
  refine O_v rfl (R_load1 (v := (.int .i64 o.kind)) Try.isAgg3 rfl ((boxR_at (H29.getOwn 0 rfl)).chunks 0 1 0 0 _ rfl rfl rfl) ?_)
  refine O_nil (Then_n (W_block (W_seq (W_reg ?_))))
  refine O_v rfl (R_cmp (a := o.kind) (b := 1) (r := (decide (o.kind = 1))) rfl rfl rfl ?_)
  refine O_v rfl (R_assign (v := (.bool (decide (o.kind = 1)))) rfl ?_)
  refine O_nil (Then_n ?_)
  refine W_cond (t := (decide (o.kind = 1))) rfl (fun hc31 => ?_) (fun hc31 => ?_)
  ·have hc31 : (o.kind = 1) := (of_decide_eq_true hc31)
   refine W_seq (W_reg ?_)
   refine O_v rfl (R_loadA (cs := [[(.int .i64 o.kind)], [(.int .i64 o.tm.T)], [(.int .i64 o.tm.R)], [(.int .i64 o.node.T)], [(.int .i64 o.node.R)], [(.int .i64 o.par.T)], [(.int .i64 o.par.R)], [(.string o.name)], (idCells o.data), [(slV o.oh o.over)]]) Try.isAgg39 Try.sizeOf39 rfl rfl ((boxR_at (H29.getOwn 0 rfl)).chunks 0 10 0 0 _ rfl rfl rfl) ?_)
   refine O_v rfl (R_callL (vs := [(aggOf (opCh o))]) stamp_Good_c75 rfl rfl ((stamp_move o w27 (H29.slOld 0 rfl)).ret ?_))
   rintro _ w32 ⟨rfl, hx33⟩
   have H34 := H29.ext hx33
   refine O_v rfl (R_assign (v := (.bool (moveOk o))) rfl ?_)
   refine O_nil (Then_n (W_ret (Blk_r (Then_r ?_))))
   refine ret_1 (v := (.bool (moveOk o))) Try.results64 rfl ?_
   exact ⟨(good_m (by assumption) (by assumption)), H34.gr⟩
  ·have hc31 : ¬ (o.kind = 1) := (of_decide_eq_false hc31)
   refine W_seq (W_reg ?_)
   refine O_v rfl (R_cmp (a := o.kind) (b := 2) (r := (decide (o.kind = 2))) rfl rfl rfl ?_)
   refine O_v rfl (R_assign (v := (.bool (decide (o.kind = 2)))) rfl ?_)
   refine O_nil (Then_n ?_)
   refine W_cond (t := (decide (o.kind = 2))) rfl (fun hc35 => ?_) (fun hc35 => ?_)
   ·have hc35 : (o.kind = 2) := (of_decide_eq_true hc35)
    refine W_seq (W_reg ?_)
    refine O_v rfl (R_loadA (cs := [[(.int .i64 o.kind)], [(.int .i64 o.tm.T)], [(.int .i64 o.tm.R)], [(.int .i64 o.node.T)], [(.int .i64 o.node.R)], [(.int .i64 o.par.T)], [(.int .i64 o.par.R)], [(.string o.name)], (idCells o.data), [(slV o.oh o.over)]]) Try.isAgg39 Try.sizeOf39 rfl rfl ((boxR_at (H29.getOwn 0 rfl)).chunks 0 10 0 0 _ rfl rfl rfl) ?_)
    refine O_v rfl (R_callL (vs := [(aggOf (opCh o))]) stamp_Good_c76 rfl rfl ((stamp_edit o w27 (H29.slOld 0 rfl)).ret ?_))
    rintro _ w36 ⟨rfl, hx37⟩
    have H38 := H29.ext hx37
    refine O_v rfl (R_assign (v := (.bool (editOk o))) rfl ?_)
    refine O_nil (Then_n (W_ret (Blk_r (Then_r ?_))))
    refine ret_1 (v := (.bool (editOk o))) Try.results64 rfl ?_
    exact ⟨(good_e (by assumption) (by assumption)), H38.gr⟩
   ·have hc35 : ¬ (o.kind = 2) := (of_decide_eq_false hc35)
    refine W_skip (Blk_n (Then_n (W_seq (W_reg ?_))))
    refine O_v rfl (R_assign (v := (.bool false)) rfl ?_)
    refine O_nil (Then_n (W_ret ?_))
    refine ret_1 (v := (.bool false)) Try.results64 rfl ?_
    exact ⟨(good_n (by assumption) (by assumption)), H29.gr⟩

end Go.Proofs.Ytiknfldhommmpaa
namespace Go.Proofs.Ytiknfldhommmpaa
open Go
set_option maxRecDepth 100000
set_option linter.unusedVariables false
set_option linter.unusedSimpArgs false
theorem maker_put_c64 : callable Try.prog 64 = true := by kernel_rfl
set_option maxHeartbeats 1000000 in
theorem maker_put (bm : Nat) (m : MakerS) (Sm : Nat → Prop) (o : OpS) (w : World) (Qm : Ctx w (objM bm m.oh m.ops) w [boxR bm 71 (makerCh m), rowR 39 41 opCh m.oh m.ops] [deepI Sm stampCh 2 (fun x : OpS => x.oh) (fun x : OpS => x.over) m.ops]) (Fo : Nat → Prop) (Xo : ∀ c, Fo c → c < w.heap.size ∧ ¬ (objM bm m.oh m.ops) c) (So_over : Sl Fo stampCh 2 o.oh o.over w) (hT : m.at_.T ≤ 4611686018427387904 ∧ -4611686018427387904 ≤ m.at_.T) (hl : m.ops.length ≤ 1048576) :
    Calls Try.prog 53 #[(.pointer (some ⟨bm, 0, none⟩)), (aggOf (opCh o))] w (Ret fun v w' => ∃ (m' : MakerS) (S' : Nat → Prop), v = .tuple #[] ∧ Gr (objM bm m.oh m.ops) w w' ∧ Ctx w' (objM bm m'.oh m'.ops) w' [boxR bm 71 (makerCh m'), rowR 39 41 opCh m'.oh m'.ops] [deepI S' stampCh 2 (fun x : OpS => x.oh) (fun x : OpS => x.over) m'.ops] ∧ (∀ c, (slV m'.oh m'.ops).ownBlock = some c → (slV m.oh m.ops).ownBlock = some c ∨ w.heap.size ≤ c) ∧ (∀ c, S' c → Sm c ∨ w.heap.size ≤ c ∨ Fo c) ∧ (m'.at_ = ⟨m.at_.T + 1, m.at_.R⟩ ∧ m'.bad = (m.bad || !goodOp (putOp m o)) ∧ ∃ h, m'.ops = m.ops ++ [{ putOp m o with oh := h }])) := by
 refine calls_W Try.func53 rfl Try.ntmps53 rfl ?_
 have H0 := Qm
 have H1 := H0.addSl _ So_over (fun b hb => ⟨(Xo b hb).1, objSide (Xo b hb).2⟩)
 have LSo_over := So_over.len
 refine W_seq (W_reg ?_)
 refine O_v rfl (C_box H1 [[(.int .i64 o.kind)], [(.int .i64 o.tm.T)], [(.int .i64 o.tm.R)], [(.int .i64 o.node.T)], [(.int .i64 o.node.R)], [(.int .i64 o.par.T)], [(.int .i64 o.par.R)], [(.string o.name)], (idCells o.data), [(slV o.oh o.over)]] rfl ?_)
 intro b2 w3 hb4 hx5 H6
 refine O_nil (Then_n (W_seq (W_reg ?_)))
 refine O_v rfl (R_move (v := (.pointer (some ⟨bm, 0, none⟩))) rfl ?_)
 refine O_v rfl (R_nilCheck rfl ?_)
 refine O_v rfl (R_fieldAddr (off := 0) (oo := 0) Try.underlying71 rfl rfl Try.sizeOf24 rfl rfl ?_)
 refine O_v rfl (R_loadA (cs := [[(.int .i64 m.at_.T)], [(.int .i64 m.at_.R)]]) Try.isAgg24 Try.sizeOf24 rfl rfl ((boxR_at (H6.getOwn 1 rfl)).chunks 0 2 0 0 _ rfl rfl rfl) ?_)
 refine O_v rfl (R_fieldAddr (off := 1) (oo := 1) Try.underlying39 rfl rfl Try.sizeOf24 rfl rfl ?_)
 refine O_u (C_storeA H6 0 rfl 1 (sub := [[(.int .i64 m.at_.T)], [(.int .i64 m.at_.R)]]) [[(.int .i64 o.kind)], [(.int .i64 m.at_.T)], [(.int .i64 m.at_.R)], [(.int .i64 o.node.T)], [(.int .i64 o.node.R)], [(.int .i64 o.par.T)], [(.int .i64 o.par.R)], [(.string o.name)], (idCells o.data), [(slV o.oh o.over)]] Try.sizeOf24 rfl rfl rfl rfl ⟨[[(.int .i64 o.tm.T)], [(.int .i64 o.tm.R)]], [[(.int .i64 o.node.T)], [(.int .i64 o.node.R)], [(.int .i64 o.par.T)], [(.int .i64 o.par.R)], [(.string o.name)], (idCells o.data), [(slV o.oh o.over)]], rfl, rfl, rfl⟩ rfl ?_)
 intro w7 hg8 H9
 refine O_nil (Then_n (W_seq (W_reg ?_)))
 refine O_v rfl (R_move (v := (.pointer (some ⟨bm, 0, none⟩))) rfl ?_)
 refine O_v rfl (R_nilCheck rfl ?_)
 refine O_v rfl (R_fieldAddr (off := 0) (oo := 0) Try.underlying71 rfl rfl Try.sizeOf24 rfl rfl ?_)
 refine O_v rfl (R_fieldAddr (off := 0) (oo := 0) Try.underlying24 rfl rfl Try.sizeOf2 rfl rfl ?_)
 refine O_v rfl (R_load1 (v := (.int .i64 m.at_.T)) Try.isAgg2 rfl ((boxR_at (H9.getOwn 1 rfl)).chunks 0 1 0 0 _ rfl rfl rfl) ?_)
 refine O_v rfl (R_arith (a := m.at_.T) (b := 1) (r0 := m.at_.T + 1) (r := m.at_.T + 1) rfl rfl rfl (w64 _ (by omega)) ?_)
 refine O_v rfl (R_nilCheck rfl ?_)
 refine O_v rfl (R_fieldAddr (off := 0) (oo := 0) Try.underlying71 rfl rfl Try.sizeOf24 rfl rfl ?_)
 refine O_v rfl (R_fieldAddr (off := 0) (oo := 0) Try.underlying24 rfl rfl Try.sizeOf2 rfl rfl ?_)
 refine O_u (C_store1 H9 1 rfl 0 (v := (.int .i64 (m.at_.T + 1))) [[(.int .i64 (m.at_.T + 1))], [(.int .i64 m.at_.R)], [(slV m.oh m.ops)], [(.bool m.bad)]] Try.sizeOf2 rfl rfl rfl rfl rfl rfl rfl ?_)
 intro w10 hg11 H12
 refine O_nil (Then_n (W_seq ?_))
 refine W_rgM (fun _ => True) (fun i => i == 12) [(0, .q true), (1, .q true), (2, .q true), (3, .q true), (4, .q false), (5, .q true), (6, .q false), (7, .q false), (8, .q true), (9, .q true), (10, .q true), (11, .q true), (12, .c true)] (by kernel_rfl) ?_
 refine Lx_q (i := 0) rfl rfl _ (fun v13 hv14 => R_move (v := (.pointer (some ⟨bm, 0, none⟩))) rfl ⟨rfl, Gr.refl _ _⟩) ?_
 refine Lx_q (i := 1) rfl rfl _ (fun v15 hv16 => R_move (v := (.pointer (some ⟨bm, 0, none⟩))) rfl ⟨rfl, Gr.refl _ _⟩) ?_
 refine Lx_q (i := 2) rfl rfl _ (fun v17 hv18 => R_nilCheck rfl ⟨rfl, Gr.refl _ _⟩) ?_
 refine Lx_q (i := 3) rfl rfl _ (fun v19 hv20 => R_fieldAddr (off := 3) (oo := 3) Try.underlying71 rfl rfl Try.sizeOf4 rfl rfl ⟨rfl, Gr.refl _ _⟩) ?_
 refine Lx_q (i := 4) rfl rfl _ (fun v21 hv22 => R_load1 (v := (.bool m.bad)) Try.isAgg4 rfl ((boxR_at ((H12.ext hv22).getOwn 1 rfl)).chunks 3 1 3 3 _ rfl rfl rfl) ⟨rfl, Gr.refl _ _⟩) ?_
 refine Lx_q (i := 5) rfl rfl _ (fun v23 hv24 => R_move (v := (.bool m.bad)) rfl ⟨rfl, Gr.refl _ _⟩) ?_
 refine Lx_qg (i := 6) true m.bad rfl rfl rfl rfl rfl (!m.bad) ga_f _ (fun hA v25 hv26 => R_loadA (cs := [[(.int .i64 o.kind)], [(.int .i64 m.at_.T)], [(.int .i64 m.at_.R)], [(.int .i64 o.node.T)], [(.int .i64 o.node.R)], [(.int .i64 o.par.T)], [(.int .i64 o.par.R)], [(.string o.name)], (idCells o.data), [(slV o.oh o.over)]]) Try.isAgg39 Try.sizeOf39 rfl rfl ((boxR_at ((H12.ext hv26).getOwn 0 rfl)).chunks 0 10 0 0 _ rfl rfl rfl) ⟨rfl, Gr.refl _ _⟩) ?_
 refine Lx_qg (i := 7) true m.bad rfl rfl rfl rfl rfl (!m.bad) ga_f (.bool (goodOp ({ kind := o.kind, tm := m.at_, node := o.node, par := o.par, name := o.name, data := o.data, over := o.over, oh := o.oh } : OpS))) (fun hA v27 hv28 => R_callL (vs := [(aggOf [[(.int .i64 o.kind)], [(.int .i64 m.at_.T)], [(.int .i64 m.at_.R)], [(.int .i64 o.node.T)], [(.int .i64 o.node.R)], [(.int .i64 o.par.T)], [(.int .i64 o.par.R)], [(.string o.name)], (idCells o.data), [(slV o.oh o.over)]])]) maker_put_c64 rfl (lst1 (gv_t hA)) (stamp_Good ({ kind := o.kind, tm := m.at_, node := o.node, par := o.par, name := o.name, data := o.data, over := o.over, oh := o.oh } : OpS) v27 ((H12.ext hv28).slOld 0 rfl))) ?_
 refine Lx_qg (i := 8) true m.bad rfl rfl rfl rfl rfl (!m.bad) ga_f _ (fun hA v29 hv30 => R_not (gv_t hA) ⟨rfl, Gr.refl _ _⟩) ?_
 refine Lx_q (i := 9) rfl rfl _ (fun v31 hv32 => R_pick (t := m.bad) (v := (.bool (m.bad || (!(goodOp ({ kind := o.kind, tm := m.at_, node := o.node, par := o.par, name := o.name, data := o.data, over := o.over, oh := o.oh } : OpS)))))) rfl pk_or ⟨rfl, Gr.refl _ _⟩) ?_
 refine Lx_q (i := 10) rfl rfl _ (fun v33 hv34 => R_nilCheck rfl ⟨rfl, Gr.refl _ _⟩) ?_
 refine Lx_q (i := 11) rfl rfl _ (fun v35 hv36 => R_fieldAddr (off := 3) (oo := 3) Try.underlying71 rfl rfl Try.sizeOf4 rfl rfl ⟨rfl, Gr.refl _ _⟩) ?_
 refine Lx_cu (i := 12) rfl (fun w37 hw38 => ?_)
 have H39 := H12.ext hw38
 refine (C_store1 H39 1 rfl 3 (v := (.bool (m.bad || (!(goodOp ({ kind := o.kind, tm := m.at_, node := o.node, par := o.par, name := o.name, data := o.data, over := o.over, oh := o.oh } : OpS)))))) [[(.int .i64 (m.at_.T + 1))], [(.int .i64 m.at_.R)], [(slV m.oh m.ops)], [(.bool (m.bad || (!(goodOp ({ kind := o.kind, tm := m.at_, node := o.node, par := o.par, name := o.name, data := o.data, over := o.over, oh := o.oh } : OpS)))))]] Try.sizeOf4 rfl rfl rfl rfl rfl rfl rfl ?_)
 intro w40 hg41 H42
 refine ⟨Gr.mono (M' := fun _ => True) hg41 (fun _ _ => trivial), ?_⟩
 refine Lx_nil (fun w43 hw44 => ?_)
 have H45 := H42.ext hw44
 refine Then_n ?_
 refine W_rgdM TryMixed (fun _ => True) (fun i => i == 7 || i == 10) [(0, .q true), (1, .q true), (2, .q true), (3, .q true), (4, .q false), (5, .q false), (6, .c false), (7, .c true), (8, .q true), (9, .q true), (10, .c true)] (by kernel_rfl) ?_
 refine Lx_q (i := 0) rfl rfl _ (fun v46 hv47 => R_move (v := (.pointer (some ⟨bm, 0, none⟩))) rfl ⟨rfl, Gr.refl _ _⟩) ?_
 refine Lx_q (i := 1) rfl rfl _ (fun v48 hv49 => R_move (v := (.pointer (some ⟨bm, 0, none⟩))) rfl ⟨rfl, Gr.refl _ _⟩) ?_
 refine Lx_q (i := 2) rfl rfl _ (fun v50 hv51 => R_nilCheck rfl ⟨rfl, Gr.refl _ _⟩) ?_
 refine Lx_q (i := 3) rfl rfl _ (fun v52 hv53 => R_fieldAddr (off := 2) (oo := 2) Try.underlying71 rfl rfl Try.sizeOf31 rfl rfl ⟨rfl, Gr.refl _ _⟩) ?_
 refine Lx_q (i := 4) rfl rfl _ (fun v54 hv55 => R_load1 (v := (slV m.oh m.ops)) Try.isAgg31 rfl ((boxR_at ((H45.ext hv55).getOwn 1 rfl)).chunks 2 1 2 2 _ rfl rfl rfl) ⟨rfl, Gr.refl _ _⟩) ?_
 refine Lx_q (i := 5) rfl rfl _ (fun v56 hv57 => R_loadA (cs := [[(.int .i64 o.kind)], [(.int .i64 m.at_.T)], [(.int .i64 m.at_.R)], [(.int .i64 o.node.T)], [(.int .i64 o.node.R)], [(.int .i64 o.par.T)], [(.int .i64 o.par.R)], [(.string o.name)], (idCells o.data), [(slV o.oh o.over)]]) Try.isAgg39 Try.sizeOf39 rfl rfl ((boxR_at ((H45.ext hv57).getOwn 0 rfl)).chunks 0 10 0 0 _ rfl rfl rfl) ⟨rfl, Gr.refl _ _⟩) ?_
 refine Lx_c (i := 6) rfl rfl (fun w58 hw59 => ?_)
 have H60 := H45.ext hw59
 refine (C_buildSliceL H60 (enc := opCh) (val := opV) ([({ kind := o.kind, tm := m.at_, node := o.node, par := o.par, name := o.name, data := o.data, over := o.over, oh := o.oh } : OpS)] : List OpS) Try.underlying31 Try.sizeOf39 Try.zeroValue39 rfl (by decide) (fun _ => rfl) (fun _ => rfl) rfl rfl (by decide) ?_)
 intro b61 w62 hb63 hx64 H65
 refine ⟨GrF.ofExt hx64, ?_⟩
 refine Lx_c (i := 7) rfl rfl (fun w66 hw67 => ?_)
 have H68 := H65.ext hw67
 refine (C_append H68 3 rfl (bytes := 128) (l := m.ops) (ys := ([({ kind := o.kind, tm := m.at_, node := o.node, par := o.par, name := o.name, data := o.data, over := o.over, oh := o.oh } : OpS)] : List OpS)) Try.underlying31 rfl rfl rfl rfl rfl (by decide) rfl rfl (OwnS.sl (H68.getOwn 0 rfl) (fun _ => rfl)) (fun _ => rfl) (fun _ => rfl) (by simp only [List.length_append, List.length_cons, List.length_nil]; omega) (by decide) ?_)
 intro h69 w70 hg71 H72
 refine ⟨Gr.mono (M' := fun _ => True) hg71 (fun _ _ => trivial), ?_⟩
 refine Lx_q (i := 8) rfl rfl _ (fun v73 hv74 => R_nilCheck rfl ⟨rfl, Gr.refl _ _⟩) ?_
 refine Lx_q (i := 9) rfl rfl _ (fun v75 hv76 => R_fieldAddr (off := 2) (oo := 2) Try.underlying71 rfl rfl Try.sizeOf31 rfl rfl ⟨rfl, Gr.refl _ _⟩) ?_
 refine Lx_cu (i := 10) rfl (fun w77 hw78 => ?_)
 have H79 := H72.ext hw78
 refine (C_store1 H79 2 rfl 2 (v := (slV h69 (m.ops ++ ([({ kind := o.kind, tm := m.at_, node := o.node, par := o.par, name := o.name, data := o.data, over := o.over, oh := o.oh } : OpS)] : List OpS)))) [[(.int .i64 (m.at_.T + 1))], [(.int .i64 m.at_.R)], [(slV h69 (m.ops ++ ([({ kind := o.kind, tm := m.at_, node := o.node, par := o.par, name := o.name, data := o.data, over := o.over, oh := o.oh } : OpS)] : List OpS)))], [(.bool (m.bad || (!(goodOp ({ kind := o.kind, tm := m.at_, node := o.node, par := o.par, name := o.name, data := o.data, over := o.over, oh := o.oh } : OpS)))))]] Try.sizeOf31 rfl rfl rfl rfl rfl rfl rfl ?_)
 intro w80 hg81 H82
 refine ⟨Gr.mono (M' := fun _ => True) hg81 (fun _ _ => trivial), ?_⟩
 refine Lx_nil (fun w83 hw84 => ?_)
 have H85 := H82.ext hw84
 refine ret_n ?_
 have H86 := H85.deepSnoc 1 rfl 0 rfl (({ kind := o.kind, tm := m.at_, node := o.node, par := o.par, name := o.name, data := o.data, over := o.over, oh := o.oh } : OpS)) rfl rfl
 refine ret_0 Try.results53 ?_
 have HQ := (H86.pick (B' := [boxR bm 71 [[(.int .i64 (m.at_.T + 1))], [(.int .i64 m.at_.R)], [(slV h69 (m.ops ++ ([({ kind := o.kind, tm := m.at_, node := o.node, par := o.par, name := o.name, data := o.data, over := o.over, oh := o.oh } : OpS)] : List OpS)))], [(.bool (m.bad || (!(goodOp ({ kind := o.kind, tm := m.at_, node := o.node, par := o.par, name := o.name, data := o.data, over := o.over, oh := o.oh } : OpS)))))]], rowR 39 41 opCh h69 (m.ops ++ ([({ kind := o.kind, tm := m.at_, node := o.node, par := o.par, name := o.name, data := o.data, over := o.over, oh := o.oh } : OpS)] : List OpS))]) (I' := [deepI (fun b => Sm b ∨ Fo b) stampCh 2 (fun x : OpS => x.oh) (fun x : OpS => x.over) (m.ops ++ ([({ kind := o.kind, tm := m.at_, node := o.node, par := o.par, name := o.name, data := o.data, over := o.over, oh := o.oh } : OpS)] : List OpS))]) [2, 3] (by decide) rfl (List.forall_mem_cons.2 ⟨List.mem_of_getElem? (i := 0) rfl, fun _ h => (nomatch h)⟩)).objStart
 exact ⟨({ at_ := ({ T := (m.at_.T + 1), R := m.at_.R } : Stamp), ops := m.ops ++ ([({ kind := o.kind, tm := m.at_, node := o.node, par := o.par, name := o.name, data := o.data, over := o.over, oh := o.oh } : OpS)] : List OpS), oh := h69, bad := (m.bad || (!(goodOp ({ kind := o.kind, tm := m.at_, node := o.node, par := o.par, name := o.name, data := o.data, over := o.over, oh := o.oh } : OpS)))) } : MakerS), _, rfl, H86.gr, HQ, H86.objBlk 2 3 (by decide) rfl rfl, (fun c hc => hc.elim .inl (fun h => .inr (.inr h))), ⟨rfl, rfl, _, rfl⟩⟩

end Go.Proofs.Ytiknfldhommmpaa
namespace Go.Proofs.Ytiknfldhommmpaa
open Go
set_option maxRecDepth 100000
set_option linter.unusedVariables false
set_option linter.unusedSimpArgs false
theorem maker_edits_c24 : callable Try.prog 24 = true := by kernel_rfl
theorem maker_edits_c30 : callable Try.prog 30 = true := by kernel_rfl
theorem maker_edits_c53 : callable Try.prog 53 = true := by kernel_rfl
set_option maxHeartbeats 1000000 in
theorem maker_edits (bm : Nat) (m : MakerS) (Sm : Nat → Prop) (ha : SlH) (a : List RowS) (hb : SlH) (b : List RowS) (w : World) (Qm : Ctx w (objM bm m.oh m.ops) w [boxR bm 71 (makerCh m), rowR 39 41 opCh m.oh m.ops] [deepI Sm stampCh 2 (fun x : OpS => x.oh) (fun x : OpS => x.over) m.ops]) (Fa : Nat → Prop) (Xa : ∀ c, Fa c → c < w.heap.size ∧ ¬ (objM bm m.oh m.ops) c) (Sa : Sl Fa rowCh 8 ha a w) (Da_heads : ∀ x ∈ a, Sl Fa headCh 34 x.hh x.heads w) (Fb : Nat → Prop) (Xb : ∀ c, Fb c → c < w.heap.size ∧ ¬ (objM bm m.oh m.ops) c) (Sb : Sl Fb rowCh 8 hb b w) (Db_heads : ∀ x ∈ b, Sl Fb headCh 34 x.hh x.heads w) (hlb : b.length ≤ 5000) (hha : ∀ x ∈ a, x.heads.length ≤ 1048576) (hT : 0 ≤ m.at_.T ∧ m.at_.T ≤ 2199023255552) (hml : m.ops.length ≤ 100000) :
    Calls Try.prog 37 #[(.pointer (some ⟨bm, 0, none⟩)), (slV ha a), (slV hb b)] w (Ret fun v w' => ∃ (m' : MakerS) (S' : Nat → Prop), v = (.bool (editsOne a b)) ∧ Gr (objM bm m.oh m.ops) w w' ∧ Ctx w' (objM bm m'.oh m'.ops) w' [boxR bm 71 (makerCh m'), rowR 39 41 opCh m'.oh m'.ops] [deepI S' stampCh 2 (fun x : OpS => x.oh) (fun x : OpS => x.over) m'.ops] ∧ (∀ c, (slV m'.oh m'.ops).ownBlock = some c → (slV m.oh m.ops).ownBlock = some c ∨ w.heap.size ≤ c) ∧ (∀ c, S' c → Sm c ∨ w.heap.size ≤ c) ∧ (m'.st = (editsOf a b).foldl putC m.st)) := by
 refine calls_W Try.func37 rfl Try.ntmps37 rfl ?_
 have H0 := Qm
 have H1 := H0.addSl _ Sa (fun b hb => ⟨(Xa b hb).1, objSide (Xa b hb).2⟩)
 have LSa := Sa.len
 have H2 := H1.addImm' (deepI (Fa) headCh 34 (fun x : RowS => x.hh) (fun x : RowS => x.heads) a) Da_heads (fun b hb => ⟨(Xa b hb).1, objSide (Xa b hb).2⟩)
 have H3 := H2.addSl _ Sb (fun b hb => ⟨(Xb b hb).1, objSide (Xb b hb).2⟩)
 have LSb := Sb.len
 have H4 := H3.addImm' (deepI (Fb) headCh 34 (fun x : RowS => x.hh) (fun x : RowS => x.heads) b) Db_heads (fun b hb => ⟨(Xb b hb).1, objSide (Xb b hb).2⟩)
 refine W_seq (W_reg ?_)
 refine O_v rfl (R_assign (v := (.bool false)) rfl ?_)
 refine O_nil (Then_n (W_seq (W_reg ?_)))
 refine O_v rfl (R_move (v := (slV ha a)) rfl ?_)
 refine O_v rfl (R_callL (vs := [(slV ha a)]) maker_edits_c24 rfl rfl ((differ_of ha a w (H4.slOld 3 rfl)).ret ?_))
 rintro _ w6 ⟨r5, rfl, hx7, hr8, hm9⟩
 have H10 := C_addMap H4 hx7 hr8 hm9
 refine O_v rfl (R_assign (v := (.map (some r5))) rfl ?_)
 refine O_nil (Then_n (W_seq (W_reg ?_)))
 refine O_v rfl (R_assign (v := (.bool true)) rfl ?_)
 refine O_nil (Then_n (W_seq (W_seq (W_reg ?_))))
 refine O_v rfl (R_move (v := (slV hb b)) rfl ?_)
 refine O_v rfl (R_len_slice (a := hb.a) (n := b.length) (c := hb.c) Try.underlying22 rfl ?_)
 refine O_v rfl (R_move (v := (.int .i64 0)) rfl ?_)
 refine O_nil (Then_n (W_block ?_))
 refine W_loop (fun m11 e12 w13 => ∃ (k : Nat), ∃ (mm : MakerS), ∃ (one : Bool), ∃ (SS : Nat → Prop), m11 = b.length - k ∧ (k ≤ b.length) ∧ (mm.st = (editsOf a (b.take k)).foldl putC m.st) ∧ (one = editsOne a (b.take k)) ∧ (∀ c, SS c → Sm c ∨ w.heap.size ≤ c) ∧ ∃ eb14, e12 = envL [(0, (.pointer (some ⟨bm, 0, none⟩))), (6, (.bool false)), (7, (.map (some r5))), (8, (.bool one)), (17, (slV hb b)), (18, (.int .i64 ((b.length : Nat) : Int))), (19, (.int .i64 ((k : Nat) : Int)))] eb14 ∧ Ctx w (objM bm m.oh m.ops) w13 [mapO r5 (fun x : Stamp => stampV x) rowV (tableOf a), boxR bm 71 [[(.int .i64 mm.at_.T)], [(.int .i64 mm.at_.R)], [(slV mm.oh mm.ops)], [(.bool mm.bad)]], rowR 39 41 opCh mm.oh mm.ops] [deepI Fb headCh 34 (fun x : RowS => x.hh) (fun x : RowS => x.heads) b, slI Fb rowCh 8 hb b, deepI Fa headCh 34 (fun x : RowS => x.hh) (fun x : RowS => x.heads) a, slI Fa rowCh 8 ha a, deepI SS stampCh 2 (fun x : OpS => x.oh) (fun x : OpS => x.over) mm.ops]) _ ⟨0, m, true, Sm, rfl, (by omega), rfl, rfl, (fun c h => .inl h), _, envL_self ⟨rfl, rfl, rfl, rfl, rfl, rfl, rfl, trivial⟩, H10⟩ ?_
 rintro m11 _ w13 ⟨k, mm, one, SS, rfl, hk, hst, hone, hSS, eb14, rfl, H15⟩
 refine W_seq (W_reg ?_)
 refine O_v rfl (R_cmp (a := ((k : Nat) : Int)) (b := ((b.length : Nat) : Int)) (r := (decide (((k : Nat) : Int) < ((b.length : Nat) : Int)))) rfl rfl rfl ?_)
 refine O_nil (Then_n (W_seq ?_))
 refine W_cond (t := (decide (((k : Nat) : Int) < ((b.length : Nat) : Int)))) rfl (fun hc16 => ?_) (fun hc16 => ?_)
 ·have hc16 : (((k : Nat) : Int) < ((b.length : Nat) : Int)) := (of_decide_eq_true hc16)
  refine W_skip (Then_n (W_seq (W_block (W_seq (W_reg ?_)))))
  refine O_v rfl (R_index_pure (H15.sl 1 rfl) (n := b.length) rfl (j := ((k : Nat) : Int)) (oo := (hb.o + k * 8)) Try.underlying22 Try.sizeOf44 rfl rfl (by omega) (by omega) rfl ?_)
  refine O_v rfl (R_loadA (cs := [[(.int .i64 (((nth b k).node).T))], [(.int .i64 (((nth b k).node).R))], [(.int .i64 (((nth b k).par).T))], [(.int .i64 (((nth b k).par).R))], [(.int .i64 (((nth b k).tm).T))], [(.int .i64 (((nth b k).tm).R))], [(.string ((nth b k).name))], [(slV ((nth b k).hh) ((nth b k).heads))]]) Try.isAgg44 Try.sizeOf44 rfl rfl ((Sl.elem (H15.sl 1 rfl) (i := k) (by omega) rfl).chunks 0 8 0 (hb.o + k * 8) _ rfl rfl rfl) ?_)
  refine O_v rfl (C_alloc H15 [[(.int .i64 0)], [(.int .i64 0)], [(.int .i64 0)], [(.int .i64 0)], [(.int .i64 0)], [(.int .i64 0)], [(.string ByteArray.empty)], [(.slice none 0 0)]] Try.zeroValue44 ?_)
  intro b17 w18 hb19 hx20 H21
  refine O_u (C_storeA H21 0 rfl 0 (sub := [[(.int .i64 (((nth b k).node).T))], [(.int .i64 (((nth b k).node).R))], [(.int .i64 (((nth b k).par).T))], [(.int .i64 (((nth b k).par).R))], [(.int .i64 (((nth b k).tm).T))], [(.int .i64 (((nth b k).tm).R))], [(.string ((nth b k).name))], [(slV ((nth b k).hh) ((nth b k).heads))]]) [[(.int .i64 (((nth b k).node).T))], [(.int .i64 (((nth b k).node).R))], [(.int .i64 (((nth b k).par).T))], [(.int .i64 (((nth b k).par).R))], [(.int .i64 (((nth b k).tm).T))], [(.int .i64 (((nth b k).tm).R))], [(.string ((nth b k).name))], [(slV ((nth b k).hh) ((nth b k).heads))]] Try.sizeOf44 rfl rfl rfl rfl ⟨[[(.int .i64 0)], [(.int .i64 0)], [(.int .i64 0)], [(.int .i64 0)], [(.int .i64 0)], [(.int .i64 0)], [(.string ByteArray.empty)], [(.slice none 0 0)]], [], rfl, rfl, rfl⟩ rfl ?_)
  intro w22 hg23 H24
  refine O_nil (Then_n (W_seq (W_reg ?_)))
  refine O_v rfl (R_move (v := (.map (some r5))) rfl ?_)
  refine O_v rfl (R_fieldAddr (off := 0) (oo := 0) Try.underlying44 rfl rfl Try.sizeOf24 rfl rfl ?_)
  refine O_v rfl (R_loadA (cs := [[(.int .i64 (((nth b k).node).T))], [(.int .i64 (((nth b k).node).R))]]) Try.isAgg24 Try.sizeOf24 rfl rfl ((boxR_at (H24.getOwn 0 rfl)).chunks 0 2 0 0 _ rfl rfl rfl) ?_)
  refine O_v rfl (R_lookup (kk := ((nth b k).node)) (z := zeroRow) keyT_Stamp24 Try.underlying56 Try.zeroValue44 (H24.getOwn 1 rfl) rfl rfl ?_)
  refine O_v rfl (C_alloc H24 [[(.int .i64 0)], [(.int .i64 0)], [(.int .i64 0)], [(.int .i64 0)], [(.int .i64 0)], [(.int .i64 0)], [(.string ByteArray.empty)], [(.slice none 0 0)]] Try.zeroValue44 ?_)
  intro b25 w26 hb27 hx28 H29
  refine O_u (C_storeA H29 0 rfl 0 (sub := [[(.int .i64 ((((kvGet (tableOf a) ((nth b k).node)).getD zeroRow).node).T))], [(.int .i64 ((((kvGet (tableOf a) ((nth b k).node)).getD zeroRow).node).R))], [(.int .i64 ((((kvGet (tableOf a) ((nth b k).node)).getD zeroRow).par).T))], [(.int .i64 ((((kvGet (tableOf a) ((nth b k).node)).getD zeroRow).par).R))], [(.int .i64 ((((kvGet (tableOf a) ((nth b k).node)).getD zeroRow).tm).T))], [(.int .i64 ((((kvGet (tableOf a) ((nth b k).node)).getD zeroRow).tm).R))], [(.string (((kvGet (tableOf a) ((nth b k).node)).getD zeroRow).name))], [(slV (((kvGet (tableOf a) ((nth b k).node)).getD zeroRow).hh) (((kvGet (tableOf a) ((nth b k).node)).getD zeroRow).heads))]]) [[(.int .i64 ((((kvGet (tableOf a) ((nth b k).node)).getD zeroRow).node).T))], [(.int .i64 ((((kvGet (tableOf a) ((nth b k).node)).getD zeroRow).node).R))], [(.int .i64 ((((kvGet (tableOf a) ((nth b k).node)).getD zeroRow).par).T))], [(.int .i64 ((((kvGet (tableOf a) ((nth b k).node)).getD zeroRow).par).R))], [(.int .i64 ((((kvGet (tableOf a) ((nth b k).node)).getD zeroRow).tm).T))], [(.int .i64 ((((kvGet (tableOf a) ((nth b k).node)).getD zeroRow).tm).R))], [(.string (((kvGet (tableOf a) ((nth b k).node)).getD zeroRow).name))], [(slV (((kvGet (tableOf a) ((nth b k).node)).getD zeroRow).hh) (((kvGet (tableOf a) ((nth b k).node)).getD zeroRow).heads))]] Try.sizeOf44 rfl rfl rfl rfl ⟨[[(.int .i64 0)], [(.int .i64 0)], [(.int .i64 0)], [(.int .i64 0)], [(.int .i64 0)], [(.int .i64 0)], [(.string ByteArray.empty)], [(.slice none 0 0)]], [], rfl, rfl, rfl⟩ rfl ?_)
  intro w30 hg31 H32
  refine O_nil (Then_n (W_seq (W_seq (W_reg ?_))))
  refine O_v rfl (R_loadA (cs := [[(.int .i64 ((((kvGet (tableOf a) ((nth b k).node)).getD zeroRow).node).T))], [(.int .i64 ((((kvGet (tableOf a) ((nth b k).node)).getD zeroRow).node).R))], [(.int .i64 ((((kvGet (tableOf a) ((nth b k).node)).getD zeroRow).par).T))], [(.int .i64 ((((kvGet (tableOf a) ((nth b k).node)).getD zeroRow).par).R))], [(.int .i64 ((((kvGet (tableOf a) ((nth b k).node)).getD zeroRow).tm).T))], [(.int .i64 ((((kvGet (tableOf a) ((nth b k).node)).getD zeroRow).tm).R))], [(.string (((kvGet (tableOf a) ((nth b k).node)).getD zeroRow).name))], [(slV (((kvGet (tableOf a) ((nth b k).node)).getD zeroRow).hh) (((kvGet (tableOf a) ((nth b k).node)).getD zeroRow).heads))]]) Try.isAgg44 Try.sizeOf44 rfl rfl ((boxR_at (H32.getOwn 0 rfl)).chunks 0 8 0 0 _ rfl rfl rfl) ?_)
  refine O_v rfl (R_loadA (cs := [[(.int .i64 (((nth b k).node).T))], [(.int .i64 (((nth b k).node).R))], [(.int .i64 (((nth b k).par).T))], [(.int .i64 (((nth b k).par).R))], [(.int .i64 (((nth b k).tm).T))], [(.int .i64 (((nth b k).tm).R))], [(.string ((nth b k).name))], [(slV ((nth b k).hh) ((nth b k).heads))]]) Try.isAgg44 Try.sizeOf44 rfl rfl ((boxR_at (H32.getOwn 1 rfl)).chunks 0 8 0 0 _ rfl rfl rfl) ?_)
  refine O_v rfl (R_callL (vs := [(aggOf (rowCh ((kvGet (tableOf a) ((nth b k).node)).getD zeroRow))), (aggOf (rowCh (nth b k)))]) maker_edits_c30 rfl rfl ((differ_sameData ((kvGet (tableOf a) ((nth b k).node)).getD zeroRow) (nth b k) w30 (tab_deep (H32.deepOld 2 rfl) ((nth b k).node)) (H32.deepOld 0 rfl _ (nth_mem (by omega)))).ret ?_))
  rintro _ w33 ⟨rfl, hx34⟩
  have H35 := H32.ext hx34
  refine O_nil (Then_n ?_)
  refine W_cond (t := (decide (datas ((kvGet (tableOf a) ((nth b k).node)).getD zeroRow).heads = datas (nth b k).heads))) rfl (fun hc36 => ?_) (fun hc36 => ?_)
  ·have hc36 : (datas ((kvGet (tableOf a) ((nth b k).node)).getD zeroRow).heads = datas (nth b k).heads) := (of_decide_eq_true hc36)
   refine W_exit (Then_x (Blk_x (Then_n (W_reg ?_))))
   refine O_v rfl (R_arith (a := ((k : Nat) : Int)) (b := 1) (r0 := ((k : Nat) : Int) + 1) (r := ((k + 1 : Nat) : Int)) rfl rfl rfl (wrapN _ (by omega)) ?_)
   refine O_v rfl (R_move (v := (.int .i64 ((k + 1 : Nat) : Int))) rfl ?_)
   refine O_nil (Then_n ?_)
   have H37 := H35.sub (B' := [mapO r5 (fun x : Stamp => stampV x) rowV (tableOf a), boxR bm 71 [[(.int .i64 mm.at_.T)], [(.int .i64 mm.at_.R)], [(slV mm.oh mm.ops)], [(.bool mm.bad)]], rowR 39 41 opCh mm.oh mm.ops]) (I' := [deepI Fb headCh 34 (fun x : RowS => x.hh) (fun x : RowS => x.heads) b, slI Fb rowCh 8 hb b, deepI Fa headCh 34 (fun x : RowS => x.hh) (fun x : RowS => x.heads) a, slI Fa rowCh 8 ha a, deepI SS stampCh 2 (fun x : OpS => x.oh) (fun x : OpS => x.over) mm.ops]) (List.Sublist.cons _ (List.Sublist.cons _ (List.Sublist.cons_cons _ (List.Sublist.cons_cons _ (List.Sublist.cons_cons _ List.Sublist.slnil))))) (List.forall_mem_cons.2 ⟨List.mem_of_getElem? (i := 0) rfl, List.forall_mem_cons.2 ⟨List.mem_of_getElem? (i := 1) rfl, List.forall_mem_cons.2 ⟨List.mem_of_getElem? (i := 2) rfl, List.forall_mem_cons.2 ⟨List.mem_of_getElem? (i := 3) rfl, List.forall_mem_cons.2 ⟨List.mem_of_getElem? (i := 4) rfl, fun _ h => (nomatch h)⟩⟩⟩⟩⟩)
   refine ⟨_, ?_, (k + 1), mm, one, SS, rfl, (by omega), (edits_same hst hone (by omega) (by assumption)).1, (edits_same hst hone (by omega) (by assumption)).2, hSS, _, envL_self ⟨rfl, rfl, rfl, rfl, rfl, rfl, rfl, trivial⟩, H37⟩
   omega
  ·have hc36 : ¬ (datas ((kvGet (tableOf a) ((nth b k).node)).getD zeroRow).heads = datas (nth b k).heads) := (of_decide_eq_false hc36)
   refine W_skip (Then_n (W_seq (W_seq (W_reg ?_))))
   refine O_v rfl (R_fieldAddr (off := 7) (oo := 7) Try.underlying44 rfl rfl Try.sizeOf42 rfl rfl ?_)
   refine O_v rfl (R_load1 (v := (slV ((nth b k).hh) ((nth b k).heads))) Try.isAgg42 rfl ((boxR_at (H35.getOwn 1 rfl)).chunks 7 1 7 7 _ rfl rfl rfl) ?_)
   refine O_v rfl (R_len_slice (a := ((nth b k).hh).a) (n := ((nth b k).heads).length) (c := ((nth b k).hh).c) Try.underlying42 rfl ?_)
   refine O_v rfl (R_cmp (a := ((((nth b k).heads).length : Nat) : Int)) (b := 1) (r := (!(decide (((((nth b k).heads).length : Nat) : Int) = 1)))) rfl rfl rfl ?_)
   refine O_nil (Then_n ?_)
   refine W_cond (t := (!(decide (((((nth b k).heads).length : Nat) : Int) = 1)))) rfl (fun hc38 => ?_) (fun hc38 => ?_)
   ·have hc38 : ¬ (((((nth b k).heads).length : Nat) : Int) = 1) := (of_decide_eq_false (notT hc38))
    refine W_seq (W_reg ?_)
    refine O_v rfl (R_assign (v := (.bool false)) rfl ?_)
    refine O_nil (Then_n (W_exit (Then_x (Blk_x (Then_n (W_reg ?_))))))
    refine O_v rfl (R_arith (a := ((k : Nat) : Int)) (b := 1) (r0 := ((k : Nat) : Int) + 1) (r := ((k + 1 : Nat) : Int)) rfl rfl rfl (wrapN _ (by omega)) ?_)
    refine O_v rfl (R_move (v := (.int .i64 ((k + 1 : Nat) : Int))) rfl ?_)
    refine O_nil (Then_n ?_)
    have H39 := H35.sub (B' := [mapO r5 (fun x : Stamp => stampV x) rowV (tableOf a), boxR bm 71 [[(.int .i64 mm.at_.T)], [(.int .i64 mm.at_.R)], [(slV mm.oh mm.ops)], [(.bool mm.bad)]], rowR 39 41 opCh mm.oh mm.ops]) (I' := [deepI Fb headCh 34 (fun x : RowS => x.hh) (fun x : RowS => x.heads) b, slI Fb rowCh 8 hb b, deepI Fa headCh 34 (fun x : RowS => x.hh) (fun x : RowS => x.heads) a, slI Fa rowCh 8 ha a, deepI SS stampCh 2 (fun x : OpS => x.oh) (fun x : OpS => x.over) mm.ops]) (List.Sublist.cons _ (List.Sublist.cons _ (List.Sublist.cons_cons _ (List.Sublist.cons_cons _ (List.Sublist.cons_cons _ List.Sublist.slnil))))) (List.forall_mem_cons.2 ⟨List.mem_of_getElem? (i := 0) rfl, List.forall_mem_cons.2 ⟨List.mem_of_getElem? (i := 1) rfl, List.forall_mem_cons.2 ⟨List.mem_of_getElem? (i := 2) rfl, List.forall_mem_cons.2 ⟨List.mem_of_getElem? (i := 3) rfl, List.forall_mem_cons.2 ⟨List.mem_of_getElem? (i := 4) rfl, fun _ h => (nomatch h)⟩⟩⟩⟩⟩)
    refine ⟨_, ?_, (k + 1), mm, false, SS, rfl, (by omega), (edits_many hst (by omega) (by assumption) (by assumption)).1, (edits_many hst (by omega) (by assumption) (by assumption)).2, hSS, _, envL_self ⟨rfl, rfl, rfl, rfl, rfl, rfl, rfl, trivial⟩, H39⟩
    omega
   ·have hc38 : (((((nth b k).heads).length : Nat) : Int) = 1) := (of_decide_eq_true (notF hc38))
    refine W_skip (Then_n (W_seq ?_))
    refine W_rgdM TryMixed (fun _ => True) (fun i => i == 9) [(0, .q true), (1, .q false), (2, .q true), (3, .q false), (4, .q true), (5, .q true), (6, .q false), (7, .q true), (8, .c false), (9, .c true)] (by kernel_rfl) ?_
    refine Lx_q (i := 0) rfl rfl _ (fun v40 hv41 => R_fieldAddr (off := 0) (oo := 0) Try.underlying44 rfl rfl Try.sizeOf24 rfl rfl ⟨rfl, Gr.refl _ _⟩) ?_
    refine Lx_q (i := 1) rfl rfl _ (fun v42 hv43 => R_loadA (cs := [[(.int .i64 (((nth b k).node).T))], [(.int .i64 (((nth b k).node).R))]]) Try.isAgg24 Try.sizeOf24 rfl rfl ((boxR_at ((H35.ext hv43).getOwn 1 rfl)).chunks 0 2 0 0 _ rfl rfl rfl) ⟨rfl, Gr.refl _ _⟩) ?_
    refine Lx_q (i := 2) rfl rfl _ (fun v44 hv45 => R_fieldAddr (off := 7) (oo := 7) Try.underlying44 rfl rfl Try.sizeOf42 rfl rfl ⟨rfl, Gr.refl _ _⟩) ?_
    refine Lx_q (i := 3) rfl rfl _ (fun v46 hv47 => R_load1 (v := (slV ((nth b k).hh) ((nth b k).heads))) Try.isAgg42 rfl ((boxR_at ((H35.ext hv47).getOwn 1 rfl)).chunks 7 1 7 7 _ rfl rfl rfl) ⟨rfl, Gr.refl _ _⟩) ?_
    refine Lx_q (i := 4) rfl rfl _ (fun v48 hv49 => R_index_pure (Sl.as ((nth b k).hh) ((nth b k).heads) ((H35.getImm 0 rfl) _ (nth_mem (by omega)))) (n := ((nth b k).heads).length) rfl (j := 0) (oo := (((nth b k).hh).o + 0 * 34)) Try.underlying42 Try.sizeOf62 rfl rfl (by omega) (by omega) rfl ⟨rfl, Gr.refl _ _⟩) ?_
    refine Lx_q (i := 5) rfl rfl _ (fun v50 hv51 => R_fieldAddr (off := 2) (oo := ((((nth b k).hh).o + 0 * 34) + 2)) Try.underlying62 rfl rfl Try.sizeOf36 rfl rfl ⟨rfl, Gr.refl _ _⟩) ?_
    refine Lx_q (i := 6) rfl rfl _ (fun v52 hv53 => R_loadA (cs := [(idCells ((nth ((nth b k).heads) 0).data))]) Try.isAgg36 Try.sizeOf36 rfl rfl ((Sl.elem (Sl.as ((nth b k).hh) ((nth b k).heads) (((H35.ext hv53).getImm 0 rfl) _ (nth_mem (by omega)))) (i := 0) (by omega) rfl).chunks 2 1 2 ((((nth b k).hh).o + 0 * 34) + 2) _ rfl rfl rfl) ⟨rfl, Gr.refl _ _⟩) ?_
    refine Lx_q (i := 7) rfl rfl _ (fun v54 hv55 => R_buildL (vs := [(0, (.int .i64 2)), (2, (aggOf (stampCh ((nth b k).node)))), (5, (aggOf (idCh ((nth ((nth b k).heads) 0).data))))]) (v := aggOf [[(.int .i64 2)], [(.int .i64 0)], [(.int .i64 0)], [(.int .i64 (((nth b k).node).T))], [(.int .i64 (((nth b k).node).R))], [(.int .i64 0)], [(.int .i64 0)], [(.string ByteArray.empty)], (idCells ((nth ((nth b k).heads) 0).data)), [(.slice none 0 0)]]) rfl (fun _ => by kernel_rfl) ⟨rfl, Gr.refl _ _⟩) ?_
    refine Lx_c (i := 8) rfl rfl (fun w56 hw57 => ?_)
    have H58 := H35.ext hw57
    refine (C_alloc H58 [[(.int .i64 0)], [(.int .i64 0)], [(.int .i64 0)], [(.int .i64 0)], [(.int .i64 0)], [(.int .i64 0)], [(.int .i64 0)], [(.string ByteArray.empty)], (idCells zeroId), [(.slice none 0 0)]] Try.zeroValue39 ?_)
    intro b59 w60 hb61 hx62 H63
    refine ⟨GrF.ofExt hx62, ?_⟩
    refine Lx_cu (i := 9) rfl (fun w64 hw65 => ?_)
    have H66 := H63.ext hw65
    refine (C_storeA H66 0 rfl 0 (sub := [[(.int .i64 2)], [(.int .i64 0)], [(.int .i64 0)], [(.int .i64 (((nth b k).node).T))], [(.int .i64 (((nth b k).node).R))], [(.int .i64 0)], [(.int .i64 0)], [(.string ByteArray.empty)], (idCells ((nth ((nth b k).heads) 0).data)), [(.slice none 0 0)]]) [[(.int .i64 2)], [(.int .i64 0)], [(.int .i64 0)], [(.int .i64 (((nth b k).node).T))], [(.int .i64 (((nth b k).node).R))], [(.int .i64 0)], [(.int .i64 0)], [(.string ByteArray.empty)], (idCells ((nth ((nth b k).heads) 0).data)), [(.slice none 0 0)]] Try.sizeOf39 rfl rfl rfl rfl ⟨[[(.int .i64 0)], [(.int .i64 0)], [(.int .i64 0)], [(.int .i64 0)], [(.int .i64 0)], [(.int .i64 0)], [(.int .i64 0)], [(.string ByteArray.empty)], (idCells zeroId), [(.slice none 0 0)]], [], rfl, rfl, rfl⟩ rfl ?_)
    intro w67 hg68 H69
    refine ⟨Gr.mono (M' := fun _ => True) hg68 (fun _ _ => trivial), ?_⟩
    refine Lx_nil (fun w70 hw71 => ?_)
    have H72 := H69.ext hw71
    refine Then_n (W_seq (W_seq (W_reg ?_)))
    refine O_v rfl (R_fieldAddr (off := 7) (oo := 7) Try.underlying44 rfl rfl Try.sizeOf42 rfl rfl ?_)
    refine O_v rfl (R_load1 (v := (slV (((kvGet (tableOf a) ((nth b k).node)).getD zeroRow).hh) (((kvGet (tableOf a) ((nth b k).node)).getD zeroRow).heads))) Try.isAgg42 rfl ((boxR_at (H72.getOwn 1 rfl)).chunks 7 1 7 7 _ rfl rfl rfl) ?_)
    refine O_v rfl (R_len_slice (a := (((kvGet (tableOf a) ((nth b k).node)).getD zeroRow).hh).a) (n := (((kvGet (tableOf a) ((nth b k).node)).getD zeroRow).heads).length) (c := (((kvGet (tableOf a) ((nth b k).node)).getD zeroRow).hh).c) Try.underlying42 rfl ?_)
    refine O_v rfl (R_move (v := (.int .i64 0)) rfl ?_)
    refine O_nil (Then_n (W_block ?_))
    have H73 := H72.addNil 24 2 stampCh
    refine W_loop (fun m74 e75 w76 => ∃ (j : Nat), ∃ (acc : List Stamp), ∃ (ho : SlH), m74 = ((kvGet (tableOf a) (nth b k).node).getD zeroRow).heads.length - j ∧ (j ≤ ((kvGet (tableOf a) (nth b k).node).getD zeroRow).heads.length) ∧ (acc = (((kvGet (tableOf a) (nth b k).node).getD zeroRow).heads.take j).map (·.tm)) ∧ (acc.length ≤ j) ∧ (((kvGet (tableOf a) (nth b k).node).getD zeroRow).heads.length ≤ 1048576) ∧ (∀ c, (slV ho acc).ownBlock = some c → w.heap.size ≤ c) ∧ ∃ eb77, e75 = envL [(0, (.pointer (some ⟨bm, 0, none⟩))), (6, (.bool false)), (7, (.map (some r5))), (8, (.bool one)), (10, (.pointer (some ⟨b17, 0, none⟩))), (11, (.pointer (some ⟨b25, 0, none⟩))), (12, (.pointer (some ⟨b59, 0, none⟩))), (17, (slV hb b)), (18, (.int .i64 ((b.length : Nat) : Int))), (19, (.int .i64 ((k : Nat) : Int))), (20, (.bool (decide (((k : Nat) : Int) < ((b.length : Nat) : Int))))), (21, (.pointer (some ⟨hb.b, (hb.o + k * 8), none⟩))), (22, (aggOf (rowCh (nth b k)))), (23, (.map (some r5))), (24, (.pointer (some ⟨b17, 0, none⟩))), (25, (aggOf (stampCh ((nth b k).node)))), (26, (aggOf (rowCh ((kvGet (tableOf a) ((nth b k).node)).getD zeroRow)))), (27, (aggOf (rowCh ((kvGet (tableOf a) ((nth b k).node)).getD zeroRow)))), (28, (aggOf (rowCh (nth b k)))), (29, (.bool (decide (datas ((kvGet (tableOf a) ((nth b k).node)).getD zeroRow).heads = datas (nth b k).heads)))), (30, (.pointer (some ⟨b17, 7, none⟩))), (31, (slV ((nth b k).hh) ((nth b k).heads))), (32, (.int .i64 ((((nth b k).heads).length : Nat) : Int))), (33, (.bool (!(decide (((((nth b k).heads).length : Nat) : Int) = 1))))), (34, (.pointer (some ⟨b17, 0, none⟩))), (35, (aggOf (stampCh ((nth b k).node)))), (36, (.pointer (some ⟨b17, 7, none⟩))), (37, (slV ((nth b k).hh) ((nth b k).heads))), (38, (.pointer (some ⟨((nth b k).hh).b, (((nth b k).hh).o + 0 * 34), none⟩))), (39, (.pointer (some ⟨((nth b k).hh).b, ((((nth b k).hh).o + 0 * 34) + 2), none⟩))), (40, (aggOf (idCh ((nth ((nth b k).heads) 0).data)))), (41, (aggOf [[(.int .i64 2)], [(.int .i64 0)], [(.int .i64 0)], [(.int .i64 (((nth b k).node).T))], [(.int .i64 (((nth b k).node).R))], [(.int .i64 0)], [(.int .i64 0)], [(.string ByteArray.empty)], (idCells ((nth ((nth b k).heads) 0).data)), [(.slice none 0 0)]])), (42, (.pointer (some ⟨b25, 7, none⟩))), (43, (slV (((kvGet (tableOf a) ((nth b k).node)).getD zeroRow).hh) (((kvGet (tableOf a) ((nth b k).node)).getD zeroRow).heads))), (44, (.int .i64 (((((kvGet (tableOf a) ((nth b k).node)).getD zeroRow).heads).length : Nat) : Int))), (45, (.int .i64 ((j : Nat) : Int)))] eb77 ∧ Ctx w (objM bm m.oh m.ops) w76 [rowR 24 2 stampCh ho acc, boxR b59 39 [[(.int .i64 2)], [(.int .i64 0)], [(.int .i64 0)], [(.int .i64 (((nth b k).node).T))], [(.int .i64 (((nth b k).node).R))], [(.int .i64 0)], [(.int .i64 0)], [(.string ByteArray.empty)], (idCells ((nth ((nth b k).heads) 0).data)), [(slV ho acc)]], boxR b25 44 [[(.int .i64 ((((kvGet (tableOf a) ((nth b k).node)).getD zeroRow).node).T))], [(.int .i64 ((((kvGet (tableOf a) ((nth b k).node)).getD zeroRow).node).R))], [(.int .i64 ((((kvGet (tableOf a) ((nth b k).node)).getD zeroRow).par).T))], [(.int .i64 ((((kvGet (tableOf a) ((nth b k).node)).getD zeroRow).par).R))], [(.int .i64 ((((kvGet (tableOf a) ((nth b k).node)).getD zeroRow).tm).T))], [(.int .i64 ((((kvGet (tableOf a) ((nth b k).node)).getD zeroRow).tm).R))], [(.string (((kvGet (tableOf a) ((nth b k).node)).getD zeroRow).name))], [(slV (((kvGet (tableOf a) ((nth b k).node)).getD zeroRow).hh) (((kvGet (tableOf a) ((nth b k).node)).getD zeroRow).heads))]], boxR b17 44 [[(.int .i64 (((nth b k).node).T))], [(.int .i64 (((nth b k).node).R))], [(.int .i64 (((nth b k).par).T))], [(.int .i64 (((nth b k).par).R))], [(.int .i64 (((nth b k).tm).T))], [(.int .i64 (((nth b k).tm).R))], [(.string ((nth b k).name))], [(slV ((nth b k).hh) ((nth b k).heads))]], mapO r5 (fun x : Stamp => stampV x) rowV (tableOf a), boxR bm 71 [[(.int .i64 mm.at_.T)], [(.int .i64 mm.at_.R)], [(slV mm.oh mm.ops)], [(.bool mm.bad)]], rowR 39 41 opCh mm.oh mm.ops] [deepI Fb headCh 34 (fun x : RowS => x.hh) (fun x : RowS => x.heads) b, slI Fb rowCh 8 hb b, deepI Fa headCh 34 (fun x : RowS => x.hh) (fun x : RowS => x.heads) a, slI Fa rowCh 8 ha a, deepI SS stampCh 2 (fun x : OpS => x.oh) (fun x : OpS => x.over) mm.ops]) _ ⟨0, [], nilH, rfl, (by omega), rfl, (by simp), (tab_heads hha _), (fun c h => by simp [nilH, Value.ownBlock] at h), _, envL_self ⟨rfl, rfl, rfl, rfl, rfl, rfl, rfl, rfl, rfl, rfl, rfl, rfl, rfl, rfl, rfl, rfl, rfl, rfl, rfl, rfl, rfl, rfl, rfl, rfl, rfl, rfl, rfl, rfl, rfl, rfl, rfl, rfl, rfl, rfl, rfl, rfl, trivial⟩, H73⟩ ?_
    rintro m74 _ w76 ⟨j, acc, ho, rfl, hj, hacc, hal, hhw, hov, eb77, rfl, H78⟩
    refine W_seq (W_reg ?_)
    refine O_v rfl (R_cmp (a := ((j : Nat) : Int)) (b := (((((kvGet (tableOf a) ((nth b k).node)).getD zeroRow).heads).length : Nat) : Int)) (r := (decide (((j : Nat) : Int) < (((((kvGet (tableOf a) ((nth b k).node)).getD zeroRow).heads).length : Nat) : Int)))) rfl rfl rfl ?_)
    refine O_nil (Then_n (W_seq ?_))
    refine W_cond (t := (decide (((j : Nat) : Int) < (((((kvGet (tableOf a) ((nth b k).node)).getD zeroRow).heads).length : Nat) : Int)))) rfl (fun hc79 => ?_) (fun hc79 => ?_)
    ·have hc79 : (((j : Nat) : Int) < (((((kvGet (tableOf a) ((nth b k).node)).getD zeroRow).heads).length : Nat) : Int)) := (of_decide_eq_true hc79)
     refine W_skip (Then_n (W_seq (W_block (W_seq (W_reg ?_)))))
     refine O_v rfl (R_index_pure (Sl.as (((kvGet (tableOf a) ((nth b k).node)).getD zeroRow).hh) (((kvGet (tableOf a) ((nth b k).node)).getD zeroRow).heads) (tab_deep (H78.getImm 2 rfl) ((nth b k).node))) (n := (((kvGet (tableOf a) ((nth b k).node)).getD zeroRow).heads).length) rfl (j := ((j : Nat) : Int)) (oo := ((((kvGet (tableOf a) ((nth b k).node)).getD zeroRow).hh).o + j * 34)) Try.underlying42 Try.sizeOf62 rfl rfl (by omega) (by omega) rfl ?_)
     refine O_v rfl (R_loadA (cs := [[(.int .i64 (((nth (((kvGet (tableOf a) ((nth b k).node)).getD zeroRow).heads) j).tm).T))], [(.int .i64 (((nth (((kvGet (tableOf a) ((nth b k).node)).getD zeroRow).heads) j).tm).R))], (idCells ((nth (((kvGet (tableOf a) ((nth b k).node)).getD zeroRow).heads) j).data))]) Try.isAgg62 Try.sizeOf62 rfl rfl ((Sl.elem (Sl.as (((kvGet (tableOf a) ((nth b k).node)).getD zeroRow).hh) (((kvGet (tableOf a) ((nth b k).node)).getD zeroRow).heads) (tab_deep (H78.getImm 2 rfl) ((nth b k).node))) (i := j) (by omega) rfl).chunks 0 3 0 ((((kvGet (tableOf a) ((nth b k).node)).getD zeroRow).hh).o + j * 34) _ rfl rfl rfl) ?_)
     refine O_v rfl (C_alloc H78 [[(.int .i64 0)], [(.int .i64 0)], (idCells zeroId)] Try.zeroValue62 ?_)
     intro b80 w81 hb82 hx83 H84
     refine O_u (C_storeA H84 0 rfl 0 (sub := [[(.int .i64 (((nth (((kvGet (tableOf a) ((nth b k).node)).getD zeroRow).heads) j).tm).T))], [(.int .i64 (((nth (((kvGet (tableOf a) ((nth b k).node)).getD zeroRow).heads) j).tm).R))], (idCells ((nth (((kvGet (tableOf a) ((nth b k).node)).getD zeroRow).heads) j).data))]) [[(.int .i64 (((nth (((kvGet (tableOf a) ((nth b k).node)).getD zeroRow).heads) j).tm).T))], [(.int .i64 (((nth (((kvGet (tableOf a) ((nth b k).node)).getD zeroRow).heads) j).tm).R))], (idCells ((nth (((kvGet (tableOf a) ((nth b k).node)).getD zeroRow).heads) j).data))] Try.sizeOf62 rfl rfl rfl rfl ⟨[[(.int .i64 0)], [(.int .i64 0)], (idCells zeroId)], [], rfl, rfl, rfl⟩ rfl ?_)
     intro w85 hg86 H87
     refine O_nil (Then_n (W_reg ?_))
     refine O_v rfl (R_fieldAddr (off := 40) (oo := 40) Try.underlying39 rfl rfl Try.sizeOf37 rfl rfl ?_)
     refine O_v rfl (R_load1 (v := (slV ho acc)) Try.isAgg37 rfl ((boxR_at (H87.getOwn 2 rfl)).chunks 9 1 40 40 _ rfl rfl rfl) ?_)
     refine O_v rfl (R_fieldAddr (off := 0) (oo := 0) Try.underlying62 rfl rfl Try.sizeOf24 rfl rfl ?_)
     refine O_v rfl (R_loadA (cs := [[(.int .i64 (((nth (((kvGet (tableOf a) ((nth b k).node)).getD zeroRow).heads) j).tm).T))], [(.int .i64 (((nth (((kvGet (tableOf a) ((nth b k).node)).getD zeroRow).heads) j).tm).R))]]) Try.isAgg24 Try.sizeOf24 rfl rfl ((boxR_at (H87.getOwn 0 rfl)).chunks 0 2 0 0 _ rfl rfl rfl) ?_)
     refine O_v rfl (C_buildSliceL H87 (enc := stampCh) (val := stampV) ([((nth (((kvGet (tableOf a) ((nth b k).node)).getD zeroRow).heads) j).tm)] : List Stamp) Try.underlying37 Try.sizeOf24 Try.zeroValue24 rfl (by decide) (fun _ => rfl) (fun _ => rfl) rfl rfl (by decide) ?_)
     intro b88 w89 hb90 hx91 H92
     refine O_v rfl (C_appendN H92 2 rfl (bytes := 16) (l := acc) (ys := ([((nth (((kvGet (tableOf a) ((nth b k).node)).getD zeroRow).heads) j).tm)] : List Stamp)) Try.underlying37 rfl rfl rfl rfl rfl (by decide) rfl rfl (OwnS.sl (H92.getOwn 0 rfl) (fun _ => rfl)) (fun _ => rfl) (fun _ => rfl) (by simp only [List.length_append, List.length_cons, List.length_nil]; omega) (by decide) ?_)
     intro h93 w94 hg95 H96 hn97
     refine O_v rfl (R_fieldAddr (off := 40) (oo := 40) Try.underlying39 rfl rfl Try.sizeOf37 rfl rfl ?_)
     refine O_u (C_store1 H96 3 rfl 9 (v := (slV h93 (acc ++ ([((nth (((kvGet (tableOf a) ((nth b k).node)).getD zeroRow).heads) j).tm)] : List Stamp)))) [[(.int .i64 2)], [(.int .i64 0)], [(.int .i64 0)], [(.int .i64 (((nth b k).node).T))], [(.int .i64 (((nth b k).node).R))], [(.int .i64 0)], [(.int .i64 0)], [(.string ByteArray.empty)], (idCells ((nth ((nth b k).heads) 0).data)), [(slV h93 (acc ++ ([((nth (((kvGet (tableOf a) ((nth b k).node)).getD zeroRow).heads) j).tm)] : List Stamp)))]] Try.sizeOf37 rfl rfl rfl rfl rfl rfl rfl ?_)
     intro w98 hg99 H100
     refine O_nil (Blk_n (Then_n (W_reg ?_)))
     refine O_v rfl (R_arith (a := ((j : Nat) : Int)) (b := 1) (r0 := ((j : Nat) : Int) + 1) (r := ((j + 1 : Nat) : Int)) rfl rfl rfl (wrapN _ (by omega)) ?_)
     refine O_v rfl (R_move (v := (.int .i64 ((j + 1 : Nat) : Int))) rfl ?_)
     refine O_nil (Then_n ?_)
     have H101 := H100.sub (B' := [rowR 24 2 stampCh h93 (acc ++ ([((nth (((kvGet (tableOf a) ((nth b k).node)).getD zeroRow).heads) j).tm)] : List Stamp)), boxR b59 39 [[(.int .i64 2)], [(.int .i64 0)], [(.int .i64 0)], [(.int .i64 (((nth b k).node).T))], [(.int .i64 (((nth b k).node).R))], [(.int .i64 0)], [(.int .i64 0)], [(.string ByteArray.empty)], (idCells ((nth ((nth b k).heads) 0).data)), [(slV h93 (acc ++ ([((nth (((kvGet (tableOf a) ((nth b k).node)).getD zeroRow).heads) j).tm)] : List Stamp)))]], boxR b25 44 [[(.int .i64 ((((kvGet (tableOf a) ((nth b k).node)).getD zeroRow).node).T))], [(.int .i64 ((((kvGet (tableOf a) ((nth b k).node)).getD zeroRow).node).R))], [(.int .i64 ((((kvGet (tableOf a) ((nth b k).node)).getD zeroRow).par).T))], [(.int .i64 ((((kvGet (tableOf a) ((nth b k).node)).getD zeroRow).par).R))], [(.int .i64 ((((kvGet (tableOf a) ((nth b k).node)).getD zeroRow).tm).T))], [(.int .i64 ((((kvGet (tableOf a) ((nth b k).node)).getD zeroRow).tm).R))], [(.string (((kvGet (tableOf a) ((nth b k).node)).getD zeroRow).name))], [(slV (((kvGet (tableOf a) ((nth b k).node)).getD zeroRow).hh) (((kvGet (tableOf a) ((nth b k).node)).getD zeroRow).heads))]], boxR b17 44 [[(.int .i64 (((nth b k).node).T))], [(.int .i64 (((nth b k).node).R))], [(.int .i64 (((nth b k).par).T))], [(.int .i64 (((nth b k).par).R))], [(.int .i64 (((nth b k).tm).T))], [(.int .i64 (((nth b k).tm).R))], [(.string ((nth b k).name))], [(slV ((nth b k).hh) ((nth b k).heads))]], mapO r5 (fun x : Stamp => stampV x) rowV (tableOf a), boxR bm 71 [[(.int .i64 mm.at_.T)], [(.int .i64 mm.at_.R)], [(slV mm.oh mm.ops)], [(.bool mm.bad)]], rowR 39 41 opCh mm.oh mm.ops]) (I' := [deepI Fb headCh 34 (fun x : RowS => x.hh) (fun x : RowS => x.heads) b, slI Fb rowCh 8 hb b, deepI Fa headCh 34 (fun x : RowS => x.hh) (fun x : RowS => x.heads) a, slI Fa rowCh 8 ha a, deepI SS stampCh 2 (fun x : OpS => x.oh) (fun x : OpS => x.over) mm.ops]) (List.Sublist.cons _ (List.Sublist.cons _ (List.Sublist.cons_cons _ (List.Sublist.cons_cons _ (List.Sublist.cons_cons _ (List.Sublist.cons_cons _ (List.Sublist.cons_cons _ (List.Sublist.cons_cons _ (List.Sublist.cons_cons _ List.Sublist.slnil))))))))) (List.forall_mem_cons.2 ⟨List.mem_of_getElem? (i := 0) rfl, List.forall_mem_cons.2 ⟨List.mem_of_getElem? (i := 1) rfl, List.forall_mem_cons.2 ⟨List.mem_of_getElem? (i := 2) rfl, List.forall_mem_cons.2 ⟨List.mem_of_getElem? (i := 3) rfl, List.forall_mem_cons.2 ⟨List.mem_of_getElem? (i := 4) rfl, fun _ h => (nomatch h)⟩⟩⟩⟩⟩)
     refine ⟨_, ?_, (j + 1), (acc ++ ([((nth (((kvGet (tableOf a) ((nth b k).node)).getD zeroRow).heads) j).tm)] : List Stamp)), h93, rfl, (by omega), (over_step hacc (by omega)), (by simp only [List.length_append, List.length_cons, List.length_nil]; omega), hhw, (fun c hc => (hn97 c hc).elim (hov c) (fun h => Nat.le_trans H92.gr.size h)), _, envL_self ⟨rfl, rfl, rfl, rfl, rfl, rfl, rfl, rfl, rfl, rfl, rfl, rfl, rfl, rfl, rfl, rfl, rfl, rfl, rfl, rfl, rfl, rfl, rfl, rfl, rfl, rfl, rfl, rfl, rfl, rfl, rfl, rfl, rfl, rfl, rfl, rfl, trivial⟩, H101⟩
     omega
    ·have hc79 : ¬ (((j : Nat) : Int) < (((((kvGet (tableOf a) ((nth b k).node)).getD zeroRow).heads).length : Nat) : Int)) := (of_decide_eq_false hc79)
     refine W_exit (Then_x (Then_x (Blk_x (Then_n (W_reg ?_)))))
     refine O_v rfl (R_move (v := (.pointer (some ⟨bm, 0, none⟩))) rfl ?_)
     refine O_v rfl (R_loadA (cs := [[(.int .i64 2)], [(.int .i64 0)], [(.int .i64 0)], [(.int .i64 (((nth b k).node).T))], [(.int .i64 (((nth b k).node).R))], [(.int .i64 0)], [(.int .i64 0)], [(.string ByteArray.empty)], (idCells ((nth ((nth b k).heads) 0).data)), [(slV ho acc)]]) Try.isAgg39 Try.sizeOf39 rfl rfl ((boxR_at (H78.getOwn 1 rfl)).chunks 0 10 0 0 _ rfl rfl rfl) ?_)
     have H102 := H78.freeze 0 rfl (fun _ => rfl)
     refine O_v rfl (R_callL (vs := [(.pointer (some ⟨bm, 0, none⟩)), (aggOf [[(.int .i64 2)], [(.int .i64 0)], [(.int .i64 0)], [(.int .i64 (((nth b k).node).T))], [(.int .i64 (((nth b k).node).R))], [(.int .i64 0)], [(.int .i64 0)], [(.string ByteArray.empty)], (idCells ((nth ((nth b k).heads) 0).data)), [(slV ho acc)]])]) maker_edits_c53 rfl rfl ((maker_put bm mm SS ({ kind := 2, tm := ({ T := 0, R := 0 } : Stamp), node := ((nth b k).node), par := ({ T := 0, R := 0 } : Stamp), name := ByteArray.empty, data := (nth ((nth b k).heads) 0).data, over := acc, oh := ho } : OpS) w76 ((H102.pick (B' := [boxR bm 71 [[(.int .i64 mm.at_.T)], [(.int .i64 mm.at_.R)], [(slV mm.oh mm.ops)], [(.bool mm.bad)]], rowR 39 41 opCh mm.oh mm.ops]) (I' := [deepI SS stampCh 2 (fun x : OpS => x.oh) (fun x : OpS => x.over) mm.ops]) [4, 5] (by decide) rfl (List.forall_mem_cons.2 ⟨List.mem_of_getElem? (i := 5) rfl, fun _ h => (nomatch h)⟩)).objStart) (fun b => (slV ho acc).ownBlock = some b) (H102.objFree 4 5 rfl rfl 0 rfl) (H102.sl 0 rfl) (T_room hst hT (by have := edits_len a b k; omega)) (L_room hst hml (by have := edits_len a b k; omega))).ret ?_))
     rintro _ w105 ⟨m103, S104, rfl, hg106, hQ107, hk108, hS109, hr110⟩
     have H111 := H102.obj2 4 5 (by decide) rfl rfl rfl (fun _ h => h) hg106 hQ107 rfl hk108 (fun c hc => (hS109 c hc).elim (fun h => .inl ⟨_, List.mem_of_getElem? (i := 5) rfl, h⟩) (fun h => h.elim .inr (fun h => .inl ⟨_, List.mem_of_getElem? (i := 0) rfl, h⟩)))
     refine O_nil (Blk_n (Then_n (W_reg ?_)))
     refine O_v rfl (R_arith (a := ((k : Nat) : Int)) (b := 1) (r0 := ((k : Nat) : Int) + 1) (r := ((k + 1 : Nat) : Int)) rfl rfl rfl (wrapN _ (by omega)) ?_)
     refine O_v rfl (R_move (v := (.int .i64 ((k + 1 : Nat) : Int))) rfl ?_)
     refine O_nil (Then_n ?_)
     have H112 := H111.sub (B' := [mapO r5 (fun x : Stamp => stampV x) rowV (tableOf a), boxR bm 71 [[(.int .i64 m103.at_.T)], [(.int .i64 m103.at_.R)], [(slV m103.oh m103.ops)], [(.bool m103.bad)]], rowR 39 41 opCh m103.oh m103.ops]) (I' := [deepI Fb headCh 34 (fun x : RowS => x.hh) (fun x : RowS => x.heads) b, slI Fb rowCh 8 hb b, deepI Fa headCh 34 (fun x : RowS => x.hh) (fun x : RowS => x.heads) a, slI Fa rowCh 8 ha a, deepI S104 stampCh 2 (fun x : OpS => x.oh) (fun x : OpS => x.over) m103.ops]) (List.Sublist.cons _ (List.Sublist.cons _ (List.Sublist.cons _ (List.Sublist.cons_cons _ (List.Sublist.cons_cons _ (List.Sublist.cons_cons _ List.Sublist.slnil)))))) (List.forall_mem_cons.2 ⟨List.mem_of_getElem? (i := 2) rfl, List.forall_mem_cons.2 ⟨List.mem_of_getElem? (i := 3) rfl, List.forall_mem_cons.2 ⟨List.mem_of_getElem? (i := 4) rfl, List.forall_mem_cons.2 ⟨List.mem_of_getElem? (i := 5) rfl, List.forall_mem_cons.2 ⟨List.mem_of_getElem? (i := 0) rfl, fun _ h => (nomatch h)⟩⟩⟩⟩⟩)
     refine ⟨_, ?_, (k + 1), m103, one, S104, rfl, (by omega), (edits_put hst hone (by omega) (by assumption) (by omega) (by rw [over_end hacc (by omega)]; rfl) (put_st hr110)).1, (edits_put hst hone (by omega) (by assumption) (by omega) (by rw [over_end hacc (by omega)]; rfl) (put_st hr110)).2, (SS_stepF hSS hS109 H102.gr.size hov), _, envL_self ⟨rfl, rfl, rfl, rfl, rfl, rfl, rfl, trivial⟩, H112⟩
     omega
 ·have hc16 : ¬ (((k : Nat) : Int) < ((b.length : Nat) : Int)) := (of_decide_eq_false hc16)
  refine W_exit (Then_x (Then_x (Blk_x (Then_n (W_seq (W_reg ?_))))))
  refine O_v rfl (R_move (v := (.bool one)) rfl ?_)
  refine O_v rfl (R_assign (v := (.bool one)) rfl ?_)
  refine O_nil (Then_n (W_ret ?_))
  refine ret_1 (v := (.bool one)) Try.results37 rfl ?_
  have HQ := (H15.pick (B' := [boxR bm 71 [[(.int .i64 mm.at_.T)], [(.int .i64 mm.at_.R)], [(slV mm.oh mm.ops)], [(.bool mm.bad)]], rowR 39 41 opCh mm.oh mm.ops]) (I' := [deepI SS stampCh 2 (fun x : OpS => x.oh) (fun x : OpS => x.over) mm.ops]) [1, 2] (by decide) rfl (List.forall_mem_cons.2 ⟨List.mem_of_getElem? (i := 4) rfl, fun _ h => (nomatch h)⟩)).objStart
  exact ⟨mm, _, (by rw [hone, List.take_of_length_le (by omega)]), H15.gr, HQ, H15.objBlk 1 2 (by decide) rfl rfl, hSS, (by rw [hst, List.take_of_length_le (by omega)])⟩

end Go.Proofs.Ytiknfldhommmpaa
namespace Go.Proofs.Ytiknfldhommmpaa
open Go
set_option maxRecDepth 100000
set_option linter.unusedVariables false
set_option linter.unusedSimpArgs false
set_option maxHeartbeats 1000000 in
theorem insSort_Row (hs : SlH) (s : List RowS) (a : Int) (b : Int) (kcmp : FuncId) (ccmp : Array Value) (f : RowS → RowS → Int) (w : World) (Os : OwnS 0 44 8 rowCh hs s w) (Kcmp : callable Try.prog kcmp = true) (Ccmp : ∀ x ∈ s, ∀ y ∈ s, ∀ w1, Gr (fun b => (slV hs s).ownBlock = some b) w w1 → Calls Try.prog kcmp (#[rowV x, rowV y] ++ ccmp) w1 (Ret fun v w2 => v = .int .i64 (f x y) ∧ Ext w1 w2)) (ha : 0 ≤ a) (hab : a ≤ b) (hb : b ≤ s.length) (hsl : s.length ≤ 1048576) :
    Calls Try.prog 73 #[(slV hs s), (.int .i64 a), (.int .i64 b), (.func (.func kcmp) #[] ccmp)] w (Ret fun v w' => ∃ s' : List RowS, v = .tuple #[] ∧ Gr (fun b => (slV hs s).ownBlock = some b) w w' ∧ OwnS 0 44 8 rowCh hs s' w' ∧ (s'.Perm s)) := by
 refine calls_W Try.func73 rfl Try.ntmps73 rfl ?_
 have H0 := Ctx.startRow Os
 have LSs := (OwnS.sl Os (fun _ => rfl)).len
 refine W_seq (W_reg ?_)
 refine O_v rfl (R_move (v := (.int .i64 a)) rfl ?_)
 refine O_v rfl (R_arith (a := a) (b := 1) (r0 := a + 1) (r := a + 1) rfl rfl rfl (w64 _ (by omega)) ?_)
 refine O_v rfl (R_assign (v := (.int .i64 (a + 1))) rfl ?_)
 refine O_nil (Then_n (W_block ?_))
 refine W_loop (fun m1 e2 w3 => ∃ (i : Int), ∃ (cur : List RowS), m1 = (b - i).toNat ∧ (a + 1 ≤ i ∧ i ≤ max b (a + 1)) ∧ (cur.length = s.length) ∧ (cur.Perm s) ∧ ∃ eb4, e2 = envL [(0, (slV hs s)), (1, (.int .i64 a)), (2, (.int .i64 b)), (3, (.func (.func kcmp) #[] ccmp)), (8, (.int .i64 i))] eb4 ∧ Ctx w (fun b => (slV hs s).ownBlock = some b) w3 [rowR 44 8 rowCh hs cur] []) _ ⟨(a + 1), s, rfl, (by omega), rfl, (List.Perm.refl _), _, envL_self ⟨rfl, rfl, rfl, rfl, rfl, trivial⟩, H0⟩ ?_
 rintro m1 _ w3 ⟨i, cur, rfl, hi, hl, hp, eb4, rfl, H5⟩
 refine W_seq (W_seq (W_reg ?_))
 refine O_v rfl (R_move (v := (.int .i64 i)) rfl ?_)
 refine O_v rfl (R_move (v := (.int .i64 b)) rfl ?_)
 refine O_v rfl (R_cmp (a := i) (b := b) (r := (decide (i < b))) rfl rfl rfl ?_)
 refine O_nil (Then_n ?_)
 refine W_cond (t := (decide (i < b))) rfl (fun hc6 => ?_) (fun hc6 => ?_)
 ·have hc6 : (i < b) := (of_decide_eq_true hc6)
  refine W_skip (Then_n (W_seq (W_block (W_seq (W_reg ?_)))))
  refine O_v rfl (R_move (v := (.int .i64 i)) rfl ?_)
  refine O_v rfl (R_assign (v := (.int .i64 i)) rfl ?_)
  refine O_nil (Then_n (W_block ?_))
  refine W_loop (fun m7 e8 w9 => ∃ (j : Int), ∃ (cur2 : List RowS), m7 = (j - a).toNat ∧ (a ≤ j ∧ j ≤ i) ∧ (cur2.length = s.length) ∧ (cur2.Perm s) ∧ ∃ eb10, e8 = envL [(0, (slV hs s)), (1, (.int .i64 a)), (2, (.int .i64 b)), (3, (.func (.func kcmp) #[] ccmp)), (8, (.int .i64 i)), (9, (.int .i64 j)), (12, (.int .i64 i)), (13, (.int .i64 b)), (14, (.bool (decide (i < b)))), (17, (.int .i64 i))] eb10 ∧ Ctx w (fun b => (slV hs s).ownBlock = some b) w9 [rowR 44 8 rowCh hs cur2] []) _ ⟨i, cur, rfl, (by omega), hl, hp, _, envL_self ⟨rfl, rfl, rfl, rfl, rfl, rfl, rfl, rfl, rfl, rfl, trivial⟩, H5⟩ ?_
  rintro m7 _ w9 ⟨j, cur2, rfl, hj, hl2, hp, eb10, rfl, H11⟩
  refine W_seq (W_seq ?_)
  refine W_rgd TryMixed [(0, .q false), (1, .q false), (2, .q false), (3, .q false), (4, .q false), (5, .q false), (6, .q false), (7, .q false), (8, .q false), (9, .q false), (10, .q false), (11, .q false), (12, .q false), (13, .q false), (14, .q false), (15, .q false), (16, .q false)] (by kernel_rfl) ?_
  refine Lx_q (i := 0) rfl rfl _ (fun v12 hv13 => R_move (v := (.int .i64 j)) rfl ⟨rfl, Gr.refl _ _⟩) ?_
  refine Lx_q (i := 1) rfl rfl _ (fun v14 hv15 => R_move (v := (.int .i64 a)) rfl ⟨rfl, Gr.refl _ _⟩) ?_
  refine Lx_q (i := 2) rfl rfl _ (fun v16 hv17 => R_cmp (a := j) (b := a) (r := (decide (a < j))) rfl rfl rfl ⟨rfl, Gr.refl _ _⟩) ?_
  refine Lx_q (i := 3) rfl rfl _ (fun v18 hv19 => R_move (v := (.bool (decide (a < j)))) rfl ⟨rfl, Gr.refl _ _⟩) ?_
  refine Lx_qg (i := 4) true (decide (a < j)) rfl rfl rfl rfl rfl (decide (a < j)) ga_t _ (fun hA v20 hv21 => R_move (v := (.func (.func kcmp) #[] ccmp)) rfl ⟨rfl, Gr.refl _ _⟩) ?_
  refine Lx_qg (i := 5) true (decide (a < j)) rfl rfl rfl rfl rfl (decide (a < j)) ga_t _ (fun hA v22 hv23 => R_move (v := (slV hs s)) rfl ⟨rfl, Gr.refl _ _⟩) ?_
  refine Lx_qg (i := 6) true (decide (a < j)) rfl rfl rfl rfl rfl (decide (a < j)) ga_t _ (fun hA v24 hv25 => R_move (v := (.int .i64 j)) rfl ⟨rfl, Gr.refl _ _⟩) ?_
  refine Lx_qg (i := 7) true (decide (a < j)) rfl rfl rfl rfl rfl (decide (a < j)) ga_t _ (fun hA v26 hv27 => by
        have hP : (a < j) := (of_decide_eq_true hA)
        exact R_index_pure (OwnS.sl (H11.getOwn 0 rfl) (fun _ => rfl)) (n := s.length) (by first | omega | (simp only [List.length_set]; omega)) (j := j) (oo := (hs.o + j.toNat * 8)) Try.underlying22 Try.sizeOf44 (gv_t hA) (gv_t hA) (by omega) (by omega) rfl ⟨rfl, Gr.refl _ _⟩) ?_
  refine Lx_qg (i := 8) true (decide (a < j)) rfl rfl rfl rfl rfl (decide (a < j)) ga_t _ (fun hA v28 hv29 => by
        have hP : (a < j) := (of_decide_eq_true hA)
        exact R_loadA (cs := [[(.int .i64 (((nth cur2 j.toNat).node).T))], [(.int .i64 (((nth cur2 j.toNat).node).R))], [(.int .i64 (((nth cur2 j.toNat).par).T))], [(.int .i64 (((nth cur2 j.toNat).par).R))], [(.int .i64 (((nth cur2 j.toNat).tm).T))], [(.int .i64 (((nth cur2 j.toNat).tm).R))], [(.string ((nth cur2 j.toNat).name))], [(slV ((nth cur2 j.toNat).hh) ((nth cur2 j.toNat).heads))]]) Try.isAgg44 Try.sizeOf44 rfl (gv_t hA) ((Sl.elem (OwnS.sl ((H11.ext hv29).getOwn 0 rfl) (fun _ => rfl)) (i := j.toNat) (by omega) rfl).chunks 0 8 0 (hs.o + j.toNat * 8) _ rfl rfl rfl) ⟨rfl, Gr.refl _ _⟩) ?_
  refine Lx_qg (i := 9) true (decide (a < j)) rfl rfl rfl rfl rfl (decide (a < j)) ga_t _ (fun hA v30 hv31 => R_move (v := (slV hs s)) rfl ⟨rfl, Gr.refl _ _⟩) ?_
  refine Lx_qg (i := 10) true (decide (a < j)) rfl rfl rfl rfl rfl (decide (a < j)) ga_t _ (fun hA v32 hv33 => R_move (v := (.int .i64 j)) rfl ⟨rfl, Gr.refl _ _⟩) ?_
  refine Lx_qg (i := 11) true (decide (a < j)) rfl rfl rfl rfl rfl (decide (a < j)) ga_t _ (fun hA v34 hv35 => by
        have hP : (a < j) := (of_decide_eq_true hA)
        exact R_arith (a := j) (b := 1) (r0 := j - 1) (r := j - 1) (gv_t hA) rfl rfl (w64 _ (by omega)) ⟨rfl, Gr.refl _ _⟩) ?_
  refine Lx_qg (i := 12) true (decide (a < j)) rfl rfl rfl rfl rfl (decide (a < j)) ga_t _ (fun hA v36 hv37 => by
        have hP : (a < j) := (of_decide_eq_true hA)
        exact R_index_pure (OwnS.sl (H11.getOwn 0 rfl) (fun _ => rfl)) (n := s.length) (by first | omega | (simp only [List.length_set]; omega)) (j := (j - 1)) (oo := (hs.o + ((j - 1).toNat) * 8)) Try.underlying22 Try.sizeOf44 (gv_t hA) (gv_t hA) (by omega) (by omega) rfl ⟨rfl, Gr.refl _ _⟩) ?_
  refine Lx_qg (i := 13) true (decide (a < j)) rfl rfl rfl rfl rfl (decide (a < j)) ga_t _ (fun hA v38 hv39 => by
        have hP : (a < j) := (of_decide_eq_true hA)
        exact R_loadA (cs := [[(.int .i64 (((nth cur2 ((j - 1).toNat)).node).T))], [(.int .i64 (((nth cur2 ((j - 1).toNat)).node).R))], [(.int .i64 (((nth cur2 ((j - 1).toNat)).par).T))], [(.int .i64 (((nth cur2 ((j - 1).toNat)).par).R))], [(.int .i64 (((nth cur2 ((j - 1).toNat)).tm).T))], [(.int .i64 (((nth cur2 ((j - 1).toNat)).tm).R))], [(.string ((nth cur2 ((j - 1).toNat)).name))], [(slV ((nth cur2 ((j - 1).toNat)).hh) ((nth cur2 ((j - 1).toNat)).heads))]]) Try.isAgg44 Try.sizeOf44 rfl (gv_t hA) ((Sl.elem (OwnS.sl ((H11.ext hv39).getOwn 0 rfl) (fun _ => rfl)) (i := (j - 1).toNat) (by omega) rfl).chunks 0 8 0 (hs.o + ((j - 1).toNat) * 8) _ rfl rfl rfl) ⟨rfl, Gr.refl _ _⟩) ?_
  refine Lx_qg (i := 14) true (decide (a < j)) rfl rfl rfl rfl rfl (decide (a < j)) ga_t (.int .i64 (f (nth cur2 j.toNat) (nth cur2 ((j - 1).toNat)))) (fun hA v40 hv41 => by
        have hP : (a < j) := (of_decide_eq_true hA)
        exact R_callV (vs := [(aggOf (rowCh (nth cur2 j.toNat))), (aggOf (rowCh (nth cur2 ((j - 1).toNat))))]) Kcmp (gv_t hA) (lst2 (gv_t hA) (gv_t hA)) (Ccmp _ (hp.mem_iff.1 (nth_mem (by omega))) _ (hp.mem_iff.1 (nth_mem (by omega))) v40 (H11.ext hv41).gr)) ?_
  refine Lx_qg (i := 15) true (decide (a < j)) rfl rfl rfl rfl rfl (decide (a < j)) ga_t _ (fun hA v42 hv43 => R_cmp (a := f (nth cur2 j.toNat) (nth cur2 ((j - 1).toNat))) (b := 0) (r := (decide (f (nth cur2 j.toNat) (nth cur2 ((j - 1).toNat)) < 0))) (gv_t hA) rfl rfl ⟨rfl, Gr.refl _ _⟩) ?_
  refine Lx_q (i := 16) rfl rfl _ (fun v44 hv45 => R_pick (t := (decide (a < j))) (v := (.bool ((decide (a < j)) && (decide (f (nth cur2 j.toNat) (nth cur2 ((j - 1).toNat)) < 0))))) rfl pk_and ⟨rfl, Gr.refl _ _⟩) ?_
  refine Lx_nil (fun w46 hw47 => ?_)
  have H48 := H11.ext hw47
  refine Then_n ?_
  refine W_cond (t := ((decide (a < j)) && (decide (f (nth cur2 j.toNat) (nth cur2 ((j - 1).toNat)) < 0)))) rfl (fun hc49 => ?_) (fun hc49 => ?_)
  ·have hc49 : ((a < j) ∧ (f (nth cur2 j.toNat) (nth cur2 ((j - 1).toNat)) < 0)) := (And.imp (fun h => (of_decide_eq_true h)) (fun h => (of_decide_eq_true h)) (andT hc49))
   refine W_skip (Then_n (W_seq (W_block ?_)))
   refine W_rgdM TryMixed (fun _ => True) (fun i => i == 15 || i == 17) [(0, .q true), (1, .q true), (2, .q true), (3, .q true), (4, .q true), (5, .q true), (6, .q true), (7, .q true), (8, .q true), (9, .q false), (10, .q true), (11, .q true), (12, .q true), (13, .q false), (14, .q true), (15, .c true), (16, .q true), (17, .c true)] (by kernel_rfl) ?_
   refine Lx_q (i := 0) rfl rfl _ (fun v50 hv51 => R_move (v := (slV hs s)) rfl ⟨rfl, Gr.refl _ _⟩) ?_
   refine Lx_q (i := 1) rfl rfl _ (fun v52 hv53 => R_move (v := (.int .i64 j)) rfl ⟨rfl, Gr.refl _ _⟩) ?_
   refine Lx_q (i := 2) rfl rfl _ (fun v54 hv55 => R_move (v := (slV hs s)) rfl ⟨rfl, Gr.refl _ _⟩) ?_
   refine Lx_q (i := 3) rfl rfl _ (fun v56 hv57 => R_move (v := (.int .i64 j)) rfl ⟨rfl, Gr.refl _ _⟩) ?_
   refine Lx_q (i := 4) rfl rfl _ (fun v58 hv59 => R_arith (a := j) (b := 1) (r0 := j - 1) (r := j - 1) rfl rfl rfl (w64 _ (by omega)) ⟨rfl, Gr.refl _ _⟩) ?_
   refine Lx_q (i := 5) rfl rfl _ (fun v60 hv61 => R_move (v := (slV hs s)) rfl ⟨rfl, Gr.refl _ _⟩) ?_
   refine Lx_q (i := 6) rfl rfl _ (fun v62 hv63 => R_move (v := (.int .i64 j)) rfl ⟨rfl, Gr.refl _ _⟩) ?_
   refine Lx_q (i := 7) rfl rfl _ (fun v64 hv65 => R_arith (a := j) (b := 1) (r0 := j - 1) (r := j - 1) rfl rfl rfl (w64 _ (by omega)) ⟨rfl, Gr.refl _ _⟩) ?_
   refine Lx_q (i := 8) rfl rfl _ (fun v66 hv67 => R_index_pure (OwnS.sl (H48.getOwn 0 rfl) (fun _ => rfl)) (n := s.length) (by first | omega | (simp only [List.length_set]; omega)) (j := (j - 1)) (oo := (hs.o + ((j - 1).toNat) * 8)) Try.underlying22 Try.sizeOf44 rfl rfl (by omega) (by omega) rfl ⟨rfl, Gr.refl _ _⟩) ?_
   refine Lx_q (i := 9) rfl rfl _ (fun v68 hv69 => R_loadA (cs := [[(.int .i64 (((nth cur2 ((j - 1).toNat)).node).T))], [(.int .i64 (((nth cur2 ((j - 1).toNat)).node).R))], [(.int .i64 (((nth cur2 ((j - 1).toNat)).par).T))], [(.int .i64 (((nth cur2 ((j - 1).toNat)).par).R))], [(.int .i64 (((nth cur2 ((j - 1).toNat)).tm).T))], [(.int .i64 (((nth cur2 ((j - 1).toNat)).tm).R))], [(.string ((nth cur2 ((j - 1).toNat)).name))], [(slV ((nth cur2 ((j - 1).toNat)).hh) ((nth cur2 ((j - 1).toNat)).heads))]]) Try.isAgg44 Try.sizeOf44 rfl rfl ((Sl.elem (OwnS.sl ((H48.ext hv69).getOwn 0 rfl) (fun _ => rfl)) (i := (j - 1).toNat) (by omega) rfl).chunks 0 8 0 (hs.o + ((j - 1).toNat) * 8) _ rfl rfl rfl) ⟨rfl, Gr.refl _ _⟩) ?_
   refine Lx_q (i := 10) rfl rfl _ (fun v70 hv71 => R_move (v := (slV hs s)) rfl ⟨rfl, Gr.refl _ _⟩) ?_
   refine Lx_q (i := 11) rfl rfl _ (fun v72 hv73 => R_move (v := (.int .i64 j)) rfl ⟨rfl, Gr.refl _ _⟩) ?_
   refine Lx_q (i := 12) rfl rfl _ (fun v74 hv75 => R_index_pure (OwnS.sl (H48.getOwn 0 rfl) (fun _ => rfl)) (n := s.length) (by first | omega | (simp only [List.length_set]; omega)) (j := j) (oo := (hs.o + j.toNat * 8)) Try.underlying22 Try.sizeOf44 rfl rfl (by omega) (by omega) rfl ⟨rfl, Gr.refl _ _⟩) ?_
   refine Lx_q (i := 13) rfl rfl _ (fun v76 hv77 => R_loadA (cs := [[(.int .i64 (((nth cur2 j.toNat).node).T))], [(.int .i64 (((nth cur2 j.toNat).node).R))], [(.int .i64 (((nth cur2 j.toNat).par).T))], [(.int .i64 (((nth cur2 j.toNat).par).R))], [(.int .i64 (((nth cur2 j.toNat).tm).T))], [(.int .i64 (((nth cur2 j.toNat).tm).R))], [(.string ((nth cur2 j.toNat).name))], [(slV ((nth cur2 j.toNat).hh) ((nth cur2 j.toNat).heads))]]) Try.isAgg44 Try.sizeOf44 rfl rfl ((Sl.elem (OwnS.sl ((H48.ext hv77).getOwn 0 rfl) (fun _ => rfl)) (i := j.toNat) (by omega) rfl).chunks 0 8 0 (hs.o + j.toNat * 8) _ rfl rfl rfl) ⟨rfl, Gr.refl _ _⟩) ?_
   refine Lx_q (i := 14) rfl rfl _ (fun v78 hv79 => R_index_pure (OwnS.sl (H48.getOwn 0 rfl) (fun _ => rfl)) (n := s.length) (by first | omega | (simp only [List.length_set]; omega)) (j := j) (oo := (hs.o + j.toNat * 8)) Try.underlying22 Try.sizeOf44 rfl rfl (by omega) (by omega) rfl ⟨rfl, Gr.refl _ _⟩) ?_
   refine Lx_cu (i := 15) rfl (fun w80 hw81 => ?_)
   have H82 := H48.ext hw81
   refine (C_storeEl H82 0 rfl (j := j.toNat) (v := (aggOf (rowCh (nth cur2 ((j - 1).toNat))))) (nth cur2 ((j - 1).toNat)) ([] : List Value) ([[(.int .i64 (((nth cur2 j.toNat).node).T))], [(.int .i64 (((nth cur2 j.toNat).node).R))], [(.int .i64 (((nth cur2 j.toNat).par).T))], [(.int .i64 (((nth cur2 j.toNat).par).R))], [(.int .i64 (((nth cur2 j.toNat).tm).T))], [(.int .i64 (((nth cur2 j.toNat).tm).R))], [(.string ((nth cur2 j.toNat).name))], [(slV ((nth cur2 j.toNat).hh) ((nth cur2 j.toNat).heads))]]).flatten ([] : List Value) ([[(.int .i64 (((nth cur2 ((j - 1).toNat)).node).T))], [(.int .i64 (((nth cur2 ((j - 1).toNat)).node).R))], [(.int .i64 (((nth cur2 ((j - 1).toNat)).par).T))], [(.int .i64 (((nth cur2 ((j - 1).toNat)).par).R))], [(.int .i64 (((nth cur2 ((j - 1).toNat)).tm).T))], [(.int .i64 (((nth cur2 ((j - 1).toNat)).tm).R))], [(.string ((nth cur2 ((j - 1).toNat)).name))], [(slV ((nth cur2 ((j - 1).toNat)).hh) ((nth cur2 ((j - 1).toNat)).heads))]]).flatten (fun _ => rfl) (by omega) Try.sizeOf44 rfl rfl rfl rfl rfl rfl rfl rfl rfl ?_)
   intro w83 hg84 H85
   refine ⟨Gr.mono (M' := fun _ => True) hg84 (fun _ _ => trivial), ?_⟩
   refine Lx_q (i := 16) rfl rfl _ (fun v86 hv87 => R_index_pure (OwnS.sl (H85.getOwn 0 rfl) (fun _ => rfl)) (n := s.length) (by first | omega | (simp only [List.length_set]; omega)) (j := (j - 1)) (oo := (hs.o + ((j - 1).toNat) * 8)) Try.underlying22 Try.sizeOf44 rfl rfl (by omega) (by omega) rfl ⟨rfl, Gr.refl _ _⟩) ?_
   refine Lx_cu (i := 17) rfl (fun w88 hw89 => ?_)
   have H90 := H85.ext hw89
   refine (C_storeEl H90 0 rfl (j := (j - 1).toNat) (v := (aggOf (rowCh (nth cur2 j.toNat)))) (nth cur2 j.toNat) ([] : List Value) ([[(.int .i64 (((nth (cur2.set j.toNat (nth cur2 ((j - 1).toNat))) ((j - 1).toNat)).node).T))], [(.int .i64 (((nth (cur2.set j.toNat (nth cur2 ((j - 1).toNat))) ((j - 1).toNat)).node).R))], [(.int .i64 (((nth (cur2.set j.toNat (nth cur2 ((j - 1).toNat))) ((j - 1).toNat)).par).T))], [(.int .i64 (((nth (cur2.set j.toNat (nth cur2 ((j - 1).toNat))) ((j - 1).toNat)).par).R))], [(.int .i64 (((nth (cur2.set j.toNat (nth cur2 ((j - 1).toNat))) ((j - 1).toNat)).tm).T))], [(.int .i64 (((nth (cur2.set j.toNat (nth cur2 ((j - 1).toNat))) ((j - 1).toNat)).tm).R))], [(.string ((nth (cur2.set j.toNat (nth cur2 ((j - 1).toNat))) ((j - 1).toNat)).name))], [(slV ((nth (cur2.set j.toNat (nth cur2 ((j - 1).toNat))) ((j - 1).toNat)).hh) ((nth (cur2.set j.toNat (nth cur2 ((j - 1).toNat))) ((j - 1).toNat)).heads))]]).flatten ([] : List Value) ([[(.int .i64 (((nth cur2 j.toNat).node).T))], [(.int .i64 (((nth cur2 j.toNat).node).R))], [(.int .i64 (((nth cur2 j.toNat).par).T))], [(.int .i64 (((nth cur2 j.toNat).par).R))], [(.int .i64 (((nth cur2 j.toNat).tm).T))], [(.int .i64 (((nth cur2 j.toNat).tm).R))], [(.string ((nth cur2 j.toNat).name))], [(slV ((nth cur2 j.toNat).hh) ((nth cur2 j.toNat).heads))]]).flatten (fun _ => rfl) (by simp only [List.length_set]; omega) Try.sizeOf44 rfl rfl rfl rfl rfl rfl rfl rfl rfl ?_)
   intro w91 hg92 H93
   refine ⟨Gr.mono (M' := fun _ => True) hg92 (fun _ _ => trivial), ?_⟩
   refine Lx_nil (fun w94 hw95 => ?_)
   have H96 := H93.ext hw95
   refine Blk_n (Then_n (W_reg ?_))
   refine O_v rfl (R_move (v := (.int .i64 j)) rfl ?_)
   refine O_v rfl (R_arith (a := j) (b := 1) (r0 := j - 1) (r := j - 1) rfl rfl rfl (w64 _ (by omega)) ?_)
   refine O_v rfl (R_assign (v := (.int .i64 (j - 1))) rfl ?_)
   refine O_nil (Then_n ?_)
   refine ⟨_, ?_, (j - 1), ((cur2.set j.toNat (nth cur2 ((j - 1).toNat))).set ((j - 1).toNat) (nth cur2 j.toNat)), rfl, (by omega), (by simp only [List.length_set]; exact hl2), (swap_perm' hp (by omega) (by omega)), _, envL_self ⟨rfl, rfl, rfl, rfl, rfl, rfl, rfl, rfl, rfl, rfl, trivial⟩, H96⟩
   omega
  ·have hc49 : (¬ (a < j) ∨ ¬ (f (nth cur2 j.toNat) (nth cur2 ((j - 1).toNat)) < 0)) := (Or.imp (fun h => (of_decide_eq_false h)) (fun h => (of_decide_eq_false h)) (andF hc49))
   refine W_exit (Then_x (Then_x (Blk_x (Blk_n (Then_n (W_reg ?_))))))
   refine O_v rfl (R_move (v := (.int .i64 i)) rfl ?_)
   refine O_v rfl (R_arith (a := i) (b := 1) (r0 := i + 1) (r := i + 1) rfl rfl rfl (w64 _ (by omega)) ?_)
   refine O_v rfl (R_assign (v := (.int .i64 (i + 1))) rfl ?_)
   refine O_nil (Then_n ?_)
   refine ⟨_, ?_, (i + 1), cur2, rfl, (by omega), hl2, hp, _, envL_self ⟨rfl, rfl, rfl, rfl, rfl, trivial⟩, H48⟩
   omega
 ·have hc6 : ¬ (i < b) := (of_decide_eq_false hc6)
  refine W_exit (Then_x (Then_x (Blk_x (ret_n ?_))))
  exact ret_0 Try.results73 ⟨_, rfl, H5.gr, H5.getOwn 0 rfl, hp⟩

end Go.Proofs.Ytiknfldhommmpaa
namespace Go.Proofs.Ytiknfldhommmpaa
open Go
set_option maxRecDepth 100000
set_option linter.unusedVariables false
set_option linter.unusedSimpArgs false
set_option maxHeartbeats 1000000 in
theorem swapRange_Row (hs : SlH) (s : List RowS) (a : Int) (b : Int) (n : Int) (kcmp : FuncId) (ccmp : Array Value) (f : RowS → RowS → Int) (w : World) (Os : OwnS 0 44 8 rowCh hs s w) (Kcmp : callable Try.prog kcmp = true) (Ccmp : ∀ x ∈ s, ∀ y ∈ s, ∀ w1, Gr (fun b => (slV hs s).ownBlock = some b) w w1 → Calls Try.prog kcmp (#[rowV x, rowV y] ++ ccmp) w1 (Ret fun v w2 => v = .int .i64 (f x y) ∧ Ext w1 w2)) (ha : 0 ≤ a) (hb : 0 ≤ b) (hn0 : 0 ≤ n) (han : a + n ≤ s.length) (hbn : b + n ≤ s.length) (hsl : s.length ≤ 1048576) :
    Calls Try.prog 89 #[(slV hs s), (.int .i64 a), (.int .i64 b), (.int .i64 n), (.func (.func kcmp) #[] ccmp)] w (Ret fun v w' => ∃ s' : List RowS, v = .tuple #[] ∧ Gr (fun b => (slV hs s).ownBlock = some b) w w' ∧ OwnS 0 44 8 rowCh hs s' w' ∧ (s'.Perm s)) := by
 refine calls_W Try.func89 rfl Try.ntmps89 rfl ?_
 have H0 := Ctx.startRow Os
 have LSs := (OwnS.sl Os (fun _ => rfl)).len
 refine W_seq (W_reg ?_)
 refine O_v rfl (R_assign (v := (.int .i64 0)) rfl ?_)
 refine O_nil (Then_n (W_block ?_))
 refine W_loop (fun m1 e2 w3 => ∃ (i : Int), ∃ (cur : List RowS), m1 = (n - i).toNat ∧ (0 ≤ i ∧ i ≤ n) ∧ (cur.length = s.length) ∧ (cur.Perm s) ∧ ∃ eb4, e2 = envL [(0, (slV hs s)), (1, (.int .i64 a)), (2, (.int .i64 b)), (3, (.int .i64 n)), (10, (.int .i64 i))] eb4 ∧ Ctx w (fun b => (slV hs s).ownBlock = some b) w3 [rowR 44 8 rowCh hs cur] []) _ ⟨0, s, rfl, (by omega), rfl, (List.Perm.refl _), _, envL_self ⟨rfl, rfl, rfl, rfl, rfl, trivial⟩, H0⟩ ?_
 rintro m1 _ w3 ⟨i, cur, rfl, hi, hl, hp, eb4, rfl, H5⟩
 refine W_seq (W_seq (W_reg ?_))
 refine O_v rfl (R_move (v := (.int .i64 i)) rfl ?_)
 refine O_v rfl (R_move (v := (.int .i64 n)) rfl ?_)
 refine O_v rfl (R_cmp (a := i) (b := n) (r := (decide (i < n))) rfl rfl rfl ?_)
 refine O_nil (Then_n ?_)
 refine W_cond (t := (decide (i < n))) rfl (fun hc6 => ?_) (fun hc6 => ?_)
 ·have hc6 : (i < n) := (of_decide_eq_true hc6)
  refine W_skip (Then_n (W_seq (W_block ?_)))
  refine W_rgdM TryMixed (fun _ => True) (fun i => i == 21 || i == 23) [(0, .q true), (1, .q true), (2, .q true), (3, .q true), (4, .q true), (5, .q true), (6, .q true), (7, .q true), (8, .q true), (9, .q true), (10, .q true), (11, .q true), (12, .q true), (13, .q false), (14, .q true), (15, .q true), (16, .q true), (17, .q true), (18, .q true), (19, .q false), (20, .q true), (21, .c true), (22, .q true), (23, .c true)] (by kernel_rfl) ?_
  refine Lx_q (i := 0) rfl rfl _ (fun v7 hv8 => R_move (v := (slV hs s)) rfl ⟨rfl, Gr.refl _ _⟩) ?_
  refine Lx_q (i := 1) rfl rfl _ (fun v9 hv10 => R_move (v := (.int .i64 a)) rfl ⟨rfl, Gr.refl _ _⟩) ?_
  refine Lx_q (i := 2) rfl rfl _ (fun v11 hv12 => R_move (v := (.int .i64 i)) rfl ⟨rfl, Gr.refl _ _⟩) ?_
  refine Lx_q (i := 3) rfl rfl _ (fun v13 hv14 => R_arith (a := a) (b := i) (r0 := a + i) (r := a + i) rfl rfl rfl (w64 _ (by omega)) ⟨rfl, Gr.refl _ _⟩) ?_
  refine Lx_q (i := 4) rfl rfl _ (fun v15 hv16 => R_move (v := (slV hs s)) rfl ⟨rfl, Gr.refl _ _⟩) ?_
  refine Lx_q (i := 5) rfl rfl _ (fun v17 hv18 => R_move (v := (.int .i64 b)) rfl ⟨rfl, Gr.refl _ _⟩) ?_
  refine Lx_q (i := 6) rfl rfl _ (fun v19 hv20 => R_move (v := (.int .i64 i)) rfl ⟨rfl, Gr.refl _ _⟩) ?_
  refine Lx_q (i := 7) rfl rfl _ (fun v21 hv22 => R_arith (a := b) (b := i) (r0 := b + i) (r := b + i) rfl rfl rfl (w64 _ (by omega)) ⟨rfl, Gr.refl _ _⟩) ?_
  refine Lx_q (i := 8) rfl rfl _ (fun v23 hv24 => R_move (v := (slV hs s)) rfl ⟨rfl, Gr.refl _ _⟩) ?_
  refine Lx_q (i := 9) rfl rfl _ (fun v25 hv26 => R_move (v := (.int .i64 b)) rfl ⟨rfl, Gr.refl _ _⟩) ?_
  refine Lx_q (i := 10) rfl rfl _ (fun v27 hv28 => R_move (v := (.int .i64 i)) rfl ⟨rfl, Gr.refl _ _⟩) ?_
  refine Lx_q (i := 11) rfl rfl _ (fun v29 hv30 => R_arith (a := b) (b := i) (r0 := b + i) (r := b + i) rfl rfl rfl (w64 _ (by omega)) ⟨rfl, Gr.refl _ _⟩) ?_
  refine Lx_q (i := 12) rfl rfl _ (fun v31 hv32 => R_index_pure (OwnS.sl (H5.getOwn 0 rfl) (fun _ => rfl)) (n := s.length) (by first | omega | (simp only [List.length_set]; omega)) (j := (b + i)) (oo := (hs.o + ((b + i).toNat) * 8)) Try.underlying22 Try.sizeOf44 rfl rfl (by omega) (by omega) rfl ⟨rfl, Gr.refl _ _⟩) ?_
  refine Lx_q (i := 13) rfl rfl _ (fun v33 hv34 => R_loadA (cs := [[(.int .i64 (((nth cur ((b + i).toNat)).node).T))], [(.int .i64 (((nth cur ((b + i).toNat)).node).R))], [(.int .i64 (((nth cur ((b + i).toNat)).par).T))], [(.int .i64 (((nth cur ((b + i).toNat)).par).R))], [(.int .i64 (((nth cur ((b + i).toNat)).tm).T))], [(.int .i64 (((nth cur ((b + i).toNat)).tm).R))], [(.string ((nth cur ((b + i).toNat)).name))], [(slV ((nth cur ((b + i).toNat)).hh) ((nth cur ((b + i).toNat)).heads))]]) Try.isAgg44 Try.sizeOf44 rfl rfl ((Sl.elem (OwnS.sl ((H5.ext hv34).getOwn 0 rfl) (fun _ => rfl)) (i := (b + i).toNat) (by omega) rfl).chunks 0 8 0 (hs.o + ((b + i).toNat) * 8) _ rfl rfl rfl) ⟨rfl, Gr.refl _ _⟩) ?_
  refine Lx_q (i := 14) rfl rfl _ (fun v35 hv36 => R_move (v := (slV hs s)) rfl ⟨rfl, Gr.refl _ _⟩) ?_
  refine Lx_q (i := 15) rfl rfl _ (fun v37 hv38 => R_move (v := (.int .i64 a)) rfl ⟨rfl, Gr.refl _ _⟩) ?_
  refine Lx_q (i := 16) rfl rfl _ (fun v39 hv40 => R_move (v := (.int .i64 i)) rfl ⟨rfl, Gr.refl _ _⟩) ?_
  refine Lx_q (i := 17) rfl rfl _ (fun v41 hv42 => R_arith (a := a) (b := i) (r0 := a + i) (r := a + i) rfl rfl rfl (w64 _ (by omega)) ⟨rfl, Gr.refl _ _⟩) ?_
  refine Lx_q (i := 18) rfl rfl _ (fun v43 hv44 => R_index_pure (OwnS.sl (H5.getOwn 0 rfl) (fun _ => rfl)) (n := s.length) (by first | omega | (simp only [List.length_set]; omega)) (j := (a + i)) (oo := (hs.o + ((a + i).toNat) * 8)) Try.underlying22 Try.sizeOf44 rfl rfl (by omega) (by omega) rfl ⟨rfl, Gr.refl _ _⟩) ?_
  refine Lx_q (i := 19) rfl rfl _ (fun v45 hv46 => R_loadA (cs := [[(.int .i64 (((nth cur ((a + i).toNat)).node).T))], [(.int .i64 (((nth cur ((a + i).toNat)).node).R))], [(.int .i64 (((nth cur ((a + i).toNat)).par).T))], [(.int .i64 (((nth cur ((a + i).toNat)).par).R))], [(.int .i64 (((nth cur ((a + i).toNat)).tm).T))], [(.int .i64 (((nth cur ((a + i).toNat)).tm).R))], [(.string ((nth cur ((a + i).toNat)).name))], [(slV ((nth cur ((a + i).toNat)).hh) ((nth cur ((a + i).toNat)).heads))]]) Try.isAgg44 Try.sizeOf44 rfl rfl ((Sl.elem (OwnS.sl ((H5.ext hv46).getOwn 0 rfl) (fun _ => rfl)) (i := (a + i).toNat) (by omega) rfl).chunks 0 8 0 (hs.o + ((a + i).toNat) * 8) _ rfl rfl rfl) ⟨rfl, Gr.refl _ _⟩) ?_
  refine Lx_q (i := 20) rfl rfl _ (fun v47 hv48 => R_index_pure (OwnS.sl (H5.getOwn 0 rfl) (fun _ => rfl)) (n := s.length) (by first | omega | (simp only [List.length_set]; omega)) (j := (a + i)) (oo := (hs.o + ((a + i).toNat) * 8)) Try.underlying22 Try.sizeOf44 rfl rfl (by omega) (by omega) rfl ⟨rfl, Gr.refl _ _⟩) ?_
  refine Lx_cu (i := 21) rfl (fun w49 hw50 => ?_)
  have H51 := H5.ext hw50
  refine (C_storeEl H51 0 rfl (j := (a + i).toNat) (v := (aggOf (rowCh (nth cur ((b + i).toNat))))) (nth cur ((b + i).toNat)) ([] : List Value) ([[(.int .i64 (((nth cur ((a + i).toNat)).node).T))], [(.int .i64 (((nth cur ((a + i).toNat)).node).R))], [(.int .i64 (((nth cur ((a + i).toNat)).par).T))], [(.int .i64 (((nth cur ((a + i).toNat)).par).R))], [(.int .i64 (((nth cur ((a + i).toNat)).tm).T))], [(.int .i64 (((nth cur ((a + i).toNat)).tm).R))], [(.string ((nth cur ((a + i).toNat)).name))], [(slV ((nth cur ((a + i).toNat)).hh) ((nth cur ((a + i).toNat)).heads))]]).flatten ([] : List Value) ([[(.int .i64 (((nth cur ((b + i).toNat)).node).T))], [(.int .i64 (((nth cur ((b + i).toNat)).node).R))], [(.int .i64 (((nth cur ((b + i).toNat)).par).T))], [(.int .i64 (((nth cur ((b + i).toNat)).par).R))], [(.int .i64 (((nth cur ((b + i).toNat)).tm).T))], [(.int .i64 (((nth cur ((b + i).toNat)).tm).R))], [(.string ((nth cur ((b + i).toNat)).name))], [(slV ((nth cur ((b + i).toNat)).hh) ((nth cur ((b + i).toNat)).heads))]]).flatten (fun _ => rfl) (by omega) Try.sizeOf44 rfl rfl rfl rfl rfl rfl rfl rfl rfl ?_)
  intro w52 hg53 H54
  refine ⟨Gr.mono (M' := fun _ => True) hg53 (fun _ _ => trivial), ?_⟩
  refine Lx_q (i := 22) rfl rfl _ (fun v55 hv56 => R_index_pure (OwnS.sl (H54.getOwn 0 rfl) (fun _ => rfl)) (n := s.length) (by first | omega | (simp only [List.length_set]; omega)) (j := (b + i)) (oo := (hs.o + ((b + i).toNat) * 8)) Try.underlying22 Try.sizeOf44 rfl rfl (by omega) (by omega) rfl ⟨rfl, Gr.refl _ _⟩) ?_
  refine Lx_cu (i := 23) rfl (fun w57 hw58 => ?_)
  have H59 := H54.ext hw58
  refine (C_storeEl H59 0 rfl (j := (b + i).toNat) (v := (aggOf (rowCh (nth cur ((a + i).toNat))))) (nth cur ((a + i).toNat)) ([] : List Value) ([[(.int .i64 (((nth (cur.set ((a + i).toNat) (nth cur ((b + i).toNat))) ((b + i).toNat)).node).T))], [(.int .i64 (((nth (cur.set ((a + i).toNat) (nth cur ((b + i).toNat))) ((b + i).toNat)).node).R))], [(.int .i64 (((nth (cur.set ((a + i).toNat) (nth cur ((b + i).toNat))) ((b + i).toNat)).par).T))], [(.int .i64 (((nth (cur.set ((a + i).toNat) (nth cur ((b + i).toNat))) ((b + i).toNat)).par).R))], [(.int .i64 (((nth (cur.set ((a + i).toNat) (nth cur ((b + i).toNat))) ((b + i).toNat)).tm).T))], [(.int .i64 (((nth (cur.set ((a + i).toNat) (nth cur ((b + i).toNat))) ((b + i).toNat)).tm).R))], [(.string ((nth (cur.set ((a + i).toNat) (nth cur ((b + i).toNat))) ((b + i).toNat)).name))], [(slV ((nth (cur.set ((a + i).toNat) (nth cur ((b + i).toNat))) ((b + i).toNat)).hh) ((nth (cur.set ((a + i).toNat) (nth cur ((b + i).toNat))) ((b + i).toNat)).heads))]]).flatten ([] : List Value) ([[(.int .i64 (((nth cur ((a + i).toNat)).node).T))], [(.int .i64 (((nth cur ((a + i).toNat)).node).R))], [(.int .i64 (((nth cur ((a + i).toNat)).par).T))], [(.int .i64 (((nth cur ((a + i).toNat)).par).R))], [(.int .i64 (((nth cur ((a + i).toNat)).tm).T))], [(.int .i64 (((nth cur ((a + i).toNat)).tm).R))], [(.string ((nth cur ((a + i).toNat)).name))], [(slV ((nth cur ((a + i).toNat)).hh) ((nth cur ((a + i).toNat)).heads))]]).flatten (fun _ => rfl) (by simp only [List.length_set]; omega) Try.sizeOf44 rfl rfl rfl rfl rfl rfl rfl rfl rfl ?_)
  intro w60 hg61 H62
  refine ⟨Gr.mono (M' := fun _ => True) hg61 (fun _ _ => trivial), ?_⟩
  refine Lx_nil (fun w63 hw64 => ?_)
  have H65 := H62.ext hw64
  refine Blk_n (Then_n (W_reg ?_))
  refine O_v rfl (R_move (v := (.int .i64 i)) rfl ?_)
  refine O_v rfl (R_arith (a := i) (b := 1) (r0 := i + 1) (r := i + 1) rfl rfl rfl (w64 _ (by omega)) ?_)
  refine O_v rfl (R_assign (v := (.int .i64 (i + 1))) rfl ?_)
  refine O_nil (Then_n ?_)
  refine ⟨_, ?_, (i + 1), ((cur.set ((a + i).toNat) (nth cur ((b + i).toNat))).set ((b + i).toNat) (nth cur ((a + i).toNat))), rfl, (by omega), (by simp only [List.length_set]; exact hl), (swap_perm' hp (by omega) (by omega)), _, envL_self ⟨rfl, rfl, rfl, rfl, rfl, trivial⟩, H65⟩
  omega
 ·have hc6 : ¬ (i < n) := (of_decide_eq_false hc6)
  refine W_exit (Then_x (Then_x (Blk_x (ret_n ?_))))
  exact ret_0 Try.results89 ⟨_, rfl, H5.gr, H5.getOwn 0 rfl, hp⟩

end Go.Proofs.Ytiknfldhommmpaa
namespace Go.Proofs.Ytiknfldhommmpaa
open Go
set_option maxRecDepth 100000
set_option linter.unusedVariables false
set_option linter.unusedSimpArgs false
theorem rotate_Row_c89 : callable Try.prog 89 = true := by kernel_rfl
set_option maxHeartbeats 1000000 in
theorem rotate_Row (hs : SlH) (s : List RowS) (a : Int) (m : Int) (b : Int) (kcmp : FuncId) (ccmp : Array Value) (f : RowS → RowS → Int) (w : World) (Os : OwnS 0 44 8 rowCh hs s w) (Kcmp : callable Try.prog kcmp = true) (Ccmp : ∀ x ∈ s, ∀ y ∈ s, ∀ w1, Gr (fun b => (slV hs s).ownBlock = some b) w w1 → Calls Try.prog kcmp (#[rowV x, rowV y] ++ ccmp) w1 (Ret fun v w2 => v = .int .i64 (f x y) ∧ Ext w1 w2)) (ha : 0 ≤ a) (ham : a < m) (hmb : m < b) (hb : b ≤ s.length) (hsl : s.length ≤ 1048576) :
    Calls Try.prog 83 #[(slV hs s), (.int .i64 a), (.int .i64 m), (.int .i64 b), (.func (.func kcmp) #[] ccmp)] w (Ret fun v w' => ∃ s' : List RowS, v = .tuple #[] ∧ Gr (fun b => (slV hs s).ownBlock = some b) w w' ∧ OwnS 0 44 8 rowCh hs s' w' ∧ (s'.Perm s)) := by
 refine calls_W Try.func83 rfl Try.ntmps83 rfl ?_
 have H0 := Ctx.startRow Os
 have LSs := (OwnS.sl Os (fun _ => rfl)).len
 refine W_seq (W_reg ?_)
 refine O_v rfl (R_move (v := (.int .i64 m)) rfl ?_)
 refine O_v rfl (R_move (v := (.int .i64 a)) rfl ?_)
 refine O_v rfl (R_arith (a := m) (b := a) (r0 := m - a) (r := m - a) rfl rfl rfl (w64 _ (by omega)) ?_)
 refine O_v rfl (R_assign (v := (.int .i64 (m - a))) rfl ?_)
 refine O_nil (Then_n (W_seq (W_reg ?_)))
 refine O_v rfl (R_move (v := (.int .i64 b)) rfl ?_)
 refine O_v rfl (R_move (v := (.int .i64 m)) rfl ?_)
 refine O_v rfl (R_arith (a := b) (b := m) (r0 := b - m) (r := b - m) rfl rfl rfl (w64 _ (by omega)) ?_)
 refine O_v rfl (R_assign (v := (.int .i64 (b - m))) rfl ?_)
 refine O_nil (Then_n (W_seq (W_block ?_)))
 refine W_loop (fun m1 e2 w3 => ∃ (i : Int), ∃ (j : Int), ∃ (cur : List RowS), m1 = (i + j).toNat ∧ (1 ≤ i ∧ i ≤ m - a) ∧ (1 ≤ j ∧ j ≤ b - m) ∧ (cur.length = s.length) ∧ (cur.Perm s) ∧ ∃ eb4, e2 = envL [(0, (slV hs s)), (2, (.int .i64 m)), (4, (.func (.func kcmp) #[] ccmp)), (10, (.int .i64 i)), (11, (.int .i64 j))] eb4 ∧ Ctx w (fun b => (slV hs s).ownBlock = some b) w3 [rowR 44 8 rowCh hs cur] []) _ ⟨(m - a), (b - m), s, rfl, (by omega), (by omega), rfl, (List.Perm.refl _), _, envL_self ⟨rfl, rfl, rfl, rfl, rfl, trivial⟩, H0⟩ ?_
 rintro m1 _ w3 ⟨i, j, cur, rfl, hi, hj, hl, hp, eb4, rfl, H5⟩
 refine W_seq (W_seq (W_reg ?_))
 refine O_v rfl (R_move (v := (.int .i64 i)) rfl ?_)
 refine O_v rfl (R_move (v := (.int .i64 j)) rfl ?_)
 refine O_v rfl (R_cmp (a := i) (b := j) (r := (!(decide (i = j)))) rfl rfl rfl ?_)
 refine O_nil (Then_n ?_)
 refine W_cond (t := (!(decide (i = j)))) rfl (fun hc6 => ?_) (fun hc6 => ?_)
 ·have hc6 : ¬ (i = j) := (of_decide_eq_false (notT hc6))
  refine W_skip (Then_n (W_block (W_seq (W_reg ?_))))
  refine O_v rfl (R_move (v := (.int .i64 i)) rfl ?_)
  refine O_v rfl (R_move (v := (.int .i64 j)) rfl ?_)
  refine O_v rfl (R_cmp (a := i) (b := j) (r := (decide (j < i))) rfl rfl rfl ?_)
  refine O_nil (Then_n ?_)
  refine W_cond (t := (decide (j < i))) rfl (fun hc7 => ?_) (fun hc7 => ?_)
  ·have hc7 : (j < i) := (of_decide_eq_true hc7)
   refine W_seq (W_reg ?_)
   refine O_v rfl (R_move (v := (slV hs s)) rfl ?_)
   refine O_v rfl (R_move (v := (.int .i64 m)) rfl ?_)
   refine O_v rfl (R_move (v := (.int .i64 i)) rfl ?_)
   refine O_v rfl (R_arith (a := m) (b := i) (r0 := m - i) (r := m - i) rfl rfl rfl (w64 _ (by omega)) ?_)
   refine O_v rfl (R_move (v := (.int .i64 m)) rfl ?_)
   refine O_v rfl (R_move (v := (.int .i64 j)) rfl ?_)
   refine O_v rfl (R_move (v := (.func (.func kcmp) #[] ccmp)) rfl ?_)
   refine O_v rfl (R_callL (vs := [(slV hs cur), (.int .i64 (m - i)), (.int .i64 m), (.int .i64 j), (.func (.func kcmp) #[] ccmp)]) rotate_Row_c89 rfl (lst5 (slV_len (l := s) (l' := cur) (by omega)) rfl rfl rfl rfl) ((swapRange_Row hs cur (m - i) m j kcmp ccmp f w3 (H5.getOwn 0 rfl) Kcmp (fun x hx y hy w1 he => Ccmp x (hp.mem_iff.1 hx) y (hp.mem_iff.1 hy) w1 (H5.gr.trans (he.mono (fun b hb => own_slV.trans hb)))) (by omega) (by omega) (by omega) (by omega) (by omega) (by omega)).ret ?_))
   rintro _ w8 ⟨s12, rfl, hg9, ho10, hr13⟩
   have H11 := H5.updRow 0 rfl hg9 ho10
   have hr13l := (hr13).length_eq
   refine O_nil (Then_n (W_reg ?_))
   refine O_v rfl (R_move (v := (.int .i64 i)) rfl ?_)
   refine O_v rfl (R_move (v := (.int .i64 j)) rfl ?_)
   refine O_v rfl (R_arith (a := i) (b := j) (r0 := i - j) (r := i - j) rfl rfl rfl (w64 _ (by omega)) ?_)
   refine O_v rfl (R_assign (v := (.int .i64 (i - j))) rfl ?_)
   refine O_nil (Blk_n (Then_n ?_))
   refine ⟨_, ?_, (i - j), j, s12, rfl, (by omega), (by omega), (by omega), (hr13.trans hp), _, envL_self ⟨rfl, rfl, rfl, rfl, rfl, trivial⟩, H11⟩
   omega
  ·have hc7 : ¬ (j < i) := (of_decide_eq_false hc7)
   refine W_seq (W_reg ?_)
   refine O_v rfl (R_move (v := (slV hs s)) rfl ?_)
   refine O_v rfl (R_move (v := (.int .i64 m)) rfl ?_)
   refine O_v rfl (R_move (v := (.int .i64 i)) rfl ?_)
   refine O_v rfl (R_arith (a := m) (b := i) (r0 := m - i) (r := m - i) rfl rfl rfl (w64 _ (by omega)) ?_)
   refine O_v rfl (R_move (v := (.int .i64 m)) rfl ?_)
   refine O_v rfl (R_move (v := (.int .i64 j)) rfl ?_)
   refine O_v rfl (R_arith (a := m) (b := j) (r0 := m + j) (r := m + j) rfl rfl rfl (w64 _ (by omega)) ?_)
   refine O_v rfl (R_move (v := (.int .i64 i)) rfl ?_)
   refine O_v rfl (R_arith (a := (m + j)) (b := i) (r0 := (m + j) - i) (r := (m + j) - i) rfl rfl rfl (w64 _ (by omega)) ?_)
   refine O_v rfl (R_move (v := (.int .i64 i)) rfl ?_)
   refine O_v rfl (R_move (v := (.func (.func kcmp) #[] ccmp)) rfl ?_)
   refine O_v rfl (R_callL (vs := [(slV hs cur), (.int .i64 (m - i)), (.int .i64 ((m + j) - i)), (.int .i64 i), (.func (.func kcmp) #[] ccmp)]) rotate_Row_c89 rfl (lst5 (slV_len (l := s) (l' := cur) (by omega)) rfl rfl rfl rfl) ((swapRange_Row hs cur (m - i) ((m + j) - i) i kcmp ccmp f w3 (H5.getOwn 0 rfl) Kcmp (fun x hx y hy w1 he => Ccmp x (hp.mem_iff.1 hx) y (hp.mem_iff.1 hy) w1 (H5.gr.trans (he.mono (fun b hb => own_slV.trans hb)))) (by omega) (by omega) (by omega) (by omega) (by omega) (by omega)).ret ?_))
   rintro _ w14 ⟨s18, rfl, hg15, ho16, hr19⟩
   have H17 := H5.updRow 0 rfl hg15 ho16
   have hr19l := (hr19).length_eq
   refine O_nil (Then_n (W_reg ?_))
   refine O_v rfl (R_move (v := (.int .i64 j)) rfl ?_)
   refine O_v rfl (R_move (v := (.int .i64 i)) rfl ?_)
   refine O_v rfl (R_arith (a := j) (b := i) (r0 := j - i) (r := j - i) rfl rfl rfl (w64 _ (by omega)) ?_)
   refine O_v rfl (R_assign (v := (.int .i64 (j - i))) rfl ?_)
   refine O_nil (Blk_n (Then_n ?_))
   refine ⟨_, ?_, i, (j - i), s18, rfl, (by omega), (by omega), (by omega), (hr19.trans hp), _, envL_self ⟨rfl, rfl, rfl, rfl, rfl, trivial⟩, H17⟩
   omega
 ·have hc6 : (i = j) := (of_decide_eq_true (notF hc6))
  refine W_exit (Then_x (Then_x (Blk_x (Then_n (W_reg ?_)))))
  refine O_v rfl (R_move (v := (slV hs s)) rfl ?_)
  refine O_v rfl (R_move (v := (.int .i64 m)) rfl ?_)
  refine O_v rfl (R_move (v := (.int .i64 i)) rfl ?_)
  refine O_v rfl (R_arith (a := m) (b := i) (r0 := m - i) (r := m - i) rfl rfl rfl (w64 _ (by omega)) ?_)
  refine O_v rfl (R_move (v := (.int .i64 m)) rfl ?_)
  refine O_v rfl (R_move (v := (.int .i64 i)) rfl ?_)
  refine O_v rfl (R_move (v := (.func (.func kcmp) #[] ccmp)) rfl ?_)
  refine O_v rfl (R_callL (vs := [(slV hs cur), (.int .i64 (m - i)), (.int .i64 m), (.int .i64 i), (.func (.func kcmp) #[] ccmp)]) rotate_Row_c89 rfl (lst5 (slV_len (l := s) (l' := cur) (by omega)) rfl rfl rfl rfl) ((swapRange_Row hs cur (m - i) m i kcmp ccmp f w3 (H5.getOwn 0 rfl) Kcmp (fun x hx y hy w1 he => Ccmp x (hp.mem_iff.1 hx) y (hp.mem_iff.1 hy) w1 (H5.gr.trans (he.mono (fun b hb => own_slV.trans hb)))) (by omega) (by omega) (by omega) (by omega) (by omega) (by omega)).ret ?_))
  rintro _ w20 ⟨s24, rfl, hg21, ho22, hr25⟩
  have H23 := H5.updRow 0 rfl hg21 ho22
  have hr25l := (hr25).length_eq
  refine O_nil (ret_n ?_)
  exact ret_0 Try.results83 ⟨_, rfl, H23.gr, H23.getOwn 0 rfl, (hr25.trans hp)⟩

end Go.Proofs.Ytiknfldhommmpaa
