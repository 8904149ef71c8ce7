/- Proved: for every input, pollardlaw04.ObjDirs returns true and leaves its argument as it was. No condition. -/
import Derived.Test.YthjdhfoeckfmbaaGreatX6
namespace Go.Proofs.YthjdhfoeckfmbaaGreat
open Go
set_option maxRecDepth 100000
set_option linter.unusedVariables false
set_option linter.unusedSimpArgs false
set_option linter.unusedSectionVars false
variable [DD]
set_option maxHeartbeats 1000000 in
theorem ref03_Name (s : ByteArray) (w : World) (hl : s.size ≤ 9223372036854775807) :
    Calls Tryz.prog 71 #[(.string s)] w (Ret fun v w' => v = (.bool (nameOk s)) ∧ Ext w w') := by
 refine calls_W Tryz.func71 rfl Tryz.ntmps71 rfl ?_
 have H0 := Ctx.start w nob
 refine W_seq (W_reg ?_)
 refine O_v rfl (R_assign (v := (.bool false)) rfl ?_)
 refine O_nil (Then_n (W_seq (W_seq (W_reg ?_))))
 refine O_v rfl (R_assign (v := (.int .i64 0)) rfl ?_)
 refine O_nil (Then_n (W_block ?_))
 refine W_loop (fun m1 e2 w3 => ∃ (k : Nat), m1 = s.size - k ∧ (k ≤ s.size) ∧ (∀ j, j < k → badByte (sbyte s j) = false) ∧ ∃ eb4, e2 = envL [(0, (.string s)), (3, (.int .i64 ((k : Nat) : Int)))] eb4 ∧ Ctx w nob w3 [] []) _ ⟨0, rfl, (by omega), (all_zero _), _, envL_self ⟨rfl, rfl, trivial⟩, H0⟩ ?_
 rintro m1 _ w3 ⟨k, rfl, hk, hn, eb4, rfl, H5⟩
 refine W_seq (W_seq (W_reg ?_))
 refine O_v rfl (R_move (v := (.int .i64 ((k : Nat) : Int))) rfl ?_)
 refine O_v rfl (R_move (v := (.string s)) rfl ?_)
 refine O_v rfl (R_len_string Tryz.underlying9 rfl ?_)
 refine O_v rfl (R_cmp (a := ((k : Nat) : Int)) (b := ((s.size : Nat) : Int)) (r := (decide (((k : Nat) : Int) < ((s.size : Nat) : Int)))) rfl rfl rfl ?_)
 refine O_nil (Then_n ?_)
 refine W_cond (t := (decide (((k : Nat) : Int) < ((s.size : Nat) : Int)))) rfl (fun hc6 => ?_) (fun hc6 => ?_)
 ·have hc6 : (((k : Nat) : Int) < ((s.size : Nat) : Int)) := (of_decide_eq_true hc6)
  refine W_skip (Then_n (W_seq (W_block (W_seq ?_))))
  refine W_rg [(0, .q 0), (1, .q 0), (2, .q 0), (3, .q 0), (4, .q 0), (5, .q 0), (6, .q 0), (7, .q 0), (8, .q 0), (9, .q 0), (10, .q 0), (11, .q 0), (12, .q 0), (13, .q 0), (14, .q 0), (15, .q 0)] (by kernel_rfl) ?_
  refine Lx_q (i := 0) rfl rfl _ (fun v7 hv8 => R_move (v := (.string s)) rfl ⟨rfl, Gr.refl _ _⟩) ?_
  refine Lx_q (i := 1) rfl rfl _ (fun v9 hv10 => R_move (v := (.int .i64 ((k : Nat) : Int))) rfl ⟨rfl, Gr.refl _ _⟩) ?_
  refine Lx_q (i := 2) rfl rfl _ (fun v11 hv12 => R_index_s (s := s) (k := k) Tryz.underlying9 rfl rfl rfl (by omega) ⟨rfl, Gr.refl _ _⟩) ?_
  refine Lx_q (i := 3) rfl rfl _ (fun v13 hv14 => R_cmp (a := ((sbyte s k).toNat : Int)) (b := 0) (r := (decide (((sbyte s k).toNat : Int) = 0))) rfl rfl rfl ⟨rfl, Gr.refl _ _⟩) ?_
  refine Lx_q (i := 4) rfl rfl _ (fun v15 hv16 => R_move (v := (.bool (decide (((sbyte s k).toNat : Int) = 0)))) rfl ⟨rfl, Gr.refl _ _⟩) ?_
  refine Lx_qg (i := 5) true (decide (((sbyte s k).toNat : Int) = 0)) rfl rfl rfl rfl rfl (!(decide (((sbyte s k).toNat : Int) = 0))) ga_f _ (fun hA v17 hv18 => R_move (v := (.string s)) rfl ⟨rfl, Gr.refl _ _⟩) ?_
  refine Lx_qg (i := 6) true (decide (((sbyte s k).toNat : Int) = 0)) rfl rfl rfl rfl rfl (!(decide (((sbyte s k).toNat : Int) = 0))) ga_f _ (fun hA v19 hv20 => R_move (v := (.int .i64 ((k : Nat) : Int))) rfl ⟨rfl, Gr.refl _ _⟩) ?_
  refine Lx_qg (i := 7) true (decide (((sbyte s k).toNat : Int) = 0)) rfl rfl rfl rfl rfl (!(decide (((sbyte s k).toNat : Int) = 0))) ga_f _ (fun hA v21 hv22 => by
        have hP : ¬ (((sbyte s k).toNat : Int) = 0) := (of_decide_eq_false (notT hA))
        exact R_index_s (s := s) (k := k) Tryz.underlying9 (gv_t hA) (gv_t hA) rfl (by omega) ⟨rfl, Gr.refl _ _⟩) ?_
  refine Lx_qg (i := 8) true (decide (((sbyte s k).toNat : Int) = 0)) rfl rfl rfl rfl rfl (!(decide (((sbyte s k).toNat : Int) = 0))) ga_f _ (fun hA v23 hv24 => R_cmp (a := ((sbyte s k).toNat : Int)) (b := 47) (r := (decide (((sbyte s k).toNat : Int) = 47))) (gv_t hA) rfl rfl ⟨rfl, Gr.refl _ _⟩) ?_
  refine Lx_q (i := 9) rfl rfl _ (fun v25 hv26 => R_pick (t := (decide (((sbyte s k).toNat : Int) = 0))) (v := (.bool ((decide (((sbyte s k).toNat : Int) = 0)) || (decide (((sbyte s k).toNat : Int) = 47))))) rfl pk_or ⟨rfl, Gr.refl _ _⟩) ?_
  refine Lx_q (i := 10) rfl rfl _ (fun v27 hv28 => R_move (v := (.bool ((decide (((sbyte s k).toNat : Int) = 0)) || (decide (((sbyte s k).toNat : Int) = 47))))) rfl ⟨rfl, Gr.refl _ _⟩) ?_
  refine Lx_qg (i := 11) true ((decide (((sbyte s k).toNat : Int) = 0)) || (decide (((sbyte s k).toNat : Int) = 47))) rfl rfl rfl rfl rfl (!((decide (((sbyte s k).toNat : Int) = 0)) || (decide (((sbyte s k).toNat : Int) = 47)))) ga_f _ (fun hA v29 hv30 => R_move (v := (.string s)) rfl ⟨rfl, Gr.refl _ _⟩) ?_
  refine Lx_qg (i := 12) true ((decide (((sbyte s k).toNat : Int) = 0)) || (decide (((sbyte s k).toNat : Int) = 47))) rfl rfl rfl rfl rfl (!((decide (((sbyte s k).toNat : Int) = 0)) || (decide (((sbyte s k).toNat : Int) = 47)))) ga_f _ (fun hA v31 hv32 => R_move (v := (.int .i64 ((k : Nat) : Int))) rfl ⟨rfl, Gr.refl _ _⟩) ?_
  refine Lx_qg (i := 13) true ((decide (((sbyte s k).toNat : Int) = 0)) || (decide (((sbyte s k).toNat : Int) = 47))) rfl rfl rfl rfl rfl (!((decide (((sbyte s k).toNat : Int) = 0)) || (decide (((sbyte s k).toNat : Int) = 47)))) ga_f _ (fun hA v33 hv34 => by
        have hP : (¬ (((sbyte s k).toNat : Int) = 0) ∧ ¬ (((sbyte s k).toNat : Int) = 47)) := (And.imp (fun h => (of_decide_eq_false h)) (fun h => (of_decide_eq_false h)) (orF (notT hA)))
        exact R_index_s (s := s) (k := k) Tryz.underlying9 (gv_t hA) (gv_t hA) rfl (by omega) ⟨rfl, Gr.refl _ _⟩) ?_
  refine Lx_qg (i := 14) true ((decide (((sbyte s k).toNat : Int) = 0)) || (decide (((sbyte s k).toNat : Int) = 47))) rfl rfl rfl rfl rfl (!((decide (((sbyte s k).toNat : Int) = 0)) || (decide (((sbyte s k).toNat : Int) = 47)))) ga_f _ (fun hA v35 hv36 => R_cmp (a := ((sbyte s k).toNat : Int)) (b := 10) (r := (decide (((sbyte s k).toNat : Int) = 10))) (gv_t hA) rfl rfl ⟨rfl, Gr.refl _ _⟩) ?_
  refine Lx_q (i := 15) rfl rfl _ (fun v37 hv38 => R_pick (t := ((decide (((sbyte s k).toNat : Int) = 0)) || (decide (((sbyte s k).toNat : Int) = 47)))) (v := (.bool (((decide (((sbyte s k).toNat : Int) = 0)) || (decide (((sbyte s k).toNat : Int) = 47))) || (decide (((sbyte s k).toNat : Int) = 10))))) rfl pk_or ⟨rfl, Gr.refl _ _⟩) ?_
  refine Lx_nil (fun w39 hw40 => ?_)
  have H41 := H5.ext hw40
  refine Then_n ?_
  refine W_cond (t := (((decide (((sbyte s k).toNat : Int) = 0)) || (decide (((sbyte s k).toNat : Int) = 47))) || (decide (((sbyte s k).toNat : Int) = 10)))) rfl (fun hc42 => ?_) (fun hc42 => ?_)
  ·have hc42 : (((((sbyte s k).toNat : Int) = 0) ∨ (((sbyte s k).toNat : Int) = 47)) ∨ (((sbyte s k).toNat : Int) = 10)) := (Or.imp (fun h => (Or.imp (fun h => (of_decide_eq_true h)) (fun h => (of_decide_eq_true h)) (orT h))) (fun h => (of_decide_eq_true h)) (orT hc42))
   refine W_seq (W_reg ?_)
   refine O_v rfl (R_assign (v := (.bool false)) rfl ?_)
   refine O_nil (Then_n (W_ret (Blk_r (Then_r (Then_r (Blk_r (Then_r ?_)))))))
   refine ret_1 (v := (.bool false)) Tryz.results71 rfl ?_
   exact ⟨(nameOk_bad (k := k) (by omega) (by assumption)), H41.gr⟩
  ·have hc42 : ((¬ (((sbyte s k).toNat : Int) = 0) ∧ ¬ (((sbyte s k).toNat : Int) = 47)) ∧ ¬ (((sbyte s k).toNat : Int) = 10)) := (And.imp (fun h => (And.imp (fun h => (of_decide_eq_false h)) (fun h => (of_decide_eq_false h)) (orF h))) (fun h => (of_decide_eq_false h)) (orF hc42))
   refine W_skip (Blk_n (Then_n (W_reg ?_)))
   refine O_v rfl (R_move (v := (.int .i64 ((k : Nat) : Int))) rfl ?_)
   refine O_v rfl (R_arith (a := ((k : Nat) : Int)) (b := 1) (r0 := ((k : Nat) : Int) + 1) (r := ((k + 1 : Nat) : Int)) rfl rfl rfl (wrapN _ (by omega)) ?_)
   refine O_v rfl (R_assign (v := (.int .i64 ((k + 1 : Nat) : Int))) rfl ?_)
   refine O_nil (Then_n ?_)
   refine ⟨_, ?_, (k + 1), rfl, (by omega), (all_succ hn (badByte_f (by assumption))), _, envL_self ⟨rfl, rfl, trivial⟩, H41⟩
   omega
 ·have hc6 : ¬ (((k : Nat) : Int) < ((s.size : Nat) : Int)) := (of_decide_eq_false hc6)
  refine W_exit (Then_x (Then_x (Blk_x (Then_n (W_seq ?_)))))
  refine W_rg [(0, .q 0), (1, .q 0), (2, .q 0), (3, .q 0), (4, .q 0), (5, .q 0), (6, .q 0), (7, .q 0), (8, .q 0), (9, .q 0), (10, .q 0), (11, .q 0), (12, .q 0), (13, .q 0), (14, .q 0), (15, .q 0)] (by kernel_rfl) ?_
  refine Lx_q (i := 0) rfl rfl _ (fun v43 hv44 => R_move (v := (.string s)) rfl ⟨rfl, Gr.refl _ _⟩) ?_
  refine Lx_q (i := 1) rfl rfl _ (fun v45 hv46 => R_cmpS (a := s) (b := ByteArray.empty) (r := (!(decide (s = ByteArray.empty)))) rfl rfl rfl ⟨rfl, Gr.refl _ _⟩) ?_
  refine Lx_q (i := 2) rfl rfl _ (fun v47 hv48 => R_move (v := (.bool (!(decide (s = ByteArray.empty))))) rfl ⟨rfl, Gr.refl _ _⟩) ?_
  refine Lx_qg (i := 3) true (!(decide (s = ByteArray.empty))) rfl rfl rfl rfl rfl (!(decide (s = ByteArray.empty))) ga_t _ (fun hA v49 hv50 => R_move (v := (.string s)) rfl ⟨rfl, Gr.refl _ _⟩) ?_
  refine Lx_qg (i := 4) true (!(decide (s = ByteArray.empty))) rfl rfl rfl rfl rfl (!(decide (s = ByteArray.empty))) ga_t _ (fun hA v51 hv52 => R_len_string Tryz.underlying9 (gv_t hA) ⟨rfl, Gr.refl _ _⟩) ?_
  refine Lx_qg (i := 5) true (!(decide (s = ByteArray.empty))) rfl rfl rfl rfl rfl (!(decide (s = ByteArray.empty))) ga_t _ (fun hA v53 hv54 => R_cmp (a := ((s.size : Nat) : Int)) (b := 60) (r := (decide (((s.size : Nat) : Int) ≤ 60))) (gv_t hA) rfl rfl ⟨rfl, Gr.refl _ _⟩) ?_
  refine Lx_q (i := 6) rfl rfl _ (fun v55 hv56 => R_pick (t := (!(decide (s = ByteArray.empty)))) (v := (.bool ((!(decide (s = ByteArray.empty))) && (decide (((s.size : Nat) : Int) ≤ 60))))) rfl pk_and ⟨rfl, Gr.refl _ _⟩) ?_
  refine Lx_q (i := 7) rfl rfl _ (fun v57 hv58 => R_move (v := (.bool ((!(decide (s = ByteArray.empty))) && (decide (((s.size : Nat) : Int) ≤ 60))))) rfl ⟨rfl, Gr.refl _ _⟩) ?_
  refine Lx_qg (i := 8) true ((!(decide (s = ByteArray.empty))) && (decide (((s.size : Nat) : Int) ≤ 60))) rfl rfl rfl rfl rfl ((!(decide (s = ByteArray.empty))) && (decide (((s.size : Nat) : Int) ≤ 60))) ga_t _ (fun hA v59 hv60 => R_move (v := (.string s)) rfl ⟨rfl, Gr.refl _ _⟩) ?_
  refine Lx_qg (i := 9) true ((!(decide (s = ByteArray.empty))) && (decide (((s.size : Nat) : Int) ≤ 60))) rfl rfl rfl rfl rfl ((!(decide (s = ByteArray.empty))) && (decide (((s.size : Nat) : Int) ≤ 60))) ga_t _ (fun hA v61 hv62 => R_cmpS (a := s) (b := (⟨#[46]⟩ : ByteArray)) (r := (!(decide (s = (⟨#[46]⟩ : ByteArray))))) (gv_t hA) rfl rfl ⟨rfl, Gr.refl _ _⟩) ?_
  refine Lx_q (i := 10) rfl rfl _ (fun v63 hv64 => R_pick (t := ((!(decide (s = ByteArray.empty))) && (decide (((s.size : Nat) : Int) ≤ 60)))) (v := (.bool (((!(decide (s = ByteArray.empty))) && (decide (((s.size : Nat) : Int) ≤ 60))) && (!(decide (s = (⟨#[46]⟩ : ByteArray))))))) rfl pk_and ⟨rfl, Gr.refl _ _⟩) ?_
  refine Lx_q (i := 11) rfl rfl _ (fun v65 hv66 => R_move (v := (.bool (((!(decide (s = ByteArray.empty))) && (decide (((s.size : Nat) : Int) ≤ 60))) && (!(decide (s = (⟨#[46]⟩ : ByteArray))))))) rfl ⟨rfl, Gr.refl _ _⟩) ?_
  refine Lx_qg (i := 12) true (((!(decide (s = ByteArray.empty))) && (decide (((s.size : Nat) : Int) ≤ 60))) && (!(decide (s = (⟨#[46]⟩ : ByteArray))))) rfl rfl rfl rfl rfl (((!(decide (s = ByteArray.empty))) && (decide (((s.size : Nat) : Int) ≤ 60))) && (!(decide (s = (⟨#[46]⟩ : ByteArray))))) ga_t _ (fun hA v67 hv68 => R_move (v := (.string s)) rfl ⟨rfl, Gr.refl _ _⟩) ?_
  refine Lx_qg (i := 13) true (((!(decide (s = ByteArray.empty))) && (decide (((s.size : Nat) : Int) ≤ 60))) && (!(decide (s = (⟨#[46]⟩ : ByteArray))))) rfl rfl rfl rfl rfl (((!(decide (s = ByteArray.empty))) && (decide (((s.size : Nat) : Int) ≤ 60))) && (!(decide (s = (⟨#[46]⟩ : ByteArray))))) ga_t _ (fun hA v69 hv70 => R_cmpS (a := s) (b := (⟨#[46, 46]⟩ : ByteArray)) (r := (!(decide (s = (⟨#[46, 46]⟩ : ByteArray))))) (gv_t hA) rfl rfl ⟨rfl, Gr.refl _ _⟩) ?_
  refine Lx_q (i := 14) rfl rfl _ (fun v71 hv72 => R_pick (t := (((!(decide (s = ByteArray.empty))) && (decide (((s.size : Nat) : Int) ≤ 60))) && (!(decide (s = (⟨#[46]⟩ : ByteArray)))))) (v := (.bool ((((!(decide (s = ByteArray.empty))) && (decide (((s.size : Nat) : Int) ≤ 60))) && (!(decide (s = (⟨#[46]⟩ : ByteArray))))) && (!(decide (s = (⟨#[46, 46]⟩ : ByteArray))))))) rfl pk_and ⟨rfl, Gr.refl _ _⟩) ?_
  refine Lx_q (i := 15) rfl rfl _ (fun v73 hv74 => R_assign (v := (.bool ((((!(decide (s = ByteArray.empty))) && (decide (((s.size : Nat) : Int) ≤ 60))) && (!(decide (s = (⟨#[46]⟩ : ByteArray))))) && (!(decide (s = (⟨#[46, 46]⟩ : ByteArray))))))) rfl ⟨rfl, Gr.refl _ _⟩) ?_
  refine Lx_nil (fun w75 hw76 => ?_)
  have H77 := H5.ext hw76
  refine Then_n (W_ret ?_)
  refine ret_1 (v := (.bool ((((!(decide (s = ByteArray.empty))) && (decide (((s.size : Nat) : Int) ≤ 60))) && (!(decide (s = (⟨#[46]⟩ : ByteArray))))) && (!(decide (s = (⟨#[46, 46]⟩ : ByteArray))))))) Tryz.results71 rfl ?_
  exact ⟨(nameOk_good (by rwa [show s.size = k from by omega])), H77.gr⟩

end Go.Proofs.YthjdhfoeckfmbaaGreat
namespace Go.Proofs.YthjdhfoeckfmbaaGreat
open Go
set_option maxRecDepth 100000
set_option linter.unusedVariables false
set_option linter.unusedSimpArgs false
set_option linter.unusedSectionVars false
variable [DD]
set_option maxHeartbeats 1000000 in
theorem ref03_Right (s : Stamp) (w : World) :
    Calls Tryz.prog 62 #[(aggOf (stampCh s))] w (Ret fun v w' => v = (.bool (stRight s)) ∧ Ext w w') := by
 refine calls_W Tryz.func62 rfl Tryz.ntmps62 rfl ?_
 have H0 := Ctx.start w nob
 refine W_seq (W_reg ?_)
 refine O_v rfl (C_box H0 [[(.int .i64 s.T)], [(.int .i64 s.R)]] rfl ?_)
 intro b1 w2 hb3 hx4 H5
 refine O_v rfl (R_assign (v := (.bool false)) rfl ?_)
 refine O_nil (Then_n (W_seq ?_))
 refine W_rg [(0, .q 0), (1, .q 0), (2, .q 0), (3, .q 0), (4, .q 0), (5, .q 0), (6, .q 0), (7, .q 0), (8, .q 0), (9, .q 0), (10, .q 0), (11, .q 0), (12, .q 0), (13, .q 0), (14, .q 0), (15, .q 0), (16, .q 0), (17, .q 0), (18, .q 0)] (by kernel_rfl) ?_
 refine Lx_q (i := 0) rfl rfl _ (fun v6 hv7 => R_fieldAddr (off := 0) (oo := 0) Tryz.underlying69 rfl rfl Tryz.sizeOf2 rfl rfl ⟨rfl, Gr.refl _ _⟩) ?_
 refine Lx_q (i := 1) rfl rfl _ (fun v8 hv9 => R_load1 (v := (.int .i64 s.T)) Tryz.isAgg2 rfl ((boxR_at ((H5.ext hv9).getOwn 0 rfl)).chunks 0 1 0 0 _ rfl rfl rfl) ⟨rfl, Gr.refl _ _⟩) ?_
 refine Lx_q (i := 2) rfl rfl _ (fun v10 hv11 => R_cmp (a := s.T) (b := 0) (r := (decide (0 < s.T))) rfl rfl rfl ⟨rfl, Gr.refl _ _⟩) ?_
 refine Lx_q (i := 3) rfl rfl _ (fun v12 hv13 => R_move (v := (.bool (decide (0 < s.T)))) rfl ⟨rfl, Gr.refl _ _⟩) ?_
 refine Lx_qg (i := 4) true (decide (0 < s.T)) rfl rfl rfl rfl rfl (decide (0 < s.T)) ga_t _ (fun hA v14 hv15 => R_fieldAddr (off := 0) (oo := 0) Tryz.underlying69 rfl rfl Tryz.sizeOf2 rfl rfl ⟨rfl, Gr.refl _ _⟩) ?_
 refine Lx_qg (i := 5) true (decide (0 < s.T)) rfl rfl rfl rfl rfl (decide (0 < s.T)) ga_t _ (fun hA v16 hv17 => R_load1 (v := (.int .i64 s.T)) Tryz.isAgg2 (gv_t hA) ((boxR_at ((H5.ext hv17).getOwn 0 rfl)).chunks 0 1 0 0 _ rfl rfl rfl) ⟨rfl, Gr.refl _ _⟩) ?_
 refine Lx_qg (i := 6) true (decide (0 < s.T)) rfl rfl rfl rfl rfl (decide (0 < s.T)) ga_t _ (fun hA v18 hv19 => R_cmp (a := s.T) (b := 1099511627776) (r := (decide (s.T ≤ 1099511627776))) (gv_t hA) rfl rfl ⟨rfl, Gr.refl _ _⟩) ?_
 refine Lx_q (i := 7) rfl rfl _ (fun v20 hv21 => R_pick (t := (decide (0 < s.T))) (v := (.bool ((decide (0 < s.T)) && (decide (s.T ≤ 1099511627776))))) rfl pk_and ⟨rfl, Gr.refl _ _⟩) ?_
 refine Lx_q (i := 8) rfl rfl _ (fun v22 hv23 => R_move (v := (.bool ((decide (0 < s.T)) && (decide (s.T ≤ 1099511627776))))) rfl ⟨rfl, Gr.refl _ _⟩) ?_
 refine Lx_qg (i := 9) true ((decide (0 < s.T)) && (decide (s.T ≤ 1099511627776))) rfl rfl rfl rfl rfl ((decide (0 < s.T)) && (decide (s.T ≤ 1099511627776))) ga_t _ (fun hA v24 hv25 => R_fieldAddr (off := 1) (oo := 1) Tryz.underlying69 rfl rfl Tryz.sizeOf3 rfl rfl ⟨rfl, Gr.refl _ _⟩) ?_
 refine Lx_qg (i := 10) true ((decide (0 < s.T)) && (decide (s.T ≤ 1099511627776))) rfl rfl rfl rfl rfl ((decide (0 < s.T)) && (decide (s.T ≤ 1099511627776))) ga_t _ (fun hA v26 hv27 => R_load1 (v := (.int .i64 s.R)) Tryz.isAgg3 (gv_t hA) ((boxR_at ((H5.ext hv27).getOwn 0 rfl)).chunks 1 1 1 1 _ rfl rfl rfl) ⟨rfl, Gr.refl _ _⟩) ?_
 refine Lx_qg (i := 11) true ((decide (0 < s.T)) && (decide (s.T ≤ 1099511627776))) rfl rfl rfl rfl rfl ((decide (0 < s.T)) && (decide (s.T ≤ 1099511627776))) ga_t _ (fun hA v28 hv29 => R_cmp (a := s.R) (b := 0) (r := (decide (0 < s.R))) (gv_t hA) rfl rfl ⟨rfl, Gr.refl _ _⟩) ?_
 refine Lx_q (i := 12) rfl rfl _ (fun v30 hv31 => R_pick (t := ((decide (0 < s.T)) && (decide (s.T ≤ 1099511627776)))) (v := (.bool (((decide (0 < s.T)) && (decide (s.T ≤ 1099511627776))) && (decide (0 < s.R))))) rfl pk_and ⟨rfl, Gr.refl _ _⟩) ?_
 refine Lx_q (i := 13) rfl rfl _ (fun v32 hv33 => R_move (v := (.bool (((decide (0 < s.T)) && (decide (s.T ≤ 1099511627776))) && (decide (0 < s.R))))) rfl ⟨rfl, Gr.refl _ _⟩) ?_
 refine Lx_qg (i := 14) true (((decide (0 < s.T)) && (decide (s.T ≤ 1099511627776))) && (decide (0 < s.R))) rfl rfl rfl rfl rfl (((decide (0 < s.T)) && (decide (s.T ≤ 1099511627776))) && (decide (0 < s.R))) ga_t _ (fun hA v34 hv35 => R_fieldAddr (off := 1) (oo := 1) Tryz.underlying69 rfl rfl Tryz.sizeOf3 rfl rfl ⟨rfl, Gr.refl _ _⟩) ?_
 refine Lx_qg (i := 15) true (((decide (0 < s.T)) && (decide (s.T ≤ 1099511627776))) && (decide (0 < s.R))) rfl rfl rfl rfl rfl (((decide (0 < s.T)) && (decide (s.T ≤ 1099511627776))) && (decide (0 < s.R))) ga_t _ (fun hA v36 hv37 => R_load1 (v := (.int .i64 s.R)) Tryz.isAgg3 (gv_t hA) ((boxR_at ((H5.ext hv37).getOwn 0 rfl)).chunks 1 1 1 1 _ rfl rfl rfl) ⟨rfl, Gr.refl _ _⟩) ?_
 refine Lx_qg (i := 16) true (((decide (0 < s.T)) && (decide (s.T ≤ 1099511627776))) && (decide (0 < s.R))) rfl rfl rfl rfl rfl (((decide (0 < s.T)) && (decide (s.T ≤ 1099511627776))) && (decide (0 < s.R))) ga_t _ (fun hA v38 hv39 => R_cmp (a := s.R) (b := 65536) (r := (decide (s.R ≤ 65536))) (gv_t hA) rfl rfl ⟨rfl, Gr.refl _ _⟩) ?_
 refine Lx_q (i := 17) rfl rfl _ (fun v40 hv41 => R_pick (t := (((decide (0 < s.T)) && (decide (s.T ≤ 1099511627776))) && (decide (0 < s.R)))) (v := (.bool ((((decide (0 < s.T)) && (decide (s.T ≤ 1099511627776))) && (decide (0 < s.R))) && (decide (s.R ≤ 65536))))) rfl pk_and ⟨rfl, Gr.refl _ _⟩) ?_
 refine Lx_q (i := 18) rfl rfl _ (fun v42 hv43 => R_assign (v := (.bool ((((decide (0 < s.T)) && (decide (s.T ≤ 1099511627776))) && (decide (0 < s.R))) && (decide (s.R ≤ 65536))))) rfl ⟨rfl, Gr.refl _ _⟩) ?_
 refine Lx_nil (fun w44 hw45 => ?_)
 have H46 := H5.ext hw45
 refine Then_n (W_ret ?_)
 refine ret_1 (v := (.bool ((((decide (0 < s.T)) && (decide (s.T ≤ 1099511627776))) && (decide (0 < s.R))) && (decide (s.R ≤ 65536))))) Tryz.results62 rfl ?_
 exact ⟨(boolE (by simp only [stRight, Bool.and_eq_true, Bool.or_eq_true, Bool.not_eq_true, decide_eq_true_eq]; omega)), H46.gr⟩

end Go.Proofs.YthjdhfoeckfmbaaGreat
/- The plain side of strings.Join. -/
namespace Go.Proofs.YthjdhfoeckfmbaaGreat
open Go
set_option linter.unusedVariables false
set_option linter.unusedSimpArgs false
set_option linter.unusedSectionVars false
def joinTo (xs : List ByteArray) (sep : ByteArray) (j : Nat) : List UInt8 := Lib.join ((xs.take j).map (·.data.toList)) sep.data.toList
def joinB (xs : List ByteArray) (sep : ByteArray) : ByteArray := ⟨(joinTo xs sep xs.length).toArray⟩
def lensTo (xs : List ByteArray) (k : Nat) : Nat := ((xs.take k).map (·.size)).sum
theorem ba_toArray (s : ByteArray) : (⟨s.data.toList.toArray⟩ : ByteArray) = s := by cases s; simp
theorem size_data (s : ByteArray) : s.data.toList.length = s.size := by rw [Array.length_toList]; rfl
theorem joinTo_zero {xs : List ByteArray} {sep : ByteArray} (h : ((xs.length : Nat) : Int) = 0) : joinB xs sep = ByteArray.empty := by
  have : xs = [] := List.eq_nil_of_length_eq_zero (by omega)
  subst this; rfl
theorem joinTo_one {xs : List ByteArray} {sep : ByteArray} (h : 1 ≤ xs.length) : joinTo xs sep 1 = (nth xs 0).data.toList := by
  cases xs with
  | nil => simp at h
  | cons x r => simp [joinTo, Lib.join_one, nth]
theorem joinB_one {xs : List ByteArray} {sep : ByteArray} (h : ((xs.length : Nat) : Int) = 1) : joinB xs sep = nth xs 0 := by
  have h1 : xs.length = 1 := by omega
  unfold joinB
  rw [h1, joinTo_one (by omega), ba_toArray]
theorem joinTo_succ {xs : List ByteArray} {sep : ByteArray} {j : Nat} (h1 : 1 ≤ j) (hj : j < xs.length) : joinTo xs sep (j + 1) = (joinTo xs sep j ++ sep.data.toList) ++ (nth xs j).data.toList := by
  unfold joinTo
  rw [List.take_succ_eq_append_getElem hj, nth_eq hj]
  cases xs with
  | nil => simp at hj
  | cons x r =>
    obtain ⟨j, rfl⟩ : ∃ i, j = i + 1 := ⟨j - 1, by omega⟩
    simp only [List.take_succ_cons, List.map_cons, List.cons_append, List.map_append, List.getElem_cons_succ, List.map_nil, Lib.join_cons, Lib.joinTail, List.flatten_append, List.flatten_cons, List.flatten_nil, List.append_nil, List.append_assoc]
theorem joinTo_len {xs : List ByteArray} {sep : ByteArray} : ∀ {j : Nat}, 1 ≤ j → j ≤ xs.length → (joinTo xs sep j).length = sep.size * (j - 1) + lensTo xs j := by
  intro j
  induction j with
  | zero => intro h; omega
  | succ j ih =>
    intro h1 h2
    by_cases h0 : j = 0
    · subst h0
      rw [joinTo_one (by omega)]
      cases xs with
      | nil => simp at h2
      | cons x r => show x.data.toList.length = _; rw [size_data]; show x.size = sep.size * 0 + (x.size + 0); omega
    · rw [joinTo_succ (by omega) (by omega), List.length_append, List.length_append, ih (by omega) (by omega), size_data, size_data]
      unfold lensTo
      rw [List.take_succ_eq_append_getElem (by omega), List.map_append, List.sum_append, nth_eq (by omega)]
      simp only [List.map_cons, List.map_nil, List.sum_cons, List.sum_nil, Nat.add_sub_cancel]
      have : sep.size * j = sep.size * (j - 1) + sep.size := by
        conv => lhs; rw [show j = (j - 1) + 1 from by omega, Nat.mul_add, Nat.mul_one]
      omega
theorem lensTo_succ {xs : List ByteArray} {k : Nat} (h : k < xs.length) : lensTo xs (k + 1) = lensTo xs k + (nth xs k).size := by
  unfold lensTo
  rw [List.take_succ_eq_append_getElem h, List.map_append, List.sum_append, nth_eq h]
  simp
theorem lensTo_le {xs : List ByteArray} : ∀ {j k : Nat}, j ≤ k → k ≤ xs.length → lensTo xs j ≤ lensTo xs k := by
  intro j k h
  induction h with
  | refl => intro; omega
  | step h ih =>
    intro h2
    have := ih (by omega)
    rw [lensTo_succ (by omega)]
    omega
theorem joinTo_le {xs : List ByteArray} {sep : ByteArray} {j : Nat} (h1 : 1 ≤ j) (h2 : j ≤ xs.length) : (joinTo xs sep j).length ≤ (joinTo xs sep xs.length).length := by
  rw [joinTo_len h1 h2, joinTo_len (by omega) (Nat.le_refl _)]
  have := lensTo_le (xs := xs) h2 (Nat.le_refl _)
  have : sep.size * (j - 1) ≤ sep.size * (xs.length - 1) := Nat.mul_le_mul_left _ (by omega)
  omega
theorem byteCells_app (l : List UInt8) (s : ByteArray) : Lib.byteCells l ++ Lib.strCells s = Lib.byteCells (l ++ s.data.toList) := by simp [Lib.byteCells, Lib.strCells]
theorem byteCells_len (l : List UInt8) : (Lib.byteCells l).length = l.length := by simp [Lib.byteCells]
theorem joinDead {n s : Nat} (h : (9223372036854775807 : Int).tdiv (((n - 1 : Nat)) : Int) ≤ ((s : Nat) : Int)) (h1 : 2 ≤ n) (h2 : s * (n - 1) ≤ 140737488355328) (h3 : n ≤ 140737488355328) : False := by
  have h4 : ((s : Nat) + 1) * (n - 1) ≤ 9223372036854775807 := by rw [Nat.add_mul]; omega
  have h5 : s + 1 ≤ 9223372036854775807 / (n - 1) := (Nat.le_div_iff_mul_le (by omega)).2 h4
  have h6 : (9223372036854775807 : Int).tdiv (((n - 1 : Nat)) : Int) = ((9223372036854775807 / (n - 1) : Nat) : Int) := by
    rw [Int.tdiv_eq_ediv_of_nonneg (by omega)]; rfl
  omega
theorem mulw {a b : Nat} (h : a * b ≤ 9223372036854775807) : IntKind.i64.wrap (((a : Nat) : Int) * ((b : Nat) : Int)) = ((a * b : Nat) : Int) := by
  have e : ((a : Nat) : Int) * ((b : Nat) : Int) = ((a * b : Nat) : Int) := by simp
  rw [e]; exact w64 _ (by omega)
theorem tdivw {b : Nat} (h : 1 ≤ b) : IntKind.i64.wrap ((9223372036854775807 : Int).tdiv ((b : Nat) : Int)) = (9223372036854775807 : Int).tdiv ((b : Nat) : Int) := by
  have h6 : (9223372036854775807 : Int).tdiv ((b : Nat) : Int) = ((9223372036854775807 / b : Nat) : Int) := by
    rw [Int.tdiv_eq_ediv_of_nonneg (by omega)]; rfl
  have h7 := Nat.div_le_self 9223372036854775807 b
  rw [h6]
  generalize 9223372036854775807 / b = q at h7
  exact w64 _ (by omega)
theorem nth_drop1 {xs : List ByteArray} {j : Nat} : nth (xs.drop 1) j = nth xs (j + 1) := by
  unfold nth; simp [List.getD_eq_getElem?_getD, List.getElem?_drop, Nat.add_comm]
theorem joinRoom {elems : List ByteArray} {sep : ByteArray} {j : Nat} (htot : (joinTo elems sep elems.length).length ≤ 140737488355328) (hj : j + 1 < elems.length) : (joinTo elems sep (j + 1)).length + sep.size + (nth elems (j + 1)).size ≤ 140737488355328 := by
  have h1 := joinTo_le (xs := elems) (sep := sep) (j := j + 1 + 1) (by omega) (by omega)
  rw [joinTo_succ (by omega) hj, List.length_append, List.length_append, size_data, size_data] at h1
  omega
theorem joinRoom1 {elems : List ByteArray} {sep : ByteArray} {j : Nat} (htot : (joinTo elems sep elems.length).length ≤ 140737488355328) (hj : j + 1 < elems.length) : (Lib.byteCells (joinTo elems sep (j + 1))).length + sep.size ≤ 140737488355328 := by
  have := joinRoom htot hj
  rw [byteCells_len]; omega
theorem joinRoom2 {elems : List ByteArray} {sep : ByteArray} {j : Nat} (htot : (joinTo elems sep elems.length).length ≤ 140737488355328) (hj : j + 1 < elems.length) : (Lib.byteCells (joinTo elems sep (j + 1) ++ sep.data.toList)).length + (nth (elems.drop 1) j).size ≤ 140737488355328 := by
  have := joinRoom htot hj
  rw [byteCells_len, List.length_append, size_data, nth_drop1]; omega
theorem joinB_of {elems : List ByteArray} {sep : ByteArray} {j : Nat} (h : j + 1 = elems.length) : joinB elems sep = ⟨(joinTo elems sep (j + 1)).toArray⟩ := by unfold joinB; rw [h]
def namesGo (kv : List (Stamp × RowS)) : Nat → Stamp → List ByteArray
  | 0, _ => []
  | n + 1, s => if s.T = 0 then [] else ((kvGet kv s).getD zeroRow).name :: namesGo kv n ((kvGet kv s).getD zeroRow).par
def slash : ByteArray := ⟨#[47]⟩
def pathOf (rows : List RowS) (node : Stamp) : ByteArray := if placeOf (tableOf rows) node = (⟨0, 0⟩, true) then joinB (namesGo (tableOf rows) ((tableOf rows).length + 1) node).reverse slash else ByteArray.empty
theorem place_step {kv : List (Stamp × RowS)} {n : Nat} {nd : Stamp} (h : placeGo kv n nd = (⟨0, 0⟩, true)) (h0 : ¬ nd.T = 0) : 1 ≤ n ∧ placeGo kv (n - 1) ((kvGet kv nd).getD zeroRow).par = (⟨0, 0⟩, true) := by
  cases n with
  | zero => simp [placeGo] at h
  | succ n =>
    unfold placeGo at h
    rw [if_neg h0] at h
    cases hk : kvGet kv nd with
    | none => rw [hk] at h; simp at h
    | some r =>
      rw [hk] at h
      exact ⟨by omega, h⟩
theorem names_step {kv : List (Stamp × RowS)} {n : Nat} {nd : Stamp} {acc : List ByteArray} {z : List ByteArray} (h : placeGo kv n nd = (⟨0, 0⟩, true)) (h0 : ¬ nd.T = 0) (ha : acc ++ namesGo kv n nd = z) :
    (acc ++ [((kvGet kv nd).getD zeroRow).name]) ++ namesGo kv (n - 1) ((kvGet kv nd).getD zeroRow).par = z := by
  cases n with
  | zero => simp [placeGo] at h
  | succ n =>
    rw [← ha]
    conv => rhs; unfold namesGo
    rw [if_neg h0, List.append_assoc]; rfl
theorem tableOf_mem {rows : List RowS} {s : Stamp} {r : RowS} (h : kvGet (tableOf rows) s = some r) : r ∈ rows ∧ r.node = s := by
  have key : ∀ (l : List RowS) (kv : List (Stamp × RowS)) (p : Stamp × RowS), p ∈ l.foldl (fun kv r => kvPut r.node r kv) kv → p ∈ kv ∨ (p.2 ∈ l ∧ p.2.node = p.1) := by
    intro l
    induction l with
    | nil => intro kv p hp; exact .inl hp
    | cons x l ih =>
      intro kv p hp
      rcases ih _ p hp with h | h
      · rcases kvPut_mem h with h | h
        · subst h; exact .inr ⟨by simp, rfl⟩
        · exact .inl h
      · exact .inr ⟨List.mem_cons_of_mem _ h.1, h.2⟩
  rcases key rows [] (s, r) (kvGet_mem h) with h | h
  · cases h
  · exact h
theorem table_name {rows : List RowS} (h : ∀ x ∈ rows, x.name.size ≤ 60) (nd : Stamp) : ((kvGet (tableOf rows) nd).getD zeroRow).name.size ≤ 60 := by
  cases hk : kvGet (tableOf rows) nd with
  | none => exact Nat.zero_le _
  | some r => exact h r (tableOf_mem hk).1
theorem lens_small {xs : List ByteArray} (h : ∀ x ∈ xs, x.size ≤ 60) : lensTo xs xs.length ≤ 60 * xs.length := by
  unfold lensTo
  rw [List.take_length]
  induction xs with
  | nil => simp
  | cons x xs ih =>
    have h1 := ih fun y hy => h y (List.mem_cons_of_mem _ hy)
    have h2 := h x (by simp)
    simp only [List.map_cons, List.sum_cons, List.length_cons]
    omega
theorem names_small {xs : List ByteArray} {n : Nat} (h : ∀ x ∈ xs, x.size ≤ 60) (hl : xs.length ≤ n) (hn : n ≤ 1048577) : (joinTo xs slash xs.length).length ≤ 140737488355328 := by
  by_cases h0 : xs.length = 0
  · have : xs = [] := List.eq_nil_of_length_eq_zero h0
    subst this; simp [joinTo, Lib.join_nil]
  · rw [joinTo_len (by omega) (Nat.le_refl _)]
    have := lens_small h
    have e : slash.size = 1 := rfl
    rw [e]; omega
theorem pathOf_none {rows : List RowS} {node : Stamp} (h : (placeOf (tableOf rows) node).2 = false ∨ ¬ (placeOf (tableOf rows) node).1 = ⟨0, 0⟩) : pathOf rows node = ByteArray.empty := by
  unfold pathOf
  rw [if_neg]
  intro e
  rw [e] at h
  simp at h
theorem pathOf_some {rows : List RowS} {node nd : Stamp} {n : Nat} {acc : List ByteArray} (hp : placeGo (tableOf rows) n nd = (⟨0, 0⟩, true)) (ha : acc ++ namesGo (tableOf rows) n nd = namesGo (tableOf rows) ((tableOf rows).length + 1) node) (h0 : nd.T = 0) (hq : placeOf (tableOf rows) node = (⟨0, 0⟩, true)) : pathOf rows node = joinB acc.reverse (⟨#[47]⟩ : ByteArray) := by
  unfold pathOf
  rw [if_pos hq, ← ha]
  have : namesGo (tableOf rows) n nd = [] := by
    cases n with
    | zero => rfl
    | succ n => unfold namesGo; rw [if_pos h0]
  rw [this, List.append_nil]; rfl
theorem place_conj {p : Stamp × Bool} {z : Stamp} (h : p.2 = true ∧ p.1 = z) : p = (z, true) := Prod.ext h.2 h.1
end Go.Proofs.YthjdhfoeckfmbaaGreat
/- The plain law of DifferRows: the program's look-ups and the document's answer, of rows that are a tree. -/
namespace Go.Proofs.YthjdhfoeckfmbaaGreat
open Go
set_option linter.unusedVariables false
set_option linter.unusedSimpArgs false
set_option linter.unusedSectionVars false
def stLt (a b : Stamp) : Prop := a.T < b.T ∨ a.T = b.T ∧ a.R < b.R
theorem cmpSt_neg {a b : Stamp} : cmpSt a b < 0 ↔ stLt a b := by
  unfold cmpSt stLt
  split
  · rename_i h; simp [h]
  · rename_i h
    split
    · simp [h]
    · simp [h]
theorem cmpSt_m1 {a b : Stamp} : cmpSt a b = -1 ↔ stLt a b := by
  rw [← cmpSt_neg]
  unfold cmpSt
  split
  · simp
  · split <;> simp
theorem stLt_trans {a b c : Stamp} (h : stLt a b) (k : stLt b c) : stLt a c := by unfold stLt at *; omega
theorem stLt_ne {a b : Stamp} (h : stLt a b) : a ≠ b := by rintro rfl; unfold stLt at h; omega
/-- Step by step, so each ahead of each. -/
theorem rise_pairwise {α : Type} [Inhabited α] {l : List α} {f : α → Stamp} (h : ∀ i, i < l.length → i = 0 ∨ stLt (f (nth l (i - 1))) (f (nth l i))) : l.Pairwise fun x y => stLt (f x) (f y) := by
  have key : ∀ d i, i + d + 1 < l.length → stLt (f (nth l i)) (f (nth l (i + d + 1))) := by
    intro d
    induction d with
    | zero =>
      intro i hi
      rcases h (i + 0 + 1) hi with h0 | h0
      · omega
      · exact h0
    | succ d ih =>
      intro i hi
      refine stLt_trans (ih i (by omega)) ?_
      rcases h (i + (d + 1) + 1) hi with h0 | h0
      · omega
      · exact h0
  rw [List.pairwise_iff_getElem]
  intro i j hi hj hij
  have := key (j - i - 1) i (by omega)
  rw [show i + (j - i - 1) + 1 = j from by omega, nth_eq hi, nth_eq hj] at this
  exact this
theorem pw_ne {rows : List RowS} (h : rows.Pairwise fun x y => stLt x.node y.node) : rows.Pairwise fun x y => x.node ≠ y.node := h.imp fun h => stLt_ne h
theorem table_find {rows : List RowS} (h : rows.Pairwise fun x y => x.node ≠ y.node) (s : Stamp) : kvGet (tableOf rows) s = rows.find? fun x => decide (x.node = s) := by
  have key : ∀ (l : List RowS) (kv : List (Stamp × RowS)), l.Pairwise (fun x y => x.node ≠ y.node) → kvGet (l.foldl (fun kv r => kvPut r.node r kv) kv) s = (l.find? fun x => decide (x.node = s)).or (kvGet kv s) := by
    intro l
    induction l with
    | nil => intro kv _; simp
    | cons r l ih =>
      intro kv hp
      have hp := List.pairwise_cons.1 hp
      rw [List.foldl_cons, ih _ hp.2, kvGet_put, List.find?_cons]
      by_cases hr : r.node = s
      · have : (l.find? fun x => decide (x.node = s)) = none := by
          rw [List.find?_eq_none]
          intro x hx
          have := hp.1 x hx
          simp only [decide_eq_true_eq]
          intro e; exact this (by rw [hr, e])
        rw [this, if_pos hr.symm]
        simp [hr]
      · rw [if_neg (Ne.symm hr)]
        simp [hr]
  have := key rows [] h
  rw [kvGet_nil, Option.or_none] at this
  exact this
theorem findRow_find (rows : List RowS) (s : Stamp) : (findRow rows s < 0 ∧ (rows.find? fun x => decide (x.node = s)) = none) ∨
    ∃ r, 0 ≤ findRow rows s ∧ (findRow rows s).toNat < rows.length ∧ nth rows (findRow rows s).toNat = r ∧ (rows.find? fun x => decide (x.node = s)) = some r ∧ r ∈ rows ∧ r.node = s := by
  unfold findRow
  cases hf : rows.findIdx? fun x => decide (x.node = s) with
  | none =>
    left
    refine ⟨by simp, ?_⟩
    rw [List.findIdx?_eq_none_iff] at hf
    rw [List.find?_eq_none]
    intro x hx
    have := hf x hx
    simpa using this
  | some i =>
    right
    obtain ⟨hi, h1, h2⟩ := List.findIdx?_eq_some_iff_getElem.1 hf
    refine ⟨rows[i], by simp, by simpa using hi, ?_, ?_, List.getElem_mem hi, by simpa using h1⟩
    · simp only [Int.toNat_natCast]; rw [nth_eq hi]
    · rw [List.find?_eq_some_iff_getElem]
      refine ⟨h1, i, hi, rfl, fun j hj => ?_⟩
      have := h2 j hj
      simpa using this
/-- A look-up, both ways. -/
theorem look {rows : List RowS} (h : rows.Pairwise fun x y => x.node ≠ y.node) (s : Stamp) : (findRow rows s < 0 ∧ kvGet (tableOf rows) s = none) ∨
    ∃ r, 0 ≤ findRow rows s ∧ (findRow rows s).toNat < rows.length ∧ nth rows (findRow rows s).toNat = r ∧ kvGet (tableOf rows) s = some r ∧ r ∈ rows ∧ r.node = s := by
  rw [table_find h]; exact findRow_find rows s
theorem kvPut_new {α β : Type} [DecidableEq α] {kv : List (α × β)} {k : α} (v : β) (h : kvGet kv k = none) : (kvPut k v kv).length = kv.length + 1 := by
  induction kv with
  | nil => rfl
  | cons p r ih =>
    rw [kvGet_cons] at h
    unfold kvPut
    by_cases hk : k = p.1
    · rw [if_pos hk] at h; cases h
    · rw [if_neg hk] at h ⊢
      simp only [List.length_cons, ih h]
theorem table_len {rows : List RowS} (h : rows.Pairwise fun x y => x.node ≠ y.node) : (tableOf rows).length = rows.length := by
  have key : ∀ (l : List RowS) (kv : List (Stamp × RowS)), l.Pairwise (fun x y => x.node ≠ y.node) → (∀ x ∈ l, kvGet kv x.node = none) → (l.foldl (fun kv r => kvPut r.node r kv) kv).length = kv.length + l.length := by
    intro l
    induction l with
    | nil => intro kv _ _; simp
    | cons r l ih =>
      intro kv hp hn
      have hp := List.pairwise_cons.1 hp
      rw [List.foldl_cons, ih _ hp.2, kvPut_new _ (hn r (by simp)), List.length_cons]
      · omega
      · intro x hx
        rw [kvGet_put, if_neg (fun e => hp.1 x hx e.symm)]
        exact hn x (List.mem_cons_of_mem _ hx)
  have := key rows [] h (fun _ _ => kvGet_nil _)
  simpa [tableOf] using this

section
variable {rows : List RowS} (hp : rows.Pairwise fun x y => x.node ≠ y.node) (hT : ∀ x ∈ rows, ¬ x.node.T = 0)
include hp hT
theorem lies_place {over : Stamp} (ho : over.T = 0) : ∀ (n : Nat) (s : Stamp), liesGo rows over n s = true → placeGo (tableOf rows) (n + 1) s = (over, true)
  | 0, s, h => by cases h
  | n + 1, s, h => by
    unfold liesGo at h
    split at h
    · cases h
    · rename_i h1
      rcases look hp s with ⟨h2, _⟩ | ⟨r, h2, h3, h4, h5, h6, h7⟩
      · omega
      · rw [h4] at h
        have hsT : ¬ s.T = 0 := h7 ▸ hT r h6
        unfold placeGo
        rw [if_neg hsT, h5]
        by_cases hpar : r.par = over
        · show placeGo (tableOf rows) (n + 1) r.par = _
          unfold placeGo
          rw [hpar, if_pos ho]
        · rw [if_neg hpar] at h
          exact lies_place ho n r.par h
theorem place_lies {over : Stamp} : ∀ (n : Nat) (s : Stamp), placeGo (tableOf rows) (n + 1) s = (over, true) → ¬ s.T = 0 → liesGo rows over n s = true
  | 0, s, h, h0 => by
    unfold placeGo at h
    rw [if_neg h0] at h
    cases hk : kvGet (tableOf rows) s with
    | none => rw [hk] at h; simp at h
    | some r => rw [hk] at h; simp [placeGo] at h
  | n + 1, s, h, h0 => by
    unfold placeGo at h
    rw [if_neg h0] at h
    rcases look hp s with ⟨h2, hk⟩ | ⟨r, h2, h3, h4, h5, h6, h7⟩
    · rw [hk] at h; simp at h
    · rw [h5] at h
      have h : placeGo (tableOf rows) (n + 1) r.par = (over, true) := h
      unfold liesGo
      rw [if_neg (by omega), h4]
      by_cases hpar : r.par = over
      · rw [if_pos hpar]
      · rw [if_neg hpar]
        refine place_lies n r.par h fun e => hpar ?_
        unfold placeGo at h
        rw [if_pos e] at h
        exact (Prod.ext_iff.1 h).1
theorem dead_lies {r : RowS} (hr : r ∈ rows) : deadOf rows r = liesOf rows r.node ⟨0, 1⟩ := by
  unfold deadOf placeOf liesOf
  rw [table_len hp]
  cases hl : liesGo rows ⟨0, 1⟩ rows.length r.node with
  | true => rw [lies_place hp hT rfl _ _ hl]; simp
  | false =>
    cases hd : (placeGo (tableOf rows) (rows.length + 1) r.node).2 with
    | false => simp
    | true =>
      rw [Bool.true_and, decide_eq_false_iff_not]
      intro e
      have := place_lies hp hT (over := ⟨0, 1⟩) rows.length r.node (Prod.ext e hd) (hT r hr)
      rw [hl] at this; cases this
theorem alive_law : aliveOf rows = aliveRef rows := by
  unfold aliveOf aliveRef
  refine List.filter_congr fun r hr => ?_
  rw [dead_lies hp hT hr]
end
theorem ba_append_toList (a b : ByteArray) : (a ++ b).data.toList = a.data.toList ++ b.data.toList := by
  rw [ByteArray.data_append, Array.toList_append]
theorem ba_ext {a b : ByteArray} (h : a.data.toList = b.data.toList) : a = b := by
  cases a; cases b
  simp only [ByteArray.mk.injEq]
  exact Array.ext' h
theorem joinB_toList (xs : List ByteArray) (sep : ByteArray) : (joinB xs sep).data.toList = joinTo xs sep xs.length := by unfold joinB; simp
theorem joinB_snoc {xs : List ByteArray} {sep x : ByteArray} (h : xs ≠ []) : joinB (xs ++ [x]) sep = joinB xs sep ++ (sep ++ x) := by
  have h1 : 1 ≤ xs.length := by cases xs with
    | nil => exact absurd rfl h
    | cons _ _ => simp
  apply ba_ext
  rw [ba_append_toList, ba_append_toList, joinB_toList, joinB_toList, List.length_append, List.length_singleton, joinTo_succ h1 (by simp), List.append_assoc]
  congr 1
  · unfold joinTo; rw [List.take_left', List.take_length]; rfl
  · congr 2
    unfold nth; simp [List.getD_eq_getElem?_getD]
theorem joinB_single (x sep : ByteArray) : joinB [x] sep = x := joinB_one rfl
section
variable {rows : List RowS} (hp : rows.Pairwise fun x y => x.node ≠ y.node) (hT : ∀ x ∈ rows, ¬ x.node.T = 0)
include hp hT
theorem names_ne {n : Nat} {s : Stamp} {over : Stamp} (h : liesGo rows over n s = true) : namesGo (tableOf rows) (n + 1) s ≠ [] := by
  have hsT : ¬ s.T = 0 := by
    have := lies_at h
    rcases look hp s with ⟨h2, hk⟩ | ⟨r, h2, h3, h4, h5, h6, h7⟩
    · omega
    · exact h7 ▸ hT r h6
  unfold namesGo
  rw [if_neg hsT]
  exact List.cons_ne_nil _ _
theorem path_names : ∀ (n : Nat) (s : Stamp) (out : ByteArray), liesGo rows ⟨0, 0⟩ n s = true → pathGo rows n s out = joinB (namesGo (tableOf rows) (n + 1) s).reverse slash ++ out
  | 0, s, out, h => by cases h
  | n + 1, s, out, h => by
    have hat := lies_at h
    rcases look hp s with ⟨h2, hk⟩ | ⟨r, h2, h3, h4, h5, h6, h7⟩
    · omega
    · have hsT : ¬ s.T = 0 := h7 ▸ hT r h6
      have hnm : namesGo (tableOf rows) (n + 1 + 1) s = r.name :: namesGo (tableOf rows) (n + 1) r.par := by
        conv => lhs; unfold namesGo
        rw [if_neg hsT, h5]; rfl
      rw [hnm, List.reverse_cons]
      by_cases hpar : r.par = ⟨0, 0⟩
      · rw [pathGo_end h (by rw [h4]; exact hpar), h4, hpar]
        have : namesGo (tableOf rows) (n + 1) ⟨0, 0⟩ = [] := by unfold namesGo; rw [if_pos rfl]
        rw [this, List.reverse_nil, List.nil_append, joinB_single]
      · have hst := lies_step h (by rw [h4]; exact hpar)
        rw [h4] at hst
        rw [pathGo_step h (by rw [h4]; exact hpar), h4, Nat.add_sub_cancel]
        rw [Nat.add_sub_cancel] at hst
        rw [path_names n r.par _ hst, joinB_snoc (by simpa using names_ne hp hT hst)]
        apply ba_ext
        simp only [ba_append_toList, List.append_assoc]; rfl
theorem path_law (node : Stamp) : pathOf rows node = pathRef rows node := by
  unfold pathOf pathRef
  by_cases h0 : node.T = 0
  · have hl : liesOf rows node ⟨0, 0⟩ = false := by
      cases hl : liesOf rows node ⟨0, 0⟩ with
      | false => rfl
      | true =>
        have hat := lies_at hl
        rcases look hp node with ⟨h2, hk⟩ | ⟨r, h2, h3, h4, h5, h6, h7⟩
        · omega
        · exact absurd h0 (h7 ▸ hT r h6)
    rw [hl, if_neg (show ¬ (false = true) by simp)]
    have hn : namesGo (tableOf rows) ((tableOf rows).length + 1) node = [] := by unfold namesGo; rw [if_pos h0]
    rw [hn]
    split
    · rfl
    · rfl
  · unfold placeOf liesOf
    rw [table_len hp]
    cases hl : liesGo rows ⟨0, 0⟩ rows.length node with
    | true =>
      rw [if_pos (lies_place hp hT rfl _ _ hl), if_pos rfl, path_names hp hT _ _ _ hl]
      apply ba_ext
      simp [ba_append_toList]
    | false =>
      rw [if_neg (show ¬ (false = true) by simp), if_neg]
      intro e
      have := place_lies hp hT _ _ e h0
      rw [hl] at this; cases this
end
theorem itemOk_node {node tm : Stamp} {name : ByteArray} {hs : List Head} (h : itemOk node tm name hs = true) : 1 ≤ node.T := by
  unfold itemOk at h
  simp only [decide_eq_true_eq, stRight] at h
  omega
theorem tree_pw {rows : List RowS} (h : treeOk rows = true) : rows.Pairwise fun x y => x.node ≠ y.node := by
  have h := of_decide_eq_true h
  refine pw_ne (rise_pairwise (f := RowS.node) fun i hi => ?_)
  rcases (h.2 i hi).2.2.1 with h1 | h1
  · exact .inl h1
  · exact .inr (cmpSt_m1.1 h1)
theorem tree_T {rows : List RowS} (h : treeOk rows = true) : ∀ x ∈ rows, ¬ x.node.T = 0 := by
  have h := of_decide_eq_true h
  intro x hx
  obtain ⟨i, hi, rfl⟩ := List.getElem_of_mem hx
  have := itemOk_node (h.2 i hi).1
  rw [nth_eq hi] at this
  omega
theorem rows_law {a b : List RowS} (ha : treeOk a = true) (hb : treeOk b = true) (node : Stamp) : aliveOf a = aliveRef a ∧ alikeOf a b = alikeRef a b ∧ pathOf a node = pathRef a node := by
  refine ⟨alive_law (tree_pw ha) (tree_T ha), ?_, path_law (tree_pw ha) (tree_T ha) node⟩
  unfold alikeOf alikeRef
  rw [alive_law (tree_pw ha) (tree_T ha), alive_law (tree_pw hb) (tree_T hb)]
end Go.Proofs.YthjdhfoeckfmbaaGreat
/- The document's answer on operations. -/
namespace Go.Proofs.YthjdhfoeckfmbaaGreat
open Go
set_option linter.unusedVariables false
set_option linter.unusedSimpArgs false
theorem rgood_f1 {o : OpS} (h : (stRight o.tm = false ∨ stRight o.node = false) ∨ (0 : Int) < cmpSt o.node o.tm) : Value.bool false = Value.bool (goodOp o) := boolF fun hh => by
  obtain ⟨h1, h2, h3⟩ := hh
  rcases h with (h | h) | h
  · rw [h1] at h; cases h
  · rw [h2] at h; cases h
  · rcases h3 with ⟨_, h3⟩ | ⟨_, h3⟩
    · have := (of_decide_eq_true h3).1; omega
    · have := (of_decide_eq_true h3).1; omega
theorem fixedSt_iff {s : Stamp} : fixedSt s = ((decide (s.T = 0) && decide (s.R = 0)) || (decide (s.T = 0) && decide (s.R = 1))) := by
  unfold fixedSt
  rw [Bool.eq_iff_iff]
  simp only [decide_eq_true_eq, Bool.or_eq_true, Bool.and_eq_true]
  omega
theorem rgood_m {o : OpS} (h : (stRight o.tm = true ∧ stRight o.node = true) ∧ ¬ (0 : Int) < cmpSt o.node o.tm) (hk : o.kind = 1) :
    Value.bool ((((((stRight o.par || (decide (o.par.T = 0) && decide (o.par.R = 0))) || (decide (o.par.T = 0) && decide (o.par.R = 1))) && nameOk o.name) && decide (o.data = zeroId)) && decide (((o.over.length : Nat) : Int) = 0))) = Value.bool (goodOp o) := by
  rw [Bool.or_assoc, ← fixedSt_iff]
  refine boolE ⟨fun hm => ⟨h.1.1, h.1.2, .inl ⟨hk, ?_⟩⟩, fun hg => ?_⟩
  · refine decide_eq_true ⟨by omega, ?_⟩
    simp only [Bool.and_eq_true, Bool.or_eq_true, decide_eq_true_eq] at hm
    exact ⟨hm.1.1.1, hm.1.1.2, hm.1.2, by have := hm.2; omega⟩
  · rcases hg.2.2 with ⟨_, hm⟩ | ⟨h2, _⟩
    · obtain ⟨_, h1, h2, h3, h4⟩ := of_decide_eq_true hm
      simp only [Bool.and_eq_true, Bool.or_eq_true, decide_eq_true_eq]
      exact ⟨⟨⟨h1, h2⟩, h3⟩, by omega⟩
    · omega
theorem cmpSt_self (s : Stamp) : cmpSt s s = 0 := cmpSt_eq (by omega) ⟨rfl, rfl⟩
theorem cmpSt_zero {a b : Stamp} : cmpSt a b = 0 ↔ a = b := by
  constructor
  · intro h
    unfold cmpSt at h
    split at h
    · cases h
    · split at h
      · rename_i h2; cases a; cases b; simp_all
      · cases h
  · rintro rfl; exact cmpSt_self a
theorem rgood_f2 {o : OpS} (h1 : ¬ o.kind = 1) (h : (((((¬ o.kind = 2 ∨ o.node = o.tm) ∨ ¬ o.par.T = 0) ∨ ¬ o.par.R = 0) ∨ ¬ o.name = ByteArray.empty) ∨ o.data = zeroId) ∨ (64 : Int) < ((o.over.length : Nat) : Int)) : Value.bool false = Value.bool (goodOp o) := boolF fun hh => by
  rcases hh.2.2 with ⟨hk, _⟩ | ⟨hk, he⟩
  · exact h1 hk
  · obtain ⟨e1, e2, e3, e4, e5, _⟩ := of_decide_eq_true he
    rcases h with (((((h | h) | h) | h) | h) | h) | h
    · exact h hk
    · rw [h, cmpSt_self] at e1; omega
    · rw [e2] at h; exact h rfl
    · rw [e2] at h; exact h rfl
    · exact h e3
    · exact e4 h
    · omega
theorem rover_t {tm : Stamp} {over : List Stamp} {k : Nat} (h : (stRight (nth over k) = true ∧ cmpSt (nth over k) tm = -1) ∧ (¬ (0 : Int) < ((k : Nat) : Int) ∨ cmpSt (nth over (k - 1)) (nth over k) = -1)) : opOverAt tm over k :=
  ⟨h.1.1, by have := h.1.2; omega, by rcases h.2 with h | h <;> omega⟩
theorem m1_of_neg {a b : Stamp} (h : cmpSt a b < 0) : cmpSt a b = -1 := cmpSt_m1.2 (cmpSt_neg.1 h)
theorem rgood_f3 {o : OpS} {k : Nat} (h1 : ¬ o.kind = 1) (hk : k < o.over.length) (h : (stRight (nth o.over k) = false ∨ ¬ cmpSt (nth o.over k) o.tm = -1) ∨ ((0 : Int) < ((k : Nat) : Int) ∧ ¬ cmpSt (nth o.over (k - 1)) (nth o.over k) = -1)) : Value.bool false = Value.bool (goodOp o) := boolF fun hh => by
  rcases hh.2.2 with ⟨hk, _⟩ | ⟨_, he⟩
  · exact h1 hk
  · obtain ⟨_, _, _, _, _, e6⟩ := of_decide_eq_true he
    obtain ⟨a1, a2, a3⟩ := e6 k hk
    rcases h with (h | h) | h
    · rw [a1] at h; cases h
    · exact h (m1_of_neg a2)
    · rcases a3 with a3 | a3
      · omega
      · exact h.2 (m1_of_neg a3)
theorem rgood_t {o : OpS} (h0 : (stRight o.tm = true ∧ stRight o.node = true) ∧ ¬ (0 : Int) < cmpSt o.node o.tm)
    (h : (((((o.kind = 2 ∧ ¬ o.node = o.tm) ∧ o.par.T = 0) ∧ o.par.R = 0) ∧ o.name = ByteArray.empty) ∧ ¬ o.data = zeroId) ∧ ¬ (64 : Int) < ((o.over.length : Nat) : Int)) (hn : ∀ i, i < o.over.length → opOverAt o.tm o.over i) : Value.bool true = Value.bool (goodOp o) := by
  refine boolT ⟨h0.1.1, h0.1.2, .inr ⟨h.1.1.1.1.1.1, decide_eq_true ⟨?_, ?_, h.1.1.2, h.1.2, by omega, hn⟩⟩⟩
  · have h1 : ¬ cmpSt o.node o.tm = 0 := fun e => h.1.1.1.1.1.2 (cmpSt_zero.1 e)
    omega
  · have h1 := h.1.1.1.1.2; have h2 := h.1.1.1.2
    cases hp : o.par with
    | mk T R => rw [hp] at h1 h2; simp at h1 h2; rw [h1, h2]
end Go.Proofs.YthjdhfoeckfmbaaGreat
namespace Go.Proofs.YthjdhfoeckfmbaaGreat
open Go
set_option maxRecDepth 100000
set_option linter.unusedVariables false
set_option linter.unusedSimpArgs false
set_option linter.unusedSectionVars false
variable [DD]
theorem ref03_Good_c44 : callable Tryz.prog 44 = true := by kernel_rfl
theorem ref03_Good_c62 : callable Tryz.prog 62 = true := by kernel_rfl
theorem ref03_Good_c71 : callable Tryz.prog 71 = true := by kernel_rfl
set_option maxHeartbeats 4000000 in
theorem ref03_Good (o : OpS) (w : World) (So_over : Sl (Old w) stampCh 2 o.oh o.over w) (hl : o.name.size ≤ 9223372036854775807) :
    Calls Tryz.prog 61 #[(aggOf (opCh o))] w (Ret fun v w' => v = (.bool (goodOp o)) ∧ Ext w w') := by
 refine calls_W Tryz.func61 rfl Tryz.ntmps61 rfl ?_
 have H0 := Ctx.start w nob
 have H1 := H0.addSl _ So_over (fun b hb => ⟨hb, fun _ ho => (nomatch ho)⟩)
 have LSo_over := So_over.len
 refine W_seq (W_reg ?_)
 refine O_v rfl (C_box H1 [[(.int .i64 o.kind)], [(.int .i64 o.tm.T)], [(.int .i64 o.tm.R)], [(.int .i64 o.node.T)], [(.int .i64 o.node.R)], [(.int .i64 o.par.T)], [(.int .i64 o.par.R)], [(.string o.name)], (idCells o.data), [(slV o.oh o.over)]] rfl ?_)
 intro b2 w3 hb4 hx5 H6
 refine O_v rfl (R_assign (v := (.bool false)) rfl ?_)
 refine O_nil (Then_n (W_seq (W_seq ?_)))
 refine W_rg [(0, .q 0), (1, .q 0), (2, .q 0), (3, .q 0), (4, .q 0), (5, .q 0), (6, .q 0), (7, .q 0), (8, .q 0), (9, .q 0), (10, .q 0), (11, .q 0), (12, .q 0), (13, .q 0), (14, .q 0), (15, .q 0), (16, .q 0), (17, .q 0)] (by kernel_rfl) ?_
 refine Lx_q (i := 0) rfl rfl _ (fun v7 hv8 => R_fieldAddr (off := 1) (oo := 1) Tryz.underlying72 rfl rfl Tryz.sizeOf69 rfl rfl ⟨rfl, Gr.refl _ _⟩) ?_
 refine Lx_q (i := 1) rfl rfl _ (fun v9 hv10 => R_loadA (cs := [[(.int .i64 o.tm.T)], [(.int .i64 o.tm.R)]]) Tryz.isAgg69 Tryz.sizeOf69 rfl rfl ((boxR_at ((H6.ext hv10).getOwn 0 rfl)).chunks 1 2 1 1 _ rfl rfl rfl) ⟨rfl, Gr.refl _ _⟩) ?_
 refine Lx_q (i := 2) rfl rfl (.bool (stRight o.tm)) (fun v11 hv12 => R_callL (vs := [(aggOf (stampCh o.tm))]) ref03_Good_c62 rfl rfl (ref03_Right o.tm v11 )) ?_
 refine Lx_q (i := 3) rfl rfl _ (fun v13 hv14 => R_not rfl ⟨rfl, Gr.refl _ _⟩) ?_
 refine Lx_q (i := 4) rfl rfl _ (fun v15 hv16 => R_move (v := (.bool (!(stRight o.tm)))) rfl ⟨rfl, Gr.refl _ _⟩) ?_
 refine Lx_qg (i := 5) true (!(stRight o.tm)) rfl rfl rfl rfl rfl (!(!(stRight o.tm))) ga_f _ (fun hA v17 hv18 => R_fieldAddr (off := 3) (oo := 3) Tryz.underlying72 rfl rfl Tryz.sizeOf69 rfl rfl ⟨rfl, Gr.refl _ _⟩) ?_
 refine Lx_qg (i := 6) true (!(stRight o.tm)) rfl rfl rfl rfl rfl (!(!(stRight o.tm))) ga_f _ (fun hA v19 hv20 => R_loadA (cs := [[(.int .i64 o.node.T)], [(.int .i64 o.node.R)]]) Tryz.isAgg69 Tryz.sizeOf69 rfl (gv_t hA) ((boxR_at ((H6.ext hv20).getOwn 0 rfl)).chunks 3 2 3 3 _ rfl rfl rfl) ⟨rfl, Gr.refl _ _⟩) ?_
 refine Lx_qg (i := 7) true (!(stRight o.tm)) rfl rfl rfl rfl rfl (!(!(stRight o.tm))) ga_f (.bool (stRight o.node)) (fun hA v21 hv22 => R_callL (vs := [(aggOf (stampCh o.node))]) ref03_Good_c62 rfl (lst1 (gv_t hA)) (ref03_Right o.node v21 )) ?_
 refine Lx_qg (i := 8) true (!(stRight o.tm)) rfl rfl rfl rfl rfl (!(!(stRight o.tm))) ga_f _ (fun hA v23 hv24 => R_not (gv_t hA) ⟨rfl, Gr.refl _ _⟩) ?_
 refine Lx_q (i := 9) rfl rfl _ (fun v25 hv26 => R_pick (t := (!(stRight o.tm))) (v := (.bool ((!(stRight o.tm)) || (!(stRight o.node))))) rfl pk_or ⟨rfl, Gr.refl _ _⟩) ?_
 refine Lx_q (i := 10) rfl rfl _ (fun v27 hv28 => R_move (v := (.bool ((!(stRight o.tm)) || (!(stRight o.node))))) rfl ⟨rfl, Gr.refl _ _⟩) ?_
 refine Lx_qg (i := 11) true ((!(stRight o.tm)) || (!(stRight o.node))) rfl rfl rfl rfl rfl (!((!(stRight o.tm)) || (!(stRight o.node)))) ga_f _ (fun hA v29 hv30 => R_fieldAddr (off := 3) (oo := 3) Tryz.underlying72 rfl rfl Tryz.sizeOf69 rfl rfl ⟨rfl, Gr.refl _ _⟩) ?_
 refine Lx_qg (i := 12) true ((!(stRight o.tm)) || (!(stRight o.node))) rfl rfl rfl rfl rfl (!((!(stRight o.tm)) || (!(stRight o.node)))) ga_f _ (fun hA v31 hv32 => R_loadA (cs := [[(.int .i64 o.node.T)], [(.int .i64 o.node.R)]]) Tryz.isAgg69 Tryz.sizeOf69 rfl (gv_t hA) ((boxR_at ((H6.ext hv32).getOwn 0 rfl)).chunks 3 2 3 3 _ rfl rfl rfl) ⟨rfl, Gr.refl _ _⟩) ?_
 refine Lx_qg (i := 13) true ((!(stRight o.tm)) || (!(stRight o.node))) rfl rfl rfl rfl rfl (!((!(stRight o.tm)) || (!(stRight o.node)))) ga_f _ (fun hA v33 hv34 => R_fieldAddr (off := 1) (oo := 1) Tryz.underlying72 rfl rfl Tryz.sizeOf69 rfl rfl ⟨rfl, Gr.refl _ _⟩) ?_
 refine Lx_qg (i := 14) true ((!(stRight o.tm)) || (!(stRight o.node))) rfl rfl rfl rfl rfl (!((!(stRight o.tm)) || (!(stRight o.node)))) ga_f _ (fun hA v35 hv36 => R_loadA (cs := [[(.int .i64 o.tm.T)], [(.int .i64 o.tm.R)]]) Tryz.isAgg69 Tryz.sizeOf69 rfl (gv_t hA) ((boxR_at ((H6.ext hv36).getOwn 0 rfl)).chunks 1 2 1 1 _ rfl rfl rfl) ⟨rfl, Gr.refl _ _⟩) ?_
 refine Lx_qg (i := 15) true ((!(stRight o.tm)) || (!(stRight o.node))) rfl rfl rfl rfl rfl (!((!(stRight o.tm)) || (!(stRight o.node)))) ga_f (.int .i64 (cmpSt o.node o.tm)) (fun hA v37 hv38 => R_callL (vs := [(aggOf (stampCh o.node)), (aggOf (stampCh o.tm))]) ref03_Good_c44 rfl (lst2 (gv_t hA) (gv_t hA)) (ref03_Cmp o.node o.tm v37 )) ?_
 refine Lx_qg (i := 16) true ((!(stRight o.tm)) || (!(stRight o.node))) rfl rfl rfl rfl rfl (!((!(stRight o.tm)) || (!(stRight o.node)))) ga_f _ (fun hA v39 hv40 => R_cmp (a := cmpSt o.node o.tm) (b := 0) (r := (decide (0 < cmpSt o.node o.tm))) (gv_t hA) rfl rfl ⟨rfl, Gr.refl _ _⟩) ?_
 refine Lx_q (i := 17) rfl rfl _ (fun v41 hv42 => R_pick (t := ((!(stRight o.tm)) || (!(stRight o.node)))) (v := (.bool (((!(stRight o.tm)) || (!(stRight o.node))) || (decide (0 < cmpSt o.node o.tm))))) rfl pk_or ⟨rfl, Gr.refl _ _⟩) ?_
 refine Lx_nil (fun w43 hw44 => ?_)
 have H45 := H6.ext hw44
 refine Then_n ?_
 refine W_cond (t := (((!(stRight o.tm)) || (!(stRight o.node))) || (decide (0 < cmpSt o.node o.tm)))) rfl (fun hc46 => ?_) (fun hc46 => ?_)
 ·have hc46 : (((stRight o.tm) = false ∨ (stRight o.node) = false) ∨ (0 < cmpSt o.node o.tm)) := (Or.imp (fun h => (Or.imp (fun h => (notT h)) (fun h => (notT h)) (orT h))) (fun h => (of_decide_eq_true h)) (orT hc46))
  refine W_seq (W_reg ?_)
  refine O_v rfl (R_assign (v := (.bool false)) rfl ?_)
  refine O_nil (Then_n (W_ret (Then_r ?_)))
  refine ret_1 (v := (.bool false)) Tryz.results61 rfl ?_
  exact ⟨(rgood_f1 (by assumption)), H45.gr⟩
 ·have hc46 : (((stRight o.tm) = true ∧ (stRight o.node) = true) ∧ ¬ (0 < cmpSt o.node o.tm)) := (And.imp (fun h => (And.imp (fun h => (notF h)) (fun h => (notF h)) (orF h))) (fun h => (of_decide_eq_false h)) (orF hc46))
  refine W_skip (Then_n (W_seq (W_reg ?_)))
  refine O_v rfl (R_buildL (vs := []) (v := aggOf [(idCells zeroId)]) rfl (fun _ => by kernel_rfl) ?_)
  refine O_v rfl (C_alloc H45 [(idCells zeroId)] Tryz.zeroValue44 ?_)
  intro b47 w48 hb49 hx50 H51
  refine O_u (C_storeA H51 0 rfl 0 (sub := [(idCells zeroId)]) [(idCells zeroId)] Tryz.sizeOf44 rfl rfl rfl rfl ⟨[(idCells zeroId)], [], rfl, rfl, rfl⟩ rfl ?_)
  intro w52 hg53 H54
  refine O_nil (Then_n (W_seq (W_seq (W_reg ?_))))
  refine O_v rfl (R_fieldAddr (off := 0) (oo := 0) Tryz.underlying72 rfl rfl Tryz.sizeOf3 rfl rfl ?_)
  refine O_v rfl (R_load1 (v := (.int .i64 o.kind)) Tryz.isAgg3 rfl ((boxR_at (H54.getOwn 1 rfl)).chunks 0 1 0 0 _ rfl rfl rfl) ?_)
  refine O_v rfl (R_cmp (a := o.kind) (b := 1) (r := (decide (o.kind = 1))) rfl rfl rfl ?_)
  refine O_nil (Then_n ?_)
  refine W_cond (t := (decide (o.kind = 1))) rfl (fun hc55 => ?_) (fun hc55 => ?_)
  ·have hc55 : (o.kind = 1) := (of_decide_eq_true hc55)
   refine W_seq ?_
   refine W_rg [(0, .q 0), (1, .q 0), (2, .q 0), (3, .q 0), (4, .q 0), (5, .q 0), (6, .q 0), (7, .q 0), (8, .q 0), (9, .q 0), (10, .q 0), (11, .q 0), (12, .q 0), (13, .q 0), (14, .q 0), (15, .q 0), (16, .q 0), (17, .q 0), (18, .q 0), (19, .q 0), (20, .q 0), (21, .q 0), (22, .q 0), (23, .q 0), (24, .q 0), (25, .q 0), (26, .q 0), (27, .q 0)] (by kernel_rfl) ?_
   refine Lx_q (i := 0) rfl rfl _ (fun v56 hv57 => R_fieldAddr (off := 5) (oo := 5) Tryz.underlying72 rfl rfl Tryz.sizeOf69 rfl rfl ⟨rfl, Gr.refl _ _⟩) ?_
   refine Lx_q (i := 1) rfl rfl _ (fun v58 hv59 => R_loadA (cs := [[(.int .i64 o.par.T)], [(.int .i64 o.par.R)]]) Tryz.isAgg69 Tryz.sizeOf69 rfl rfl ((boxR_at ((H54.ext hv59).getOwn 1 rfl)).chunks 5 2 5 5 _ rfl rfl rfl) ⟨rfl, Gr.refl _ _⟩) ?_
   refine Lx_q (i := 2) rfl rfl (.bool (stRight o.par)) (fun v60 hv61 => R_callL (vs := [(aggOf (stampCh o.par))]) ref03_Good_c62 rfl rfl (ref03_Right o.par v60 )) ?_
   refine Lx_q (i := 3) rfl rfl _ (fun v62 hv63 => R_move (v := (.bool (stRight o.par))) rfl ⟨rfl, Gr.refl _ _⟩) ?_
   refine Lx_qg (i := 4) true (stRight o.par) rfl rfl rfl rfl rfl (!(stRight o.par)) ga_f _ (fun hA v64 hv65 => R_fieldAddr (off := 5) (oo := 5) Tryz.underlying72 rfl rfl Tryz.sizeOf69 rfl rfl ⟨rfl, Gr.refl _ _⟩) ?_
   refine Lx_qg (i := 5) true (stRight o.par) rfl rfl rfl rfl rfl (!(stRight o.par)) ga_f _ (fun hA v66 hv67 => R_fieldAddr (off := 0) (oo := 5) Tryz.underlying69 rfl rfl Tryz.sizeOf2 (gv_t hA) rfl ⟨rfl, Gr.refl _ _⟩) ?_
   refine Lx_qg (i := 6) true (stRight o.par) rfl rfl rfl rfl rfl (!(stRight o.par)) ga_f _ (fun hA v68 hv69 => R_load1 (v := (.int .i64 o.par.T)) Tryz.isAgg2 (gv_t hA) ((boxR_at ((H54.ext hv69).getOwn 1 rfl)).chunks 5 1 5 5 _ rfl rfl rfl) ⟨rfl, Gr.refl _ _⟩) ?_
   refine Lx_qg (i := 7) true (stRight o.par) rfl rfl rfl rfl rfl (!(stRight o.par)) ga_f _ (fun hA v70 hv71 => R_cmp (a := o.par.T) (b := 0) (r := (decide (o.par.T = 0))) (gv_t hA) rfl rfl ⟨rfl, Gr.refl _ _⟩) ?_
   refine Lx_qg (i := 8) true (stRight o.par) rfl rfl rfl rfl rfl (!(stRight o.par)) ga_f _ (fun hA v72 hv73 => R_move (v := (.bool (decide (o.par.T = 0)))) (gv_t hA) ⟨rfl, Gr.refl _ _⟩) ?_
   refine Lx_qg (i := 9) (!(stRight o.par)) (decide (o.par.T = 0)) rfl rfl rfl rfl rfl ((!(stRight o.par)) && (decide (o.par.T = 0))) gb_t _ (fun hA v74 hv75 => R_fieldAddr (off := 5) (oo := 5) Tryz.underlying72 rfl rfl Tryz.sizeOf69 rfl rfl ⟨rfl, Gr.refl _ _⟩) ?_
   refine Lx_qg (i := 10) (!(stRight o.par)) (decide (o.par.T = 0)) rfl rfl rfl rfl rfl ((!(stRight o.par)) && (decide (o.par.T = 0))) gb_t _ (fun hA v76 hv77 => R_fieldAddr (off := 1) (oo := 6) Tryz.underlying69 rfl rfl Tryz.sizeOf3 (gv_t hA) rfl ⟨rfl, Gr.refl _ _⟩) ?_
   refine Lx_qg (i := 11) (!(stRight o.par)) (decide (o.par.T = 0)) rfl rfl rfl rfl rfl ((!(stRight o.par)) && (decide (o.par.T = 0))) gb_t _ (fun hA v78 hv79 => R_load1 (v := (.int .i64 o.par.R)) Tryz.isAgg3 (gv_t hA) ((boxR_at ((H54.ext hv79).getOwn 1 rfl)).chunks 6 1 6 6 _ rfl rfl rfl) ⟨rfl, Gr.refl _ _⟩) ?_
   refine Lx_qg (i := 12) (!(stRight o.par)) (decide (o.par.T = 0)) rfl rfl rfl rfl rfl ((!(stRight o.par)) && (decide (o.par.T = 0))) gb_t _ (fun hA v80 hv81 => R_cmp (a := o.par.R) (b := 0) (r := (decide (o.par.R = 0))) (gv_t hA) rfl rfl ⟨rfl, Gr.refl _ _⟩) ?_
   refine Lx_qg (i := 13) true (stRight o.par) rfl rfl rfl rfl rfl (!(stRight o.par)) ga_f _ (fun hA v82 hv83 => R_pick (t := (decide (o.par.T = 0))) (v := (.bool ((decide (o.par.T = 0)) && (decide (o.par.R = 0))))) (gv_t hA) (pk_andA hA) ⟨rfl, Gr.refl _ _⟩) ?_
   refine Lx_q (i := 14) rfl rfl _ (fun v84 hv85 => R_pick (t := (stRight o.par)) (v := (.bool ((stRight o.par) || ((decide (o.par.T = 0)) && (decide (o.par.R = 0)))))) rfl pk_or ⟨rfl, Gr.refl _ _⟩) ?_
   refine Lx_q (i := 15) rfl rfl _ (fun v86 hv87 => R_move (v := (.bool ((stRight o.par) || ((decide (o.par.T = 0)) && (decide (o.par.R = 0)))))) rfl ⟨rfl, Gr.refl _ _⟩) ?_
   refine Lx_qg (i := 16) true ((stRight o.par) || ((decide (o.par.T = 0)) && (decide (o.par.R = 0)))) rfl rfl rfl rfl rfl (!((stRight o.par) || ((decide (o.par.T = 0)) && (decide (o.par.R = 0))))) ga_f _ (fun hA v88 hv89 => R_fieldAddr (off := 5) (oo := 5) Tryz.underlying72 rfl rfl Tryz.sizeOf69 rfl rfl ⟨rfl, Gr.refl _ _⟩) ?_
   refine Lx_qg (i := 17) true ((stRight o.par) || ((decide (o.par.T = 0)) && (decide (o.par.R = 0)))) rfl rfl rfl rfl rfl (!((stRight o.par) || ((decide (o.par.T = 0)) && (decide (o.par.R = 0))))) ga_f _ (fun hA v90 hv91 => R_fieldAddr (off := 0) (oo := 5) Tryz.underlying69 rfl rfl Tryz.sizeOf2 (gv_t hA) rfl ⟨rfl, Gr.refl _ _⟩) ?_
   refine Lx_qg (i := 18) true ((stRight o.par) || ((decide (o.par.T = 0)) && (decide (o.par.R = 0)))) rfl rfl rfl rfl rfl (!((stRight o.par) || ((decide (o.par.T = 0)) && (decide (o.par.R = 0))))) ga_f _ (fun hA v92 hv93 => R_load1 (v := (.int .i64 o.par.T)) Tryz.isAgg2 (gv_t hA) ((boxR_at ((H54.ext hv93).getOwn 1 rfl)).chunks 5 1 5 5 _ rfl rfl rfl) ⟨rfl, Gr.refl _ _⟩) ?_
   refine Lx_qg (i := 19) true ((stRight o.par) || ((decide (o.par.T = 0)) && (decide (o.par.R = 0)))) rfl rfl rfl rfl rfl (!((stRight o.par) || ((decide (o.par.T = 0)) && (decide (o.par.R = 0))))) ga_f _ (fun hA v94 hv95 => R_cmp (a := o.par.T) (b := 0) (r := (decide (o.par.T = 0))) (gv_t hA) rfl rfl ⟨rfl, Gr.refl _ _⟩) ?_
   refine Lx_qg (i := 20) true ((stRight o.par) || ((decide (o.par.T = 0)) && (decide (o.par.R = 0)))) rfl rfl rfl rfl rfl (!((stRight o.par) || ((decide (o.par.T = 0)) && (decide (o.par.R = 0))))) ga_f _ (fun hA v96 hv97 => R_move (v := (.bool (decide (o.par.T = 0)))) (gv_t hA) ⟨rfl, Gr.refl _ _⟩) ?_
   refine Lx_qg (i := 21) (!((stRight o.par) || ((decide (o.par.T = 0)) && (decide (o.par.R = 0))))) (decide (o.par.T = 0)) rfl rfl rfl rfl rfl ((!((stRight o.par) || ((decide (o.par.T = 0)) && (decide (o.par.R = 0))))) && (decide (o.par.T = 0))) gb_t _ (fun hA v98 hv99 => R_fieldAddr (off := 5) (oo := 5) Tryz.underlying72 rfl rfl Tryz.sizeOf69 rfl rfl ⟨rfl, Gr.refl _ _⟩) ?_
   refine Lx_qg (i := 22) (!((stRight o.par) || ((decide (o.par.T = 0)) && (decide (o.par.R = 0))))) (decide (o.par.T = 0)) rfl rfl rfl rfl rfl ((!((stRight o.par) || ((decide (o.par.T = 0)) && (decide (o.par.R = 0))))) && (decide (o.par.T = 0))) gb_t _ (fun hA v100 hv101 => R_fieldAddr (off := 1) (oo := 6) Tryz.underlying69 rfl rfl Tryz.sizeOf3 (gv_t hA) rfl ⟨rfl, Gr.refl _ _⟩) ?_
   refine Lx_qg (i := 23) (!((stRight o.par) || ((decide (o.par.T = 0)) && (decide (o.par.R = 0))))) (decide (o.par.T = 0)) rfl rfl rfl rfl rfl ((!((stRight o.par) || ((decide (o.par.T = 0)) && (decide (o.par.R = 0))))) && (decide (o.par.T = 0))) gb_t _ (fun hA v102 hv103 => R_load1 (v := (.int .i64 o.par.R)) Tryz.isAgg3 (gv_t hA) ((boxR_at ((H54.ext hv103).getOwn 1 rfl)).chunks 6 1 6 6 _ rfl rfl rfl) ⟨rfl, Gr.refl _ _⟩) ?_
   refine Lx_qg (i := 24) (!((stRight o.par) || ((decide (o.par.T = 0)) && (decide (o.par.R = 0))))) (decide (o.par.T = 0)) rfl rfl rfl rfl rfl ((!((stRight o.par) || ((decide (o.par.T = 0)) && (decide (o.par.R = 0))))) && (decide (o.par.T = 0))) gb_t _ (fun hA v104 hv105 => R_cmp (a := o.par.R) (b := 1) (r := (decide (o.par.R = 1))) (gv_t hA) rfl rfl ⟨rfl, Gr.refl _ _⟩) ?_
   refine Lx_qg (i := 25) true ((stRight o.par) || ((decide (o.par.T = 0)) && (decide (o.par.R = 0)))) rfl rfl rfl rfl rfl (!((stRight o.par) || ((decide (o.par.T = 0)) && (decide (o.par.R = 0))))) ga_f _ (fun hA v106 hv107 => R_pick (t := (decide (o.par.T = 0))) (v := (.bool ((decide (o.par.T = 0)) && (decide (o.par.R = 1))))) (gv_t hA) (pk_andA hA) ⟨rfl, Gr.refl _ _⟩) ?_
   refine Lx_q (i := 26) rfl rfl _ (fun v108 hv109 => R_pick (t := ((stRight o.par) || ((decide (o.par.T = 0)) && (decide (o.par.R = 0))))) (v := (.bool (((stRight o.par) || ((decide (o.par.T = 0)) && (decide (o.par.R = 0)))) || ((decide (o.par.T = 0)) && (decide (o.par.R = 1)))))) rfl pk_or ⟨rfl, Gr.refl _ _⟩) ?_
   refine Lx_q (i := 27) rfl rfl _ (fun v110 hv111 => R_assign (v := (.bool (((stRight o.par) || ((decide (o.par.T = 0)) && (decide (o.par.R = 0)))) || ((decide (o.par.T = 0)) && (decide (o.par.R = 1)))))) rfl ⟨rfl, Gr.refl _ _⟩) ?_
   refine Lx_nil (fun w112 hw113 => ?_)
   have H114 := H54.ext hw113
   refine Then_n (W_seq ?_)
   refine W_rg [(0, .q 0), (1, .q 0), (2, .q 0), (3, .q 0), (4, .q 0), (5, .q 0), (6, .q 0), (7, .q 0), (8, .q 0), (9, .q 0), (10, .q 0), (11, .q 0), (12, .q 0), (13, .q 0), (14, .q 0), (15, .q 0), (16, .q 0), (17, .q 0), (18, .q 0)] (by kernel_rfl) ?_
   refine Lx_q (i := 0) rfl rfl _ (fun v115 hv116 => R_move (v := (.bool (((stRight o.par) || ((decide (o.par.T = 0)) && (decide (o.par.R = 0)))) || ((decide (o.par.T = 0)) && (decide (o.par.R = 1)))))) rfl ⟨rfl, Gr.refl _ _⟩) ?_
   refine Lx_q (i := 1) rfl rfl _ (fun v117 hv118 => R_move (v := (.bool (((stRight o.par) || ((decide (o.par.T = 0)) && (decide (o.par.R = 0)))) || ((decide (o.par.T = 0)) && (decide (o.par.R = 1)))))) rfl ⟨rfl, Gr.refl _ _⟩) ?_
   refine Lx_qg (i := 2) true (((stRight o.par) || ((decide (o.par.T = 0)) && (decide (o.par.R = 0)))) || ((decide (o.par.T = 0)) && (decide (o.par.R = 1)))) rfl rfl rfl rfl rfl (((stRight o.par) || ((decide (o.par.T = 0)) && (decide (o.par.R = 0)))) || ((decide (o.par.T = 0)) && (decide (o.par.R = 1)))) ga_t _ (fun hA v119 hv120 => R_fieldAddr (off := 7) (oo := 7) Tryz.underlying72 rfl rfl Tryz.sizeOf9 rfl rfl ⟨rfl, Gr.refl _ _⟩) ?_
   refine Lx_qg (i := 3) true (((stRight o.par) || ((decide (o.par.T = 0)) && (decide (o.par.R = 0)))) || ((decide (o.par.T = 0)) && (decide (o.par.R = 1)))) rfl rfl rfl rfl rfl (((stRight o.par) || ((decide (o.par.T = 0)) && (decide (o.par.R = 0)))) || ((decide (o.par.T = 0)) && (decide (o.par.R = 1)))) ga_t _ (fun hA v121 hv122 => R_load1 (v := (.string o.name)) Tryz.isAgg9 (gv_t hA) ((boxR_at ((H114.ext hv122).getOwn 1 rfl)).chunks 7 1 7 7 _ rfl rfl rfl) ⟨rfl, Gr.refl _ _⟩) ?_
   refine Lx_qg (i := 4) true (((stRight o.par) || ((decide (o.par.T = 0)) && (decide (o.par.R = 0)))) || ((decide (o.par.T = 0)) && (decide (o.par.R = 1)))) rfl rfl rfl rfl rfl (((stRight o.par) || ((decide (o.par.T = 0)) && (decide (o.par.R = 0)))) || ((decide (o.par.T = 0)) && (decide (o.par.R = 1)))) ga_t (.bool (nameOk o.name)) (fun hA v123 hv124 => R_callL (vs := [(.string o.name)]) ref03_Good_c71 rfl (lst1 (gv_t hA)) (ref03_Name o.name v123 hl)) ?_
   refine Lx_q (i := 5) rfl rfl _ (fun v125 hv126 => R_pick (t := (((stRight o.par) || ((decide (o.par.T = 0)) && (decide (o.par.R = 0)))) || ((decide (o.par.T = 0)) && (decide (o.par.R = 1))))) (v := (.bool ((((stRight o.par) || ((decide (o.par.T = 0)) && (decide (o.par.R = 0)))) || ((decide (o.par.T = 0)) && (decide (o.par.R = 1)))) && (nameOk o.name)))) rfl pk_and ⟨rfl, Gr.refl _ _⟩) ?_
   refine Lx_q (i := 6) rfl rfl _ (fun v127 hv128 => R_move (v := (.bool ((((stRight o.par) || ((decide (o.par.T = 0)) && (decide (o.par.R = 0)))) || ((decide (o.par.T = 0)) && (decide (o.par.R = 1)))) && (nameOk o.name)))) rfl ⟨rfl, Gr.refl _ _⟩) ?_
   refine Lx_qg (i := 7) true ((((stRight o.par) || ((decide (o.par.T = 0)) && (decide (o.par.R = 0)))) || ((decide (o.par.T = 0)) && (decide (o.par.R = 1)))) && (nameOk o.name)) rfl rfl rfl rfl rfl ((((stRight o.par) || ((decide (o.par.T = 0)) && (decide (o.par.R = 0)))) || ((decide (o.par.T = 0)) && (decide (o.par.R = 1)))) && (nameOk o.name)) ga_t _ (fun hA v129 hv130 => R_fieldAddr (off := 8) (oo := 8) Tryz.underlying72 rfl rfl Tryz.sizeOf45 rfl rfl ⟨rfl, Gr.refl _ _⟩) ?_
   refine Lx_qg (i := 8) true ((((stRight o.par) || ((decide (o.par.T = 0)) && (decide (o.par.R = 0)))) || ((decide (o.par.T = 0)) && (decide (o.par.R = 1)))) && (nameOk o.name)) rfl rfl rfl rfl rfl ((((stRight o.par) || ((decide (o.par.T = 0)) && (decide (o.par.R = 0)))) || ((decide (o.par.T = 0)) && (decide (o.par.R = 1)))) && (nameOk o.name)) ga_t _ (fun hA v131 hv132 => R_loadA (cs := [(idCells o.data)]) Tryz.isAgg45 Tryz.sizeOf45 rfl (gv_t hA) ((boxR_at ((H114.ext hv132).getOwn 1 rfl)).chunks 8 1 8 8 _ rfl rfl rfl) ⟨rfl, Gr.refl _ _⟩) ?_
   refine Lx_qg (i := 9) true ((((stRight o.par) || ((decide (o.par.T = 0)) && (decide (o.par.R = 0)))) || ((decide (o.par.T = 0)) && (decide (o.par.R = 1)))) && (nameOk o.name)) rfl rfl rfl rfl rfl ((((stRight o.par) || ((decide (o.par.T = 0)) && (decide (o.par.R = 0)))) || ((decide (o.par.T = 0)) && (decide (o.par.R = 1)))) && (nameOk o.name)) ga_t _ (fun hA v133 hv134 => R_loadA (cs := [(idCells zeroId)]) Tryz.isAgg44 Tryz.sizeOf44 rfl rfl ((boxR_at ((H114.ext hv134).getOwn 0 rfl)).chunks 0 1 0 0 _ rfl rfl rfl) ⟨rfl, Gr.refl _ _⟩) ?_
   refine Lx_qg (i := 10) true ((((stRight o.par) || ((decide (o.par.T = 0)) && (decide (o.par.R = 0)))) || ((decide (o.par.T = 0)) && (decide (o.par.R = 1)))) && (nameOk o.name)) rfl rfl rfl rfl rfl ((((stRight o.par) || ((decide (o.par.T = 0)) && (decide (o.par.R = 0)))) || ((decide (o.par.T = 0)) && (decide (o.par.R = 1)))) && (nameOk o.name)) ga_t _ (fun hA v135 hv136 => R_eqv (a := o.data) (b := zeroId) eqv_ID45 rfl Tryz.eqGuardType45 (gv_t hA) (gv_t hA) ⟨rfl, Gr.refl _ _⟩) ?_
   refine Lx_q (i := 11) rfl rfl _ (fun v137 hv138 => R_pick (t := ((((stRight o.par) || ((decide (o.par.T = 0)) && (decide (o.par.R = 0)))) || ((decide (o.par.T = 0)) && (decide (o.par.R = 1)))) && (nameOk o.name))) (v := (.bool (((((stRight o.par) || ((decide (o.par.T = 0)) && (decide (o.par.R = 0)))) || ((decide (o.par.T = 0)) && (decide (o.par.R = 1)))) && (nameOk o.name)) && (decide (o.data = zeroId))))) rfl pk_and ⟨rfl, Gr.refl _ _⟩) ?_
   refine Lx_q (i := 12) rfl rfl _ (fun v139 hv140 => R_move (v := (.bool (((((stRight o.par) || ((decide (o.par.T = 0)) && (decide (o.par.R = 0)))) || ((decide (o.par.T = 0)) && (decide (o.par.R = 1)))) && (nameOk o.name)) && (decide (o.data = zeroId))))) rfl ⟨rfl, Gr.refl _ _⟩) ?_
   refine Lx_qg (i := 13) true (((((stRight o.par) || ((decide (o.par.T = 0)) && (decide (o.par.R = 0)))) || ((decide (o.par.T = 0)) && (decide (o.par.R = 1)))) && (nameOk o.name)) && (decide (o.data = zeroId))) rfl rfl rfl rfl rfl (((((stRight o.par) || ((decide (o.par.T = 0)) && (decide (o.par.R = 0)))) || ((decide (o.par.T = 0)) && (decide (o.par.R = 1)))) && (nameOk o.name)) && (decide (o.data = zeroId))) ga_t _ (fun hA v141 hv142 => R_fieldAddr (off := 40) (oo := 40) Tryz.underlying72 rfl rfl Tryz.sizeOf70 rfl rfl ⟨rfl, Gr.refl _ _⟩) ?_
   refine Lx_qg (i := 14) true (((((stRight o.par) || ((decide (o.par.T = 0)) && (decide (o.par.R = 0)))) || ((decide (o.par.T = 0)) && (decide (o.par.R = 1)))) && (nameOk o.name)) && (decide (o.data = zeroId))) rfl rfl rfl rfl rfl (((((stRight o.par) || ((decide (o.par.T = 0)) && (decide (o.par.R = 0)))) || ((decide (o.par.T = 0)) && (decide (o.par.R = 1)))) && (nameOk o.name)) && (decide (o.data = zeroId))) ga_t _ (fun hA v143 hv144 => R_load1 (v := (slV o.oh o.over)) Tryz.isAgg70 (gv_t hA) ((boxR_at ((H114.ext hv144).getOwn 1 rfl)).chunks 9 1 40 40 _ rfl rfl rfl) ⟨rfl, Gr.refl _ _⟩) ?_
   refine Lx_qg (i := 15) true (((((stRight o.par) || ((decide (o.par.T = 0)) && (decide (o.par.R = 0)))) || ((decide (o.par.T = 0)) && (decide (o.par.R = 1)))) && (nameOk o.name)) && (decide (o.data = zeroId))) rfl rfl rfl rfl rfl (((((stRight o.par) || ((decide (o.par.T = 0)) && (decide (o.par.R = 0)))) || ((decide (o.par.T = 0)) && (decide (o.par.R = 1)))) && (nameOk o.name)) && (decide (o.data = zeroId))) ga_t _ (fun hA v145 hv146 => R_len_slice (a := o.oh.a) (n := o.over.length) (c := o.oh.c) Tryz.underlying70 (gv_t hA) ⟨rfl, Gr.refl _ _⟩) ?_
   refine Lx_qg (i := 16) true (((((stRight o.par) || ((decide (o.par.T = 0)) && (decide (o.par.R = 0)))) || ((decide (o.par.T = 0)) && (decide (o.par.R = 1)))) && (nameOk o.name)) && (decide (o.data = zeroId))) rfl rfl rfl rfl rfl (((((stRight o.par) || ((decide (o.par.T = 0)) && (decide (o.par.R = 0)))) || ((decide (o.par.T = 0)) && (decide (o.par.R = 1)))) && (nameOk o.name)) && (decide (o.data = zeroId))) ga_t _ (fun hA v147 hv148 => R_cmp (a := ((o.over.length : Nat) : Int)) (b := 0) (r := (decide (((o.over.length : Nat) : Int) = 0))) (gv_t hA) rfl rfl ⟨rfl, Gr.refl _ _⟩) ?_
   refine Lx_q (i := 17) rfl rfl _ (fun v149 hv150 => R_pick (t := (((((stRight o.par) || ((decide (o.par.T = 0)) && (decide (o.par.R = 0)))) || ((decide (o.par.T = 0)) && (decide (o.par.R = 1)))) && (nameOk o.name)) && (decide (o.data = zeroId)))) (v := (.bool ((((((stRight o.par) || ((decide (o.par.T = 0)) && (decide (o.par.R = 0)))) || ((decide (o.par.T = 0)) && (decide (o.par.R = 1)))) && (nameOk o.name)) && (decide (o.data = zeroId))) && (decide (((o.over.length : Nat) : Int) = 0))))) rfl pk_and ⟨rfl, Gr.refl _ _⟩) ?_
   refine Lx_q (i := 18) rfl rfl _ (fun v151 hv152 => R_assign (v := (.bool ((((((stRight o.par) || ((decide (o.par.T = 0)) && (decide (o.par.R = 0)))) || ((decide (o.par.T = 0)) && (decide (o.par.R = 1)))) && (nameOk o.name)) && (decide (o.data = zeroId))) && (decide (((o.over.length : Nat) : Int) = 0))))) rfl ⟨rfl, Gr.refl _ _⟩) ?_
   refine Lx_nil (fun w153 hw154 => ?_)
   have H155 := H114.ext hw154
   refine Then_n (W_ret (Then_r ?_))
   refine ret_1 (v := (.bool ((((((stRight o.par) || ((decide (o.par.T = 0)) && (decide (o.par.R = 0)))) || ((decide (o.par.T = 0)) && (decide (o.par.R = 1)))) && (nameOk o.name)) && (decide (o.data = zeroId))) && (decide (((o.over.length : Nat) : Int) = 0))))) Tryz.results61 rfl ?_
   exact ⟨(rgood_m (by assumption) (by assumption)), H155.gr⟩
  ·have hc55 : ¬ (o.kind = 1) := (of_decide_eq_false hc55)
   refine W_skip (Then_n (W_seq (W_seq ?_)))
   refine W_rg [(0, .q 0), (1, .q 0), (2, .q 0), (3, .q 0), (4, .q 0), (5, .q 0), (6, .q 0), (7, .q 0), (8, .q 0), (9, .q 0), (10, .q 0), (11, .q 0), (12, .q 0), (13, .q 0), (14, .q 0), (15, .q 0), (16, .q 0), (17, .q 0), (18, .q 0), (19, .q 0), (20, .q 0), (21, .q 0), (22, .q 0), (23, .q 0), (24, .q 0), (25, .q 0), (26, .q 0), (27, .q 0), (28, .q 0), (29, .q 0), (30, .q 0), (31, .q 0), (32, .q 0), (33, .q 0), (34, .q 0), (35, .q 0), (36, .q 0), (37, .q 0), (38, .q 0)] (by kernel_rfl) ?_
   refine Lx_q (i := 0) rfl rfl _ (fun v156 hv157 => R_fieldAddr (off := 0) (oo := 0) Tryz.underlying72 rfl rfl Tryz.sizeOf3 rfl rfl ⟨rfl, Gr.refl _ _⟩) ?_
   refine Lx_q (i := 1) rfl rfl _ (fun v158 hv159 => R_load1 (v := (.int .i64 o.kind)) Tryz.isAgg3 rfl ((boxR_at ((H54.ext hv159).getOwn 1 rfl)).chunks 0 1 0 0 _ rfl rfl rfl) ⟨rfl, Gr.refl _ _⟩) ?_
   refine Lx_q (i := 2) rfl rfl _ (fun v160 hv161 => R_cmp (a := o.kind) (b := 2) (r := (!(decide (o.kind = 2)))) rfl rfl rfl ⟨rfl, Gr.refl _ _⟩) ?_
   refine Lx_q (i := 3) rfl rfl _ (fun v162 hv163 => R_move (v := (.bool (!(decide (o.kind = 2))))) rfl ⟨rfl, Gr.refl _ _⟩) ?_
   refine Lx_qg (i := 4) true (!(decide (o.kind = 2))) rfl rfl rfl rfl rfl (!(!(decide (o.kind = 2)))) ga_f _ (fun hA v164 hv165 => R_fieldAddr (off := 3) (oo := 3) Tryz.underlying72 rfl rfl Tryz.sizeOf69 rfl rfl ⟨rfl, Gr.refl _ _⟩) ?_
   refine Lx_qg (i := 5) true (!(decide (o.kind = 2))) rfl rfl rfl rfl rfl (!(!(decide (o.kind = 2)))) ga_f _ (fun hA v166 hv167 => R_loadA (cs := [[(.int .i64 o.node.T)], [(.int .i64 o.node.R)]]) Tryz.isAgg69 Tryz.sizeOf69 rfl (gv_t hA) ((boxR_at ((H54.ext hv167).getOwn 1 rfl)).chunks 3 2 3 3 _ rfl rfl rfl) ⟨rfl, Gr.refl _ _⟩) ?_
   refine Lx_qg (i := 6) true (!(decide (o.kind = 2))) rfl rfl rfl rfl rfl (!(!(decide (o.kind = 2)))) ga_f _ (fun hA v168 hv169 => R_fieldAddr (off := 1) (oo := 1) Tryz.underlying72 rfl rfl Tryz.sizeOf69 rfl rfl ⟨rfl, Gr.refl _ _⟩) ?_
   refine Lx_qg (i := 7) true (!(decide (o.kind = 2))) rfl rfl rfl rfl rfl (!(!(decide (o.kind = 2)))) ga_f _ (fun hA v170 hv171 => R_loadA (cs := [[(.int .i64 o.tm.T)], [(.int .i64 o.tm.R)]]) Tryz.isAgg69 Tryz.sizeOf69 rfl (gv_t hA) ((boxR_at ((H54.ext hv171).getOwn 1 rfl)).chunks 1 2 1 1 _ rfl rfl rfl) ⟨rfl, Gr.refl _ _⟩) ?_
   refine Lx_qg (i := 8) true (!(decide (o.kind = 2))) rfl rfl rfl rfl rfl (!(!(decide (o.kind = 2)))) ga_f _ (fun hA v172 hv173 => R_eqv (a := o.node) (b := o.tm) eqv_Stamp69 rfl Tryz.eqGuardType69 (gv_t hA) (gv_t hA) ⟨rfl, Gr.refl _ _⟩) ?_
   refine Lx_q (i := 9) rfl rfl _ (fun v174 hv175 => R_pick (t := (!(decide (o.kind = 2)))) (v := (.bool ((!(decide (o.kind = 2))) || (decide (o.node = o.tm))))) rfl pk_or ⟨rfl, Gr.refl _ _⟩) ?_
   refine Lx_q (i := 10) rfl rfl _ (fun v176 hv177 => R_move (v := (.bool ((!(decide (o.kind = 2))) || (decide (o.node = o.tm))))) rfl ⟨rfl, Gr.refl _ _⟩) ?_
   refine Lx_qg (i := 11) true ((!(decide (o.kind = 2))) || (decide (o.node = o.tm))) rfl rfl rfl rfl rfl (!((!(decide (o.kind = 2))) || (decide (o.node = o.tm)))) ga_f _ (fun hA v178 hv179 => R_fieldAddr (off := 5) (oo := 5) Tryz.underlying72 rfl rfl Tryz.sizeOf69 rfl rfl ⟨rfl, Gr.refl _ _⟩) ?_
   refine Lx_qg (i := 12) true ((!(decide (o.kind = 2))) || (decide (o.node = o.tm))) rfl rfl rfl rfl rfl (!((!(decide (o.kind = 2))) || (decide (o.node = o.tm)))) ga_f _ (fun hA v180 hv181 => R_fieldAddr (off := 0) (oo := 5) Tryz.underlying69 rfl rfl Tryz.sizeOf2 (gv_t hA) rfl ⟨rfl, Gr.refl _ _⟩) ?_
   refine Lx_qg (i := 13) true ((!(decide (o.kind = 2))) || (decide (o.node = o.tm))) rfl rfl rfl rfl rfl (!((!(decide (o.kind = 2))) || (decide (o.node = o.tm)))) ga_f _ (fun hA v182 hv183 => R_load1 (v := (.int .i64 o.par.T)) Tryz.isAgg2 (gv_t hA) ((boxR_at ((H54.ext hv183).getOwn 1 rfl)).chunks 5 1 5 5 _ rfl rfl rfl) ⟨rfl, Gr.refl _ _⟩) ?_
   refine Lx_qg (i := 14) true ((!(decide (o.kind = 2))) || (decide (o.node = o.tm))) rfl rfl rfl rfl rfl (!((!(decide (o.kind = 2))) || (decide (o.node = o.tm)))) ga_f _ (fun hA v184 hv185 => R_cmp (a := o.par.T) (b := 0) (r := (!(decide (o.par.T = 0)))) (gv_t hA) rfl rfl ⟨rfl, Gr.refl _ _⟩) ?_
   refine Lx_q (i := 15) rfl rfl _ (fun v186 hv187 => R_pick (t := ((!(decide (o.kind = 2))) || (decide (o.node = o.tm)))) (v := (.bool (((!(decide (o.kind = 2))) || (decide (o.node = o.tm))) || (!(decide (o.par.T = 0)))))) rfl pk_or ⟨rfl, Gr.refl _ _⟩) ?_
   refine Lx_q (i := 16) rfl rfl _ (fun v188 hv189 => R_move (v := (.bool (((!(decide (o.kind = 2))) || (decide (o.node = o.tm))) || (!(decide (o.par.T = 0)))))) rfl ⟨rfl, Gr.refl _ _⟩) ?_
   refine Lx_qg (i := 17) true (((!(decide (o.kind = 2))) || (decide (o.node = o.tm))) || (!(decide (o.par.T = 0)))) rfl rfl rfl rfl rfl (!(((!(decide (o.kind = 2))) || (decide (o.node = o.tm))) || (!(decide (o.par.T = 0))))) ga_f _ (fun hA v190 hv191 => R_fieldAddr (off := 5) (oo := 5) Tryz.underlying72 rfl rfl Tryz.sizeOf69 rfl rfl ⟨rfl, Gr.refl _ _⟩) ?_
   refine Lx_qg (i := 18) true (((!(decide (o.kind = 2))) || (decide (o.node = o.tm))) || (!(decide (o.par.T = 0)))) rfl rfl rfl rfl rfl (!(((!(decide (o.kind = 2))) || (decide (o.node = o.tm))) || (!(decide (o.par.T = 0))))) ga_f _ (fun hA v192 hv193 => R_fieldAddr (off := 1) (oo := 6) Tryz.underlying69 rfl rfl Tryz.sizeOf3 (gv_t hA) rfl ⟨rfl, Gr.refl _ _⟩) ?_
   refine Lx_qg (i := 19) true (((!(decide (o.kind = 2))) || (decide (o.node = o.tm))) || (!(decide (o.par.T = 0)))) rfl rfl rfl rfl rfl (!(((!(decide (o.kind = 2))) || (decide (o.node = o.tm))) || (!(decide (o.par.T = 0))))) ga_f _ (fun hA v194 hv195 => R_load1 (v := (.int .i64 o.par.R)) Tryz.isAgg3 (gv_t hA) ((boxR_at ((H54.ext hv195).getOwn 1 rfl)).chunks 6 1 6 6 _ rfl rfl rfl) ⟨rfl, Gr.refl _ _⟩) ?_
   refine Lx_qg (i := 20) true (((!(decide (o.kind = 2))) || (decide (o.node = o.tm))) || (!(decide (o.par.T = 0)))) rfl rfl rfl rfl rfl (!(((!(decide (o.kind = 2))) || (decide (o.node = o.tm))) || (!(decide (o.par.T = 0))))) ga_f _ (fun hA v196 hv197 => R_cmp (a := o.par.R) (b := 0) (r := (!(decide (o.par.R = 0)))) (gv_t hA) rfl rfl ⟨rfl, Gr.refl _ _⟩) ?_
   refine Lx_q (i := 21) rfl rfl _ (fun v198 hv199 => R_pick (t := (((!(decide (o.kind = 2))) || (decide (o.node = o.tm))) || (!(decide (o.par.T = 0))))) (v := (.bool ((((!(decide (o.kind = 2))) || (decide (o.node = o.tm))) || (!(decide (o.par.T = 0)))) || (!(decide (o.par.R = 0)))))) rfl pk_or ⟨rfl, Gr.refl _ _⟩) ?_
   refine Lx_q (i := 22) rfl rfl _ (fun v200 hv201 => R_move (v := (.bool ((((!(decide (o.kind = 2))) || (decide (o.node = o.tm))) || (!(decide (o.par.T = 0)))) || (!(decide (o.par.R = 0)))))) rfl ⟨rfl, Gr.refl _ _⟩) ?_
   refine Lx_qg (i := 23) true ((((!(decide (o.kind = 2))) || (decide (o.node = o.tm))) || (!(decide (o.par.T = 0)))) || (!(decide (o.par.R = 0)))) rfl rfl rfl rfl rfl (!((((!(decide (o.kind = 2))) || (decide (o.node = o.tm))) || (!(decide (o.par.T = 0)))) || (!(decide (o.par.R = 0))))) ga_f _ (fun hA v202 hv203 => R_fieldAddr (off := 7) (oo := 7) Tryz.underlying72 rfl rfl Tryz.sizeOf9 rfl rfl ⟨rfl, Gr.refl _ _⟩) ?_
   refine Lx_qg (i := 24) true ((((!(decide (o.kind = 2))) || (decide (o.node = o.tm))) || (!(decide (o.par.T = 0)))) || (!(decide (o.par.R = 0)))) rfl rfl rfl rfl rfl (!((((!(decide (o.kind = 2))) || (decide (o.node = o.tm))) || (!(decide (o.par.T = 0)))) || (!(decide (o.par.R = 0))))) ga_f _ (fun hA v204 hv205 => R_load1 (v := (.string o.name)) Tryz.isAgg9 (gv_t hA) ((boxR_at ((H54.ext hv205).getOwn 1 rfl)).chunks 7 1 7 7 _ rfl rfl rfl) ⟨rfl, Gr.refl _ _⟩) ?_
   refine Lx_qg (i := 25) true ((((!(decide (o.kind = 2))) || (decide (o.node = o.tm))) || (!(decide (o.par.T = 0)))) || (!(decide (o.par.R = 0)))) rfl rfl rfl rfl rfl (!((((!(decide (o.kind = 2))) || (decide (o.node = o.tm))) || (!(decide (o.par.T = 0)))) || (!(decide (o.par.R = 0))))) ga_f _ (fun hA v206 hv207 => R_cmpS (a := o.name) (b := ByteArray.empty) (r := (!(decide (o.name = ByteArray.empty)))) (gv_t hA) rfl rfl ⟨rfl, Gr.refl _ _⟩) ?_
   refine Lx_q (i := 26) rfl rfl _ (fun v208 hv209 => R_pick (t := ((((!(decide (o.kind = 2))) || (decide (o.node = o.tm))) || (!(decide (o.par.T = 0)))) || (!(decide (o.par.R = 0))))) (v := (.bool (((((!(decide (o.kind = 2))) || (decide (o.node = o.tm))) || (!(decide (o.par.T = 0)))) || (!(decide (o.par.R = 0)))) || (!(decide (o.name = ByteArray.empty)))))) rfl pk_or ⟨rfl, Gr.refl _ _⟩) ?_
   refine Lx_q (i := 27) rfl rfl _ (fun v210 hv211 => R_move (v := (.bool (((((!(decide (o.kind = 2))) || (decide (o.node = o.tm))) || (!(decide (o.par.T = 0)))) || (!(decide (o.par.R = 0)))) || (!(decide (o.name = ByteArray.empty)))))) rfl ⟨rfl, Gr.refl _ _⟩) ?_
   refine Lx_qg (i := 28) true (((((!(decide (o.kind = 2))) || (decide (o.node = o.tm))) || (!(decide (o.par.T = 0)))) || (!(decide (o.par.R = 0)))) || (!(decide (o.name = ByteArray.empty)))) rfl rfl rfl rfl rfl (!(((((!(decide (o.kind = 2))) || (decide (o.node = o.tm))) || (!(decide (o.par.T = 0)))) || (!(decide (o.par.R = 0)))) || (!(decide (o.name = ByteArray.empty))))) ga_f _ (fun hA v212 hv213 => R_fieldAddr (off := 8) (oo := 8) Tryz.underlying72 rfl rfl Tryz.sizeOf45 rfl rfl ⟨rfl, Gr.refl _ _⟩) ?_
   refine Lx_qg (i := 29) true (((((!(decide (o.kind = 2))) || (decide (o.node = o.tm))) || (!(decide (o.par.T = 0)))) || (!(decide (o.par.R = 0)))) || (!(decide (o.name = ByteArray.empty)))) rfl rfl rfl rfl rfl (!(((((!(decide (o.kind = 2))) || (decide (o.node = o.tm))) || (!(decide (o.par.T = 0)))) || (!(decide (o.par.R = 0)))) || (!(decide (o.name = ByteArray.empty))))) ga_f _ (fun hA v214 hv215 => R_loadA (cs := [(idCells o.data)]) Tryz.isAgg45 Tryz.sizeOf45 rfl (gv_t hA) ((boxR_at ((H54.ext hv215).getOwn 1 rfl)).chunks 8 1 8 8 _ rfl rfl rfl) ⟨rfl, Gr.refl _ _⟩) ?_
   refine Lx_qg (i := 30) true (((((!(decide (o.kind = 2))) || (decide (o.node = o.tm))) || (!(decide (o.par.T = 0)))) || (!(decide (o.par.R = 0)))) || (!(decide (o.name = ByteArray.empty)))) rfl rfl rfl rfl rfl (!(((((!(decide (o.kind = 2))) || (decide (o.node = o.tm))) || (!(decide (o.par.T = 0)))) || (!(decide (o.par.R = 0)))) || (!(decide (o.name = ByteArray.empty))))) ga_f _ (fun hA v216 hv217 => R_loadA (cs := [(idCells zeroId)]) Tryz.isAgg44 Tryz.sizeOf44 rfl rfl ((boxR_at ((H54.ext hv217).getOwn 0 rfl)).chunks 0 1 0 0 _ rfl rfl rfl) ⟨rfl, Gr.refl _ _⟩) ?_
   refine Lx_qg (i := 31) true (((((!(decide (o.kind = 2))) || (decide (o.node = o.tm))) || (!(decide (o.par.T = 0)))) || (!(decide (o.par.R = 0)))) || (!(decide (o.name = ByteArray.empty)))) rfl rfl rfl rfl rfl (!(((((!(decide (o.kind = 2))) || (decide (o.node = o.tm))) || (!(decide (o.par.T = 0)))) || (!(decide (o.par.R = 0)))) || (!(decide (o.name = ByteArray.empty))))) ga_f _ (fun hA v218 hv219 => R_eqv (a := o.data) (b := zeroId) eqv_ID45 rfl Tryz.eqGuardType45 (gv_t hA) (gv_t hA) ⟨rfl, Gr.refl _ _⟩) ?_
   refine Lx_q (i := 32) rfl rfl _ (fun v220 hv221 => R_pick (t := (((((!(decide (o.kind = 2))) || (decide (o.node = o.tm))) || (!(decide (o.par.T = 0)))) || (!(decide (o.par.R = 0)))) || (!(decide (o.name = ByteArray.empty))))) (v := (.bool ((((((!(decide (o.kind = 2))) || (decide (o.node = o.tm))) || (!(decide (o.par.T = 0)))) || (!(decide (o.par.R = 0)))) || (!(decide (o.name = ByteArray.empty)))) || (decide (o.data = zeroId))))) rfl pk_or ⟨rfl, Gr.refl _ _⟩) ?_
   refine Lx_q (i := 33) rfl rfl _ (fun v222 hv223 => R_move (v := (.bool ((((((!(decide (o.kind = 2))) || (decide (o.node = o.tm))) || (!(decide (o.par.T = 0)))) || (!(decide (o.par.R = 0)))) || (!(decide (o.name = ByteArray.empty)))) || (decide (o.data = zeroId))))) rfl ⟨rfl, Gr.refl _ _⟩) ?_
   refine Lx_qg (i := 34) true ((((((!(decide (o.kind = 2))) || (decide (o.node = o.tm))) || (!(decide (o.par.T = 0)))) || (!(decide (o.par.R = 0)))) || (!(decide (o.name = ByteArray.empty)))) || (decide (o.data = zeroId))) rfl rfl rfl rfl rfl (!((((((!(decide (o.kind = 2))) || (decide (o.node = o.tm))) || (!(decide (o.par.T = 0)))) || (!(decide (o.par.R = 0)))) || (!(decide (o.name = ByteArray.empty)))) || (decide (o.data = zeroId)))) ga_f _ (fun hA v224 hv225 => R_fieldAddr (off := 40) (oo := 40) Tryz.underlying72 rfl rfl Tryz.sizeOf70 rfl rfl ⟨rfl, Gr.refl _ _⟩) ?_
   refine Lx_qg (i := 35) true ((((((!(decide (o.kind = 2))) || (decide (o.node = o.tm))) || (!(decide (o.par.T = 0)))) || (!(decide (o.par.R = 0)))) || (!(decide (o.name = ByteArray.empty)))) || (decide (o.data = zeroId))) rfl rfl rfl rfl rfl (!((((((!(decide (o.kind = 2))) || (decide (o.node = o.tm))) || (!(decide (o.par.T = 0)))) || (!(decide (o.par.R = 0)))) || (!(decide (o.name = ByteArray.empty)))) || (decide (o.data = zeroId)))) ga_f _ (fun hA v226 hv227 => R_load1 (v := (slV o.oh o.over)) Tryz.isAgg70 (gv_t hA) ((boxR_at ((H54.ext hv227).getOwn 1 rfl)).chunks 9 1 40 40 _ rfl rfl rfl) ⟨rfl, Gr.refl _ _⟩) ?_
   refine Lx_qg (i := 36) true ((((((!(decide (o.kind = 2))) || (decide (o.node = o.tm))) || (!(decide (o.par.T = 0)))) || (!(decide (o.par.R = 0)))) || (!(decide (o.name = ByteArray.empty)))) || (decide (o.data = zeroId))) rfl rfl rfl rfl rfl (!((((((!(decide (o.kind = 2))) || (decide (o.node = o.tm))) || (!(decide (o.par.T = 0)))) || (!(decide (o.par.R = 0)))) || (!(decide (o.name = ByteArray.empty)))) || (decide (o.data = zeroId)))) ga_f _ (fun hA v228 hv229 => R_len_slice (a := o.oh.a) (n := o.over.length) (c := o.oh.c) Tryz.underlying70 (gv_t hA) ⟨rfl, Gr.refl _ _⟩) ?_
   refine Lx_qg (i := 37) true ((((((!(decide (o.kind = 2))) || (decide (o.node = o.tm))) || (!(decide (o.par.T = 0)))) || (!(decide (o.par.R = 0)))) || (!(decide (o.name = ByteArray.empty)))) || (decide (o.data = zeroId))) rfl rfl rfl rfl rfl (!((((((!(decide (o.kind = 2))) || (decide (o.node = o.tm))) || (!(decide (o.par.T = 0)))) || (!(decide (o.par.R = 0)))) || (!(decide (o.name = ByteArray.empty)))) || (decide (o.data = zeroId)))) ga_f _ (fun hA v230 hv231 => R_cmp (a := ((o.over.length : Nat) : Int)) (b := 64) (r := (decide (64 < ((o.over.length : Nat) : Int)))) (gv_t hA) rfl rfl ⟨rfl, Gr.refl _ _⟩) ?_
   refine Lx_q (i := 38) rfl rfl _ (fun v232 hv233 => R_pick (t := ((((((!(decide (o.kind = 2))) || (decide (o.node = o.tm))) || (!(decide (o.par.T = 0)))) || (!(decide (o.par.R = 0)))) || (!(decide (o.name = ByteArray.empty)))) || (decide (o.data = zeroId)))) (v := (.bool (((((((!(decide (o.kind = 2))) || (decide (o.node = o.tm))) || (!(decide (o.par.T = 0)))) || (!(decide (o.par.R = 0)))) || (!(decide (o.name = ByteArray.empty)))) || (decide (o.data = zeroId))) || (decide (64 < ((o.over.length : Nat) : Int)))))) rfl pk_or ⟨rfl, Gr.refl _ _⟩) ?_
   refine Lx_nil (fun w234 hw235 => ?_)
   have H236 := H54.ext hw235
   refine Then_n ?_
   refine W_cond (t := (((((((!(decide (o.kind = 2))) || (decide (o.node = o.tm))) || (!(decide (o.par.T = 0)))) || (!(decide (o.par.R = 0)))) || (!(decide (o.name = ByteArray.empty)))) || (decide (o.data = zeroId))) || (decide (64 < ((o.over.length : Nat) : Int))))) rfl (fun hc237 => ?_) (fun hc237 => ?_)
   ·have hc237 : ((((((¬ (o.kind = 2) ∨ (o.node = o.tm)) ∨ ¬ (o.par.T = 0)) ∨ ¬ (o.par.R = 0)) ∨ ¬ (o.name = ByteArray.empty)) ∨ (o.data = zeroId)) ∨ (64 < ((o.over.length : Nat) : Int))) := (Or.imp (fun h => (Or.imp (fun h => (Or.imp (fun h => (Or.imp (fun h => (Or.imp (fun h => (Or.imp (fun h => (of_decide_eq_false (notT h))) (fun h => (of_decide_eq_true h)) (orT h))) (fun h => (of_decide_eq_false (notT h))) (orT h))) (fun h => (of_decide_eq_false (notT h))) (orT h))) (fun h => (of_decide_eq_false (notT h))) (orT h))) (fun h => (of_decide_eq_true h)) (orT h))) (fun h => (of_decide_eq_true h)) (orT hc237))
    refine W_seq (W_reg ?_)
    refine O_v rfl (R_assign (v := (.bool false)) rfl ?_)
    refine O_nil (Then_n (W_ret (Then_r ?_)))
    refine ret_1 (v := (.bool false)) Tryz.results61 rfl ?_
    exact ⟨(rgood_f2 (by assumption) (by assumption)), H236.gr⟩
   ·have hc237 : (((((((o.kind = 2) ∧ ¬ (o.node = o.tm)) ∧ (o.par.T = 0)) ∧ (o.par.R = 0)) ∧ (o.name = ByteArray.empty)) ∧ ¬ (o.data = zeroId)) ∧ ¬ (64 < ((o.over.length : Nat) : Int))) := (And.imp (fun h => (And.imp (fun h => (And.imp (fun h => (And.imp (fun h => (And.imp (fun h => (And.imp (fun h => (of_decide_eq_true (notF h))) (fun h => (of_decide_eq_false h)) (orF h))) (fun h => (of_decide_eq_true (notF h))) (orF h))) (fun h => (of_decide_eq_true (notF h))) (orF h))) (fun h => (of_decide_eq_true (notF h))) (orF h))) (fun h => (of_decide_eq_false h)) (orF h))) (fun h => (of_decide_eq_false h)) (orF hc237))
    refine W_skip (Then_n (W_seq (W_seq (W_reg ?_))))
    refine O_v rfl (R_assign (v := (.int .i64 0)) rfl ?_)
    refine O_nil (Then_n (W_block ?_))
    refine W_loop (fun m238 e239 w240 => ∃ (k : Nat), m238 = o.over.length - k ∧ (k ≤ o.over.length) ∧ (∀ i, i < k → opOverAt o.tm o.over i) ∧ ∃ eb241, e239 = envL [(1, (.pointer (some ⟨b2, 0, none⟩))), (5, (.int .i64 ((k : Nat) : Int)))] eb241 ∧ Ctx w nob w240 [boxR b47 44 [(idCells zeroId)], boxR b2 72 [[(.int .i64 o.kind)], [(.int .i64 o.tm.T)], [(.int .i64 o.tm.R)], [(.int .i64 o.node.T)], [(.int .i64 o.node.R)], [(.int .i64 o.par.T)], [(.int .i64 o.par.R)], [(.string o.name)], (idCells o.data), [(slV o.oh o.over)]]] [slI (Old w) stampCh 2 o.oh o.over]) _ ⟨0, rfl, (by omega), (all_zero _), _, envL_self ⟨rfl, rfl, trivial⟩, H236⟩ ?_
    rintro m238 _ w240 ⟨k, rfl, hk, hn, eb241, rfl, H242⟩
    refine W_seq (W_seq (W_reg ?_))
    refine O_v rfl (R_move (v := (.int .i64 ((k : Nat) : Int))) rfl ?_)
    refine O_v rfl (R_fieldAddr (off := 40) (oo := 40) Tryz.underlying72 rfl rfl Tryz.sizeOf70 rfl rfl ?_)
    refine O_v rfl (R_load1 (v := (slV o.oh o.over)) Tryz.isAgg70 rfl ((boxR_at (H242.getOwn 1 rfl)).chunks 9 1 40 40 _ rfl rfl rfl) ?_)
    refine O_v rfl (R_len_slice (a := o.oh.a) (n := o.over.length) (c := o.oh.c) Tryz.underlying70 rfl ?_)
    refine O_v rfl (R_cmp (a := ((k : Nat) : Int)) (b := ((o.over.length : Nat) : Int)) (r := (decide (((k : Nat) : Int) < ((o.over.length : Nat) : Int)))) rfl rfl rfl ?_)
    refine O_nil (Then_n ?_)
    refine W_cond (t := (decide (((k : Nat) : Int) < ((o.over.length : Nat) : Int)))) rfl (fun hc243 => ?_) (fun hc243 => ?_)
    ·have hc243 : (((k : Nat) : Int) < ((o.over.length : Nat) : Int)) := (of_decide_eq_true hc243)
     refine W_skip (Then_n (W_seq (W_block (W_seq ?_))))
     refine W_rgd TryzMixed [(0, .q 0), (1, .q 0), (2, .q 0), (3, .q 0), (4, .q 0), (5, .q 0), (6, .q 0), (7, .q 0), (8, .q 0), (9, .q 0), (10, .q 0), (11, .q 0), (12, .q 0), (13, .q 0), (14, .q 0), (15, .q 0), (16, .q 0), (17, .q 0), (18, .q 0), (19, .q 0), (20, .q 0), (21, .q 0), (22, .q 0), (23, .q 0), (24, .q 0), (25, .q 0), (26, .q 0), (27, .q 0), (28, .q 0), (29, .q 0), (30, .q 0), (31, .q 0), (32, .q 0), (33, .q 0), (34, .q 0), (35, .q 0), (36, .q 0)] (by kernel_rfl) ?_
     refine Lx_q (i := 0) rfl rfl _ (fun v244 hv245 => R_fieldAddr (off := 40) (oo := 40) Tryz.underlying72 rfl rfl Tryz.sizeOf70 rfl rfl ⟨rfl, Gr.refl _ _⟩) ?_
     refine Lx_q (i := 1) rfl rfl _ (fun v246 hv247 => R_load1 (v := (slV o.oh o.over)) Tryz.isAgg70 rfl ((boxR_at ((H242.ext hv247).getOwn 1 rfl)).chunks 9 1 40 40 _ rfl rfl rfl) ⟨rfl, Gr.refl _ _⟩) ?_
     refine Lx_q (i := 2) rfl rfl _ (fun v248 hv249 => R_move (v := (.int .i64 ((k : Nat) : Int))) rfl ⟨rfl, Gr.refl _ _⟩) ?_
     refine Lx_q (i := 3) rfl rfl _ (fun v250 hv251 => R_index_pure (H242.sl 0 rfl) (n := o.over.length) rfl (j := ((k : Nat) : Int)) (oo := (o.oh.o + k * 2)) Tryz.underlying70 Tryz.sizeOf69 rfl rfl (by omega) (by omega) rfl ⟨rfl, Gr.refl _ _⟩) ?_
     refine Lx_q (i := 4) rfl rfl _ (fun v252 hv253 => R_loadA (cs := [[(.int .i64 ((nth o.over k).T))], [(.int .i64 ((nth o.over k).R))]]) Tryz.isAgg69 Tryz.sizeOf69 rfl rfl ((Sl.elem ((H242.ext hv253).sl 0 rfl) (i := k) (by omega) rfl).chunks 0 2 0 (o.oh.o + k * 2) _ rfl rfl rfl) ⟨rfl, Gr.refl _ _⟩) ?_
     refine Lx_q (i := 5) rfl rfl (.bool (stRight (nth o.over k))) (fun v254 hv255 => R_callL (vs := [(aggOf (stampCh (nth o.over k)))]) ref03_Good_c62 rfl rfl (ref03_Right (nth o.over k) v254 )) ?_
     refine Lx_q (i := 6) rfl rfl _ (fun v256 hv257 => R_not rfl ⟨rfl, Gr.refl _ _⟩) ?_
     refine Lx_q (i := 7) rfl rfl _ (fun v258 hv259 => R_move (v := (.bool (!(stRight (nth o.over k))))) rfl ⟨rfl, Gr.refl _ _⟩) ?_
     refine Lx_qg (i := 8) true (!(stRight (nth o.over k))) rfl rfl rfl rfl rfl (!(!(stRight (nth o.over k)))) ga_f _ (fun hA v260 hv261 => R_fieldAddr (off := 40) (oo := 40) Tryz.underlying72 rfl rfl Tryz.sizeOf70 rfl rfl ⟨rfl, Gr.refl _ _⟩) ?_
     refine Lx_qg (i := 9) true (!(stRight (nth o.over k))) rfl rfl rfl rfl rfl (!(!(stRight (nth o.over k)))) ga_f _ (fun hA v262 hv263 => R_load1 (v := (slV o.oh o.over)) Tryz.isAgg70 (gv_t hA) ((boxR_at ((H242.ext hv263).getOwn 1 rfl)).chunks 9 1 40 40 _ rfl rfl rfl) ⟨rfl, Gr.refl _ _⟩) ?_
     refine Lx_qg (i := 10) true (!(stRight (nth o.over k))) rfl rfl rfl rfl rfl (!(!(stRight (nth o.over k)))) ga_f _ (fun hA v264 hv265 => R_move (v := (.int .i64 ((k : Nat) : Int))) rfl ⟨rfl, Gr.refl _ _⟩) ?_
     refine Lx_qg (i := 11) true (!(stRight (nth o.over k))) rfl rfl rfl rfl rfl (!(!(stRight (nth o.over k)))) ga_f _ (fun hA v266 hv267 => by
              have hP : (stRight (nth o.over k)) = true := (notF (notT hA))
              exact R_index_pure (H242.sl 0 rfl) (n := o.over.length) rfl (j := ((k : Nat) : Int)) (oo := (o.oh.o + k * 2)) Tryz.underlying70 Tryz.sizeOf69 (gv_t hA) (gv_t hA) (by omega) (by omega) rfl ⟨rfl, Gr.refl _ _⟩) ?_
     refine Lx_qg (i := 12) true (!(stRight (nth o.over k))) rfl rfl rfl rfl rfl (!(!(stRight (nth o.over k)))) ga_f _ (fun hA v268 hv269 => by
              have hP : (stRight (nth o.over k)) = true := (notF (notT hA))
              exact R_loadA (cs := [[(.int .i64 ((nth o.over k).T))], [(.int .i64 ((nth o.over k).R))]]) Tryz.isAgg69 Tryz.sizeOf69 rfl (gv_t hA) ((Sl.elem ((H242.ext hv269).sl 0 rfl) (i := k) (by omega) rfl).chunks 0 2 0 (o.oh.o + k * 2) _ rfl rfl rfl) ⟨rfl, Gr.refl _ _⟩) ?_
     refine Lx_qg (i := 13) true (!(stRight (nth o.over k))) rfl rfl rfl rfl rfl (!(!(stRight (nth o.over k)))) ga_f _ (fun hA v270 hv271 => R_fieldAddr (off := 1) (oo := 1) Tryz.underlying72 rfl rfl Tryz.sizeOf69 rfl rfl ⟨rfl, Gr.refl _ _⟩) ?_
     refine Lx_qg (i := 14) true (!(stRight (nth o.over k))) rfl rfl rfl rfl rfl (!(!(stRight (nth o.over k)))) ga_f _ (fun hA v272 hv273 => R_loadA (cs := [[(.int .i64 o.tm.T)], [(.int .i64 o.tm.R)]]) Tryz.isAgg69 Tryz.sizeOf69 rfl (gv_t hA) ((boxR_at ((H242.ext hv273).getOwn 1 rfl)).chunks 1 2 1 1 _ rfl rfl rfl) ⟨rfl, Gr.refl _ _⟩) ?_
     refine Lx_qg (i := 15) true (!(stRight (nth o.over k))) rfl rfl rfl rfl rfl (!(!(stRight (nth o.over k)))) ga_f (.int .i64 (cmpSt (nth o.over k) o.tm)) (fun hA v274 hv275 => R_callL (vs := [(aggOf (stampCh (nth o.over k))), (aggOf (stampCh o.tm))]) ref03_Good_c44 rfl (lst2 (gv_t hA) (gv_t hA)) (ref03_Cmp (nth o.over k) o.tm v274 )) ?_
     refine Lx_qg (i := 16) true (!(stRight (nth o.over k))) rfl rfl rfl rfl rfl (!(!(stRight (nth o.over k)))) ga_f _ (fun hA v276 hv277 => R_cmp (a := cmpSt (nth o.over k) o.tm) (b := (-1)) (r := (!(decide (cmpSt (nth o.over k) o.tm = (-1))))) (gv_t hA) rfl rfl ⟨rfl, Gr.refl _ _⟩) ?_
     refine Lx_q (i := 17) rfl rfl _ (fun v278 hv279 => R_pick (t := (!(stRight (nth o.over k)))) (v := (.bool ((!(stRight (nth o.over k))) || (!(decide (cmpSt (nth o.over k) o.tm = (-1))))))) rfl pk_or ⟨rfl, Gr.refl _ _⟩) ?_
     refine Lx_q (i := 18) rfl rfl _ (fun v280 hv281 => R_move (v := (.bool ((!(stRight (nth o.over k))) || (!(decide (cmpSt (nth o.over k) o.tm = (-1))))))) rfl ⟨rfl, Gr.refl _ _⟩) ?_
     refine Lx_qg (i := 19) true ((!(stRight (nth o.over k))) || (!(decide (cmpSt (nth o.over k) o.tm = (-1))))) rfl rfl rfl rfl rfl (!((!(stRight (nth o.over k))) || (!(decide (cmpSt (nth o.over k) o.tm = (-1)))))) ga_f _ (fun hA v282 hv283 => R_move (v := (.int .i64 ((k : Nat) : Int))) rfl ⟨rfl, Gr.refl _ _⟩) ?_
     refine Lx_qg (i := 20) true ((!(stRight (nth o.over k))) || (!(decide (cmpSt (nth o.over k) o.tm = (-1))))) rfl rfl rfl rfl rfl (!((!(stRight (nth o.over k))) || (!(decide (cmpSt (nth o.over k) o.tm = (-1)))))) ga_f _ (fun hA v284 hv285 => R_cmp (a := ((k : Nat) : Int)) (b := 0) (r := (decide (0 < ((k : Nat) : Int)))) (gv_t hA) rfl rfl ⟨rfl, Gr.refl _ _⟩) ?_
     refine Lx_qg (i := 21) true ((!(stRight (nth o.over k))) || (!(decide (cmpSt (nth o.over k) o.tm = (-1))))) rfl rfl rfl rfl rfl (!((!(stRight (nth o.over k))) || (!(decide (cmpSt (nth o.over k) o.tm = (-1)))))) ga_f _ (fun hA v286 hv287 => R_move (v := (.bool (decide (0 < ((k : Nat) : Int))))) (gv_t hA) ⟨rfl, Gr.refl _ _⟩) ?_
     refine Lx_qg (i := 22) (!((!(stRight (nth o.over k))) || (!(decide (cmpSt (nth o.over k) o.tm = (-1)))))) (decide (0 < ((k : Nat) : Int))) rfl rfl rfl rfl rfl ((!((!(stRight (nth o.over k))) || (!(decide (cmpSt (nth o.over k) o.tm = (-1)))))) && (decide (0 < ((k : Nat) : Int)))) gb_t _ (fun hA v288 hv289 => R_fieldAddr (off := 40) (oo := 40) Tryz.underlying72 rfl rfl Tryz.sizeOf70 rfl rfl ⟨rfl, Gr.refl _ _⟩) ?_
     refine Lx_qg (i := 23) (!((!(stRight (nth o.over k))) || (!(decide (cmpSt (nth o.over k) o.tm = (-1)))))) (decide (0 < ((k : Nat) : Int))) rfl rfl rfl rfl rfl ((!((!(stRight (nth o.over k))) || (!(decide (cmpSt (nth o.over k) o.tm = (-1)))))) && (decide (0 < ((k : Nat) : Int)))) gb_t _ (fun hA v290 hv291 => R_load1 (v := (slV o.oh o.over)) Tryz.isAgg70 (gv_t hA) ((boxR_at ((H242.ext hv291).getOwn 1 rfl)).chunks 9 1 40 40 _ rfl rfl rfl) ⟨rfl, Gr.refl _ _⟩) ?_
     refine Lx_qg (i := 24) (!((!(stRight (nth o.over k))) || (!(decide (cmpSt (nth o.over k) o.tm = (-1)))))) (decide (0 < ((k : Nat) : Int))) rfl rfl rfl rfl rfl ((!((!(stRight (nth o.over k))) || (!(decide (cmpSt (nth o.over k) o.tm = (-1)))))) && (decide (0 < ((k : Nat) : Int)))) gb_t _ (fun hA v292 hv293 => R_move (v := (.int .i64 ((k : Nat) : Int))) rfl ⟨rfl, Gr.refl _ _⟩) ?_
     refine Lx_qg (i := 25) (!((!(stRight (nth o.over k))) || (!(decide (cmpSt (nth o.over k) o.tm = (-1)))))) (decide (0 < ((k : Nat) : Int))) rfl rfl rfl rfl rfl ((!((!(stRight (nth o.over k))) || (!(decide (cmpSt (nth o.over k) o.tm = (-1)))))) && (decide (0 < ((k : Nat) : Int)))) gb_t _ (fun hA v294 hv295 => by
              have hP : (((stRight (nth o.over k)) = true ∧ (cmpSt (nth o.over k) o.tm = (-1))) ∧ (0 < ((k : Nat) : Int))) := (And.imp (fun h => (And.imp (fun h => (notF h)) (fun h => (of_decide_eq_true (notF h))) (orF (notT h)))) (fun h => (of_decide_eq_true h)) (andT hA))
              exact R_arith (a := ((k : Nat) : Int)) (b := 1) (r0 := ((k : Nat) : Int) - 1) (r := ((k - 1 : Nat) : Int)) (gv_t hA) rfl rfl (wrapP _ (by omega) (by omega)) ⟨rfl, Gr.refl _ _⟩) ?_
     refine Lx_qg (i := 26) (!((!(stRight (nth o.over k))) || (!(decide (cmpSt (nth o.over k) o.tm = (-1)))))) (decide (0 < ((k : Nat) : Int))) rfl rfl rfl rfl rfl ((!((!(stRight (nth o.over k))) || (!(decide (cmpSt (nth o.over k) o.tm = (-1)))))) && (decide (0 < ((k : Nat) : Int)))) gb_t _ (fun hA v296 hv297 => by
              have hP : (((stRight (nth o.over k)) = true ∧ (cmpSt (nth o.over k) o.tm = (-1))) ∧ (0 < ((k : Nat) : Int))) := (And.imp (fun h => (And.imp (fun h => (notF h)) (fun h => (of_decide_eq_true (notF h))) (orF (notT h)))) (fun h => (of_decide_eq_true h)) (andT hA))
              exact R_index_pure (H242.sl 0 rfl) (n := o.over.length) rfl (j := ((k - 1 : Nat) : Int)) (oo := (o.oh.o + (k - 1) * 2)) Tryz.underlying70 Tryz.sizeOf69 (gv_t hA) (gv_t hA) (by omega) (by omega) rfl ⟨rfl, Gr.refl _ _⟩) ?_
     refine Lx_qg (i := 27) (!((!(stRight (nth o.over k))) || (!(decide (cmpSt (nth o.over k) o.tm = (-1)))))) (decide (0 < ((k : Nat) : Int))) rfl rfl rfl rfl rfl ((!((!(stRight (nth o.over k))) || (!(decide (cmpSt (nth o.over k) o.tm = (-1)))))) && (decide (0 < ((k : Nat) : Int)))) gb_t _ (fun hA v298 hv299 => by
              have hP : (((stRight (nth o.over k)) = true ∧ (cmpSt (nth o.over k) o.tm = (-1))) ∧ (0 < ((k : Nat) : Int))) := (And.imp (fun h => (And.imp (fun h => (notF h)) (fun h => (of_decide_eq_true (notF h))) (orF (notT h)))) (fun h => (of_decide_eq_true h)) (andT hA))
              exact R_loadA (cs := [[(.int .i64 ((nth o.over (k - 1)).T))], [(.int .i64 ((nth o.over (k - 1)).R))]]) Tryz.isAgg69 Tryz.sizeOf69 rfl (gv_t hA) ((Sl.elem ((H242.ext hv299).sl 0 rfl) (i := (k - 1)) (by omega) rfl).chunks 0 2 0 (o.oh.o + (k - 1) * 2) _ rfl rfl rfl) ⟨rfl, Gr.refl _ _⟩) ?_
     refine Lx_qg (i := 28) (!((!(stRight (nth o.over k))) || (!(decide (cmpSt (nth o.over k) o.tm = (-1)))))) (decide (0 < ((k : Nat) : Int))) rfl rfl rfl rfl rfl ((!((!(stRight (nth o.over k))) || (!(decide (cmpSt (nth o.over k) o.tm = (-1)))))) && (decide (0 < ((k : Nat) : Int)))) gb_t _ (fun hA v300 hv301 => R_fieldAddr (off := 40) (oo := 40) Tryz.underlying72 rfl rfl Tryz.sizeOf70 rfl rfl ⟨rfl, Gr.refl _ _⟩) ?_
     refine Lx_qg (i := 29) (!((!(stRight (nth o.over k))) || (!(decide (cmpSt (nth o.over k) o.tm = (-1)))))) (decide (0 < ((k : Nat) : Int))) rfl rfl rfl rfl rfl ((!((!(stRight (nth o.over k))) || (!(decide (cmpSt (nth o.over k) o.tm = (-1)))))) && (decide (0 < ((k : Nat) : Int)))) gb_t _ (fun hA v302 hv303 => R_load1 (v := (slV o.oh o.over)) Tryz.isAgg70 (gv_t hA) ((boxR_at ((H242.ext hv303).getOwn 1 rfl)).chunks 9 1 40 40 _ rfl rfl rfl) ⟨rfl, Gr.refl _ _⟩) ?_
     refine Lx_qg (i := 30) (!((!(stRight (nth o.over k))) || (!(decide (cmpSt (nth o.over k) o.tm = (-1)))))) (decide (0 < ((k : Nat) : Int))) rfl rfl rfl rfl rfl ((!((!(stRight (nth o.over k))) || (!(decide (cmpSt (nth o.over k) o.tm = (-1)))))) && (decide (0 < ((k : Nat) : Int)))) gb_t _ (fun hA v304 hv305 => R_move (v := (.int .i64 ((k : Nat) : Int))) rfl ⟨rfl, Gr.refl _ _⟩) ?_
     refine Lx_qg (i := 31) (!((!(stRight (nth o.over k))) || (!(decide (cmpSt (nth o.over k) o.tm = (-1)))))) (decide (0 < ((k : Nat) : Int))) rfl rfl rfl rfl rfl ((!((!(stRight (nth o.over k))) || (!(decide (cmpSt (nth o.over k) o.tm = (-1)))))) && (decide (0 < ((k : Nat) : Int)))) gb_t _ (fun hA v306 hv307 => by
              have hP : (((stRight (nth o.over k)) = true ∧ (cmpSt (nth o.over k) o.tm = (-1))) ∧ (0 < ((k : Nat) : Int))) := (And.imp (fun h => (And.imp (fun h => (notF h)) (fun h => (of_decide_eq_true (notF h))) (orF (notT h)))) (fun h => (of_decide_eq_true h)) (andT hA))
              exact R_index_pure (H242.sl 0 rfl) (n := o.over.length) rfl (j := ((k : Nat) : Int)) (oo := (o.oh.o + k * 2)) Tryz.underlying70 Tryz.sizeOf69 (gv_t hA) (gv_t hA) (by omega) (by omega) rfl ⟨rfl, Gr.refl _ _⟩) ?_
     refine Lx_qg (i := 32) (!((!(stRight (nth o.over k))) || (!(decide (cmpSt (nth o.over k) o.tm = (-1)))))) (decide (0 < ((k : Nat) : Int))) rfl rfl rfl rfl rfl ((!((!(stRight (nth o.over k))) || (!(decide (cmpSt (nth o.over k) o.tm = (-1)))))) && (decide (0 < ((k : Nat) : Int)))) gb_t _ (fun hA v308 hv309 => by
              have hP : (((stRight (nth o.over k)) = true ∧ (cmpSt (nth o.over k) o.tm = (-1))) ∧ (0 < ((k : Nat) : Int))) := (And.imp (fun h => (And.imp (fun h => (notF h)) (fun h => (of_decide_eq_true (notF h))) (orF (notT h)))) (fun h => (of_decide_eq_true h)) (andT hA))
              exact R_loadA (cs := [[(.int .i64 ((nth o.over k).T))], [(.int .i64 ((nth o.over k).R))]]) Tryz.isAgg69 Tryz.sizeOf69 rfl (gv_t hA) ((Sl.elem ((H242.ext hv309).sl 0 rfl) (i := k) (by omega) rfl).chunks 0 2 0 (o.oh.o + k * 2) _ rfl rfl rfl) ⟨rfl, Gr.refl _ _⟩) ?_
     refine Lx_qg (i := 33) (!((!(stRight (nth o.over k))) || (!(decide (cmpSt (nth o.over k) o.tm = (-1)))))) (decide (0 < ((k : Nat) : Int))) rfl rfl rfl rfl rfl ((!((!(stRight (nth o.over k))) || (!(decide (cmpSt (nth o.over k) o.tm = (-1)))))) && (decide (0 < ((k : Nat) : Int)))) gb_t (.int .i64 (cmpSt (nth o.over (k - 1)) (nth o.over k))) (fun hA v310 hv311 => R_callL (vs := [(aggOf (stampCh (nth o.over (k - 1)))), (aggOf (stampCh (nth o.over k)))]) ref03_Good_c44 rfl (lst2 (gv_t hA) (gv_t hA)) (ref03_Cmp (nth o.over (k - 1)) (nth o.over k) v310 )) ?_
     refine Lx_qg (i := 34) (!((!(stRight (nth o.over k))) || (!(decide (cmpSt (nth o.over k) o.tm = (-1)))))) (decide (0 < ((k : Nat) : Int))) rfl rfl rfl rfl rfl ((!((!(stRight (nth o.over k))) || (!(decide (cmpSt (nth o.over k) o.tm = (-1)))))) && (decide (0 < ((k : Nat) : Int)))) gb_t _ (fun hA v312 hv313 => R_cmp (a := cmpSt (nth o.over (k - 1)) (nth o.over k)) (b := (-1)) (r := (!(decide (cmpSt (nth o.over (k - 1)) (nth o.over k) = (-1))))) (gv_t hA) rfl rfl ⟨rfl, Gr.refl _ _⟩) ?_
     refine Lx_qg (i := 35) true ((!(stRight (nth o.over k))) || (!(decide (cmpSt (nth o.over k) o.tm = (-1))))) rfl rfl rfl rfl rfl (!((!(stRight (nth o.over k))) || (!(decide (cmpSt (nth o.over k) o.tm = (-1)))))) ga_f _ (fun hA v314 hv315 => R_pick (t := (decide (0 < ((k : Nat) : Int)))) (v := (.bool ((decide (0 < ((k : Nat) : Int))) && (!(decide (cmpSt (nth o.over (k - 1)) (nth o.over k) = (-1))))))) (gv_t hA) (pk_andA hA) ⟨rfl, Gr.refl _ _⟩) ?_
     refine Lx_q (i := 36) rfl rfl _ (fun v316 hv317 => R_pick (t := ((!(stRight (nth o.over k))) || (!(decide (cmpSt (nth o.over k) o.tm = (-1)))))) (v := (.bool (((!(stRight (nth o.over k))) || (!(decide (cmpSt (nth o.over k) o.tm = (-1))))) || ((decide (0 < ((k : Nat) : Int))) && (!(decide (cmpSt (nth o.over (k - 1)) (nth o.over k) = (-1)))))))) rfl pk_or ⟨rfl, Gr.refl _ _⟩) ?_
     refine Lx_nil (fun w318 hw319 => ?_)
     have H320 := H242.ext hw319
     refine Then_n ?_
     refine W_cond (t := (((!(stRight (nth o.over k))) || (!(decide (cmpSt (nth o.over k) o.tm = (-1))))) || ((decide (0 < ((k : Nat) : Int))) && (!(decide (cmpSt (nth o.over (k - 1)) (nth o.over k) = (-1))))))) rfl (fun hc321 => ?_) (fun hc321 => ?_)
     ·have hc321 : (((stRight (nth o.over k)) = false ∨ ¬ (cmpSt (nth o.over k) o.tm = (-1))) ∨ ((0 < ((k : Nat) : Int)) ∧ ¬ (cmpSt (nth o.over (k - 1)) (nth o.over k) = (-1)))) := (Or.imp (fun h => (Or.imp (fun h => (notT h)) (fun h => (of_decide_eq_false (notT h))) (orT h))) (fun h => (And.imp (fun h => (of_decide_eq_true h)) (fun h => (of_decide_eq_false (notT h))) (andT h))) (orT hc321))
      refine W_seq (W_reg ?_)
      refine O_v rfl (R_assign (v := (.bool false)) rfl ?_)
      refine O_nil (Then_n (W_ret (Blk_r (Then_r (Then_r (Blk_r (Then_r ?_)))))))
      refine ret_1 (v := (.bool false)) Tryz.results61 rfl ?_
      exact ⟨(rgood_f3 (k := k) (by assumption) (by omega) (by assumption)), H320.gr⟩
     ·have hc321 : (((stRight (nth o.over k)) = true ∧ (cmpSt (nth o.over k) o.tm = (-1))) ∧ (¬ (0 < ((k : Nat) : Int)) ∨ (cmpSt (nth o.over (k - 1)) (nth o.over k) = (-1)))) := (And.imp (fun h => (And.imp (fun h => (notF h)) (fun h => (of_decide_eq_true (notF h))) (orF h))) (fun h => (Or.imp (fun h => (of_decide_eq_false h)) (fun h => (of_decide_eq_true (notF h))) (andF h))) (orF hc321))
      refine W_skip (Blk_n (Then_n (W_reg ?_)))
      refine O_v rfl (R_move (v := (.int .i64 ((k : Nat) : Int))) rfl ?_)
      refine O_v rfl (R_arith (a := ((k : Nat) : Int)) (b := 1) (r0 := ((k : Nat) : Int) + 1) (r := ((k + 1 : Nat) : Int)) rfl rfl rfl (wrapN _ (by omega)) ?_)
      refine O_v rfl (R_assign (v := (.int .i64 ((k + 1 : Nat) : Int))) rfl ?_)
      refine O_nil (Then_n ?_)
      refine ⟨_, ?_, (k + 1), rfl, (by omega), (all_succ hn (rover_t (by assumption))), _, envL_self ⟨rfl, rfl, trivial⟩, H320⟩
      omega
    ·have hc243 : ¬ (((k : Nat) : Int) < ((o.over.length : Nat) : Int)) := (of_decide_eq_false hc243)
     refine W_exit (Then_x (Then_x (Blk_x (Then_n (W_seq (W_reg ?_))))))
     refine O_v rfl (R_assign (v := (.bool true)) rfl ?_)
     refine O_nil (Then_n (W_ret ?_))
     refine ret_1 (v := (.bool true)) Tryz.results61 rfl ?_
     exact ⟨(rgood_t (by assumption) (by assumption) (by rwa [show o.over.length = k from by omega])), H242.gr⟩

end Go.Proofs.YthjdhfoeckfmbaaGreat
namespace Go.Proofs.YthjdhfoeckfmbaaGreat
open Go
set_option maxRecDepth 100000
set_option linter.unusedVariables false
set_option linter.unusedSimpArgs false
set_option linter.unusedSectionVars false
variable [DD]
theorem ref03_Get_c61 : callable Tryz.prog 61 = true := by kernel_rfl
theorem ref03_Get_c72 : callable Tryz.prog 72 = true := by kernel_rfl
theorem ref03_Get_c76 : callable Tryz.prog 76 = true := by kernel_rfl
theorem ref03_Get_c78 : callable Tryz.prog 78 = true := by kernel_rfl
theorem ref03_Get_c110 : callable Tryz.prog 110 = true := by kernel_rfl
set_option maxHeartbeats 4000000 in
theorem ref03_Get (x : RdS) (Fx : Nat → Prop) (q : List UInt8 × Bool) (w : World) (Sx : Sl Fx encB 1 x.bh x.b w) (XFx : ∀ b, Fx b → b < w.heap.size) (Ex : x.st = q) :
    Calls Tryz.prog 77 #[(aggOf (rdCh x))] w (Ret fun v w' => ∃ (X : OpS) (Z : RdS), v = .tuple #[opV X, rdV Z] ∧ Ext w w' ∧ OwnS w.heap.size 69 2 stampCh X.oh X.over w' ∧ (X.core = (rdOp q).1) ∧ Z.st = (rdOp q).2 ∧ Sl Fx encB 1 Z.bh Z.b w') := by
 refine calls_W Tryz.func77 rfl Tryz.ntmps77 rfl ?_
 have H0 := Ctx.start w nob
 have H1 := H0.addSl _ Sx (fun b hb => ⟨XFx b hb, fun _ ho => (nomatch ho)⟩)
 have LSx := Sx.len
 refine W_seq (W_reg ?_)
 refine O_v rfl (C_box H1 [[(slV x.bh x.b)], [(.bool x.bad)]] rfl ?_)
 intro b4 w5 hb6 hx7 H8
 refine O_v rfl (C_alloc H8 [[(.int .i64 0)], [(.int .i64 0)], [(.int .i64 0)], [(.int .i64 0)], [(.int .i64 0)], [(.int .i64 0)], [(.int .i64 0)], [(.string ByteArray.empty)], (idCells zeroId), [(.slice none 0 0)]] Tryz.zeroValue72 ?_)
 intro b9 w10 hb11 hx12 H13
 refine O_v rfl (C_alloc H13 [[(.slice none 0 0)], [(.bool false)]] Tryz.zeroValue110 ?_)
 intro b14 w15 hb16 hx17 H18
 refine O_nil (Then_n (W_seq (W_reg ?_)))
 refine O_v rfl (R_loadA (cs := [[(slV x.bh x.b)], [(.bool x.bad)]]) Tryz.isAgg110 Tryz.sizeOf110 rfl rfl ((boxR_at (H18.getOwn 2 rfl)).chunks 0 2 0 0 _ rfl rfl rfl) ?_)
 refine O_v rfl (R_callL (vs := [(aggOf (rdCh x)), (.int .i64 2)]) ref03_Get_c72 rfl rfl ((ref02_GetNum x Fx q 2 w15 (H18.sl 0 rfl) (H18.imm _ (List.mem_of_getElem? (i := 0) rfl)).2 Ex).ret ?_))
 rintro _ w20 ⟨x19, rfl, hx21, hr22, hs23⟩
 have H24 := H18.ext hx21
 have H25 := H24.immOf 0 rfl (slI Fx encB 1 x19.bh x19.b) (fun _ h => h) (fun _ => hs23)
 refine O_v rfl (R_move (v := (.tuple #[(.int .i64 ((((rdNum q 2).1) : Nat) : Int)), (aggOf (rdCh x19))])) rfl ?_)
 refine O_v rfl (R_extract (v := (.int .i64 ((((rdNum q 2).1) : Nat) : Int))) rfl rfl ?_)
 refine O_v rfl (R_extract (v := (aggOf (rdCh x19))) rfl rfl ?_)
 refine O_v rfl (C_alloc H25 [[(.slice none 0 0)], [(.bool false)]] Tryz.zeroValue110 ?_)
 intro b26 w27 hb28 hx29 H30
 refine O_v rfl (R_assign (v := (.int .i64 ((((rdNum q 2).1) : Nat) : Int))) rfl ?_)
 refine O_u (C_storeA H30 0 rfl 0 (sub := [[(slV x19.bh x19.b)], [(.bool x19.bad)]]) [[(slV x19.bh x19.b)], [(.bool x19.bad)]] Tryz.sizeOf110 rfl rfl rfl rfl ⟨[[(.slice none 0 0)], [(.bool false)]], [], rfl, rfl, rfl⟩ rfl ?_)
 intro w31 hg32 H33
 refine O_nil (Then_n (W_seq (W_reg ?_)))
 refine O_v rfl (R_loadA (cs := [[(slV x19.bh x19.b)], [(.bool x19.bad)]]) Tryz.isAgg110 Tryz.sizeOf110 rfl rfl ((boxR_at (H33.getOwn 0 rfl)).chunks 0 2 0 0 _ rfl rfl rfl) ?_)
 refine O_v rfl (R_callL (vs := [(aggOf (rdCh x19))]) ref03_Get_c110 rfl rfl ((ref03_GetStamp x19 Fx ((rdNum q 2).2) w31 (H33.sl 0 rfl) (H33.imm _ (List.mem_of_getElem? (i := 0) rfl)).2 hr22).ret ?_))
 rintro _ w35 ⟨x34, rfl, hx36, hr37, hs38⟩
 have H39 := H33.ext hx36
 have H40 := H39.immOf 0 rfl (slI Fx encB 1 x34.bh x34.b) (fun _ h => h) (fun _ => hs38)
 refine O_v rfl (R_move (v := (.tuple #[(aggOf (stampCh ((rdAt ((rdNum q 2).2)).1))), (aggOf (rdCh x34))])) rfl ?_)
 refine O_v rfl (R_extract (v := (aggOf (stampCh ((rdAt ((rdNum q 2).2)).1)))) rfl rfl ?_)
 refine O_v rfl (R_extract (v := (aggOf (rdCh x34))) rfl rfl ?_)
 refine O_v rfl (C_alloc H40 [[(.int .i64 0)], [(.int .i64 0)]] Tryz.zeroValue69 ?_)
 intro b41 w42 hb43 hx44 H45
 refine O_v rfl (C_alloc H45 [[(.slice none 0 0)], [(.bool false)]] Tryz.zeroValue110 ?_)
 intro b46 w47 hb48 hx49 H50
 refine O_u (C_storeA H50 1 rfl 0 (sub := [[(.int .i64 (((rdAt ((rdNum q 2).2)).1).T))], [(.int .i64 (((rdAt ((rdNum q 2).2)).1).R))]]) [[(.int .i64 (((rdAt ((rdNum q 2).2)).1).T))], [(.int .i64 (((rdAt ((rdNum q 2).2)).1).R))]] Tryz.sizeOf69 rfl rfl rfl rfl ⟨[[(.int .i64 0)], [(.int .i64 0)]], [], rfl, rfl, rfl⟩ rfl ?_)
 intro w51 hg52 H53
 refine O_u (C_storeA H53 0 rfl 0 (sub := [[(slV x34.bh x34.b)], [(.bool x34.bad)]]) [[(slV x34.bh x34.b)], [(.bool x34.bad)]] Tryz.sizeOf110 rfl rfl rfl rfl ⟨[[(.slice none 0 0)], [(.bool false)]], [], rfl, rfl, rfl⟩ rfl ?_)
 intro w54 hg55 H56
 refine O_nil (Then_n (W_seq (W_reg ?_)))
 refine O_v rfl (R_loadA (cs := [[(slV x34.bh x34.b)], [(.bool x34.bad)]]) Tryz.isAgg110 Tryz.sizeOf110 rfl rfl ((boxR_at (H56.getOwn 0 rfl)).chunks 0 2 0 0 _ rfl rfl rfl) ?_)
 refine O_v rfl (R_callL (vs := [(aggOf (rdCh x34))]) ref03_Get_c110 rfl rfl ((ref03_GetStamp x34 Fx ((rdAt ((rdNum q 2).2)).2) w54 (H56.sl 0 rfl) (H56.imm _ (List.mem_of_getElem? (i := 0) rfl)).2 hr37).ret ?_))
 rintro _ w58 ⟨x57, rfl, hx59, hr60, hs61⟩
 have H62 := H56.ext hx59
 have H63 := H62.immOf 0 rfl (slI Fx encB 1 x57.bh x57.b) (fun _ h => h) (fun _ => hs61)
 refine O_v rfl (R_move (v := (.tuple #[(aggOf (stampCh ((rdAt ((rdAt ((rdNum q 2).2)).2)).1))), (aggOf (rdCh x57))])) rfl ?_)
 refine O_v rfl (R_extract (v := (aggOf (stampCh ((rdAt ((rdAt ((rdNum q 2).2)).2)).1)))) rfl rfl ?_)
 refine O_v rfl (R_extract (v := (aggOf (rdCh x57))) rfl rfl ?_)
 refine O_v rfl (C_alloc H63 [[(.int .i64 0)], [(.int .i64 0)]] Tryz.zeroValue69 ?_)
 intro b64 w65 hb66 hx67 H68
 refine O_v rfl (C_alloc H68 [[(.slice none 0 0)], [(.bool false)]] Tryz.zeroValue110 ?_)
 intro b69 w70 hb71 hx72 H73
 refine O_u (C_storeA H73 1 rfl 0 (sub := [[(.int .i64 (((rdAt ((rdAt ((rdNum q 2).2)).2)).1).T))], [(.int .i64 (((rdAt ((rdAt ((rdNum q 2).2)).2)).1).R))]]) [[(.int .i64 (((rdAt ((rdAt ((rdNum q 2).2)).2)).1).T))], [(.int .i64 (((rdAt ((rdAt ((rdNum q 2).2)).2)).1).R))]] Tryz.sizeOf69 rfl rfl rfl rfl ⟨[[(.int .i64 0)], [(.int .i64 0)]], [], rfl, rfl, rfl⟩ rfl ?_)
 intro w74 hg75 H76
 refine O_u (C_storeA H76 0 rfl 0 (sub := [[(slV x57.bh x57.b)], [(.bool x57.bad)]]) [[(slV x57.bh x57.b)], [(.bool x57.bad)]] Tryz.sizeOf110 rfl rfl rfl rfl ⟨[[(.slice none 0 0)], [(.bool false)]], [], rfl, rfl, rfl⟩ rfl ?_)
 intro w77 hg78 H79
 refine O_nil (Then_n (W_seq (W_reg ?_)))
 refine O_v rfl (R_move (v := (.int .i64 ((((rdNum q 2).1) : Nat) : Int))) rfl ?_)
 refine O_v rfl (R_loadA (cs := [[(.int .i64 (((rdAt ((rdNum q 2).2)).1).T))], [(.int .i64 (((rdAt ((rdNum q 2).2)).1).R))]]) Tryz.isAgg69 Tryz.sizeOf69 rfl rfl ((boxR_at (H79.getOwn 3 rfl)).chunks 0 2 0 0 _ rfl rfl rfl) ?_)
 refine O_v rfl (R_loadA (cs := [[(.int .i64 (((rdAt ((rdAt ((rdNum q 2).2)).2)).1).T))], [(.int .i64 (((rdAt ((rdAt ((rdNum q 2).2)).2)).1).R))]]) Tryz.isAgg69 Tryz.sizeOf69 rfl rfl ((boxR_at (H79.getOwn 1 rfl)).chunks 0 2 0 0 _ rfl rfl rfl) ?_)
 refine O_v rfl (R_buildL (vs := [(0, (.int .i64 ((((rdNum q 2).1) : Nat) : Int))), (1, (aggOf (stampCh ((rdAt ((rdNum q 2).2)).1)))), (2, (aggOf (stampCh ((rdAt ((rdAt ((rdNum q 2).2)).2)).1))))]) (v := aggOf [[(.int .i64 ((((rdNum q 2).1) : Nat) : Int))], [(.int .i64 (((rdAt ((rdNum q 2).2)).1).T))], [(.int .i64 (((rdAt ((rdNum q 2).2)).1).R))], [(.int .i64 (((rdAt ((rdAt ((rdNum q 2).2)).2)).1).T))], [(.int .i64 (((rdAt ((rdAt ((rdNum q 2).2)).2)).1).R))], [(.int .i64 0)], [(.int .i64 0)], [(.string ByteArray.empty)], (idCells zeroId), [(.slice none 0 0)]]) rfl (fun _ => by kernel_rfl) ?_)
 refine O_v rfl (C_alloc H79 [[(.int .i64 0)], [(.int .i64 0)], [(.int .i64 0)], [(.int .i64 0)], [(.int .i64 0)], [(.int .i64 0)], [(.int .i64 0)], [(.string ByteArray.empty)], (idCells zeroId), [(.slice none 0 0)]] Tryz.zeroValue72 ?_)
 intro b80 w81 hb82 hx83 H84
 refine O_u (C_storeA H84 0 rfl 0 (sub := [[(.int .i64 ((((rdNum q 2).1) : Nat) : Int))], [(.int .i64 (((rdAt ((rdNum q 2).2)).1).T))], [(.int .i64 (((rdAt ((rdNum q 2).2)).1).R))], [(.int .i64 (((rdAt ((rdAt ((rdNum q 2).2)).2)).1).T))], [(.int .i64 (((rdAt ((rdAt ((rdNum q 2).2)).2)).1).R))], [(.int .i64 0)], [(.int .i64 0)], [(.string ByteArray.empty)], (idCells zeroId), [(.slice none 0 0)]]) [[(.int .i64 ((((rdNum q 2).1) : Nat) : Int))], [(.int .i64 (((rdAt ((rdNum q 2).2)).1).T))], [(.int .i64 (((rdAt ((rdNum q 2).2)).1).R))], [(.int .i64 (((rdAt ((rdAt ((rdNum q 2).2)).2)).1).T))], [(.int .i64 (((rdAt ((rdAt ((rdNum q 2).2)).2)).1).R))], [(.int .i64 0)], [(.int .i64 0)], [(.string ByteArray.empty)], (idCells zeroId), [(.slice none 0 0)]] Tryz.sizeOf72 rfl rfl rfl rfl ⟨[[(.int .i64 0)], [(.int .i64 0)], [(.int .i64 0)], [(.int .i64 0)], [(.int .i64 0)], [(.int .i64 0)], [(.int .i64 0)], [(.string ByteArray.empty)], (idCells zeroId), [(.slice none 0 0)]], [], rfl, rfl, rfl⟩ rfl ?_)
 intro w85 hg86 H87
 refine O_nil (Then_n (W_seq (W_seq (W_reg ?_))))
 refine O_v rfl (R_move (v := (.int .i64 ((((rdNum q 2).1) : Nat) : Int))) rfl ?_)
 refine O_v rfl (R_cmp (a := ((((rdNum q 2).1) : Nat) : Int)) (b := 1) (r := (decide (((((rdNum q 2).1) : Nat) : Int) = 1))) rfl rfl rfl ?_)
 refine O_nil (Then_n ?_)
 refine W_cond (t := (decide (((((rdNum q 2).1) : Nat) : Int) = 1))) rfl (fun hc88 => ?_) (fun hc88 => ?_)
 ·have hc88 : (((((rdNum q 2).1) : Nat) : Int) = 1) := (of_decide_eq_true hc88)
  have hK := hc88
  refine W_seq (W_reg ?_)
  refine O_v rfl (R_loadA (cs := [[(slV x57.bh x57.b)], [(.bool x57.bad)]]) Tryz.isAgg110 Tryz.sizeOf110 rfl rfl ((boxR_at (H87.getOwn 1 rfl)).chunks 0 2 0 0 _ rfl rfl rfl) ?_)
  refine O_v rfl (R_callL (vs := [(aggOf (rdCh x57))]) ref03_Get_c110 rfl rfl ((ref03_GetStamp x57 Fx ((rdAt ((rdAt ((rdNum q 2).2)).2)).2) w85 (H87.sl 0 rfl) (H87.imm _ (List.mem_of_getElem? (i := 0) rfl)).2 hr60).ret ?_))
  rintro _ w90 ⟨x89, rfl, hx91, hr92, hs93⟩
  have H94 := H87.ext hx91
  have H95 := H94.immOf 0 rfl (slI Fx encB 1 x89.bh x89.b) (fun _ h => h) (fun _ => hs93)
  refine O_v rfl (R_move (v := (.tuple #[(aggOf (stampCh ((rdAt ((rdAt ((rdAt ((rdNum q 2).2)).2)).2)).1))), (aggOf (rdCh x89))])) rfl ?_)
  refine O_v rfl (R_extract (v := (aggOf (stampCh ((rdAt ((rdAt ((rdAt ((rdNum q 2).2)).2)).2)).1)))) rfl rfl ?_)
  refine O_v rfl (R_extract (v := (aggOf (rdCh x89))) rfl rfl ?_)
  refine O_v rfl (C_alloc H95 [[(.int .i64 0)], [(.int .i64 0)]] Tryz.zeroValue69 ?_)
  intro b96 w97 hb98 hx99 H100
  refine O_v rfl (C_alloc H100 [[(.slice none 0 0)], [(.bool false)]] Tryz.zeroValue110 ?_)
  intro b101 w102 hb103 hx104 H105
  refine O_u (C_storeA H105 1 rfl 0 (sub := [[(.int .i64 (((rdAt ((rdAt ((rdAt ((rdNum q 2).2)).2)).2)).1).T))], [(.int .i64 (((rdAt ((rdAt ((rdAt ((rdNum q 2).2)).2)).2)).1).R))]]) [[(.int .i64 (((rdAt ((rdAt ((rdAt ((rdNum q 2).2)).2)).2)).1).T))], [(.int .i64 (((rdAt ((rdAt ((rdAt ((rdNum q 2).2)).2)).2)).1).R))]] Tryz.sizeOf69 rfl rfl rfl rfl ⟨[[(.int .i64 0)], [(.int .i64 0)]], [], rfl, rfl, rfl⟩ rfl ?_)
  intro w106 hg107 H108
  refine O_u (C_storeA H108 0 rfl 0 (sub := [[(slV x89.bh x89.b)], [(.bool x89.bad)]]) [[(slV x89.bh x89.b)], [(.bool x89.bad)]] Tryz.sizeOf110 rfl rfl rfl rfl ⟨[[(.slice none 0 0)], [(.bool false)]], [], rfl, rfl, rfl⟩ rfl ?_)
  intro w109 hg110 H111
  refine O_nil (Then_n (W_seq (W_reg ?_)))
  refine O_v rfl (R_loadA (cs := [[(slV x89.bh x89.b)], [(.bool x89.bad)]]) Tryz.isAgg110 Tryz.sizeOf110 rfl rfl ((boxR_at (H111.getOwn 0 rfl)).chunks 0 2 0 0 _ rfl rfl rfl) ?_)
  refine O_v rfl (R_callL (vs := [(aggOf (rdCh x89)), (.int .i64 60)]) ref03_Get_c78 rfl rfl ((ref02_GetText x89 Fx ((rdAt ((rdAt ((rdAt ((rdNum q 2).2)).2)).2)).2) 60 w109 (H111.sl 0 rfl) (H111.imm _ (List.mem_of_getElem? (i := 0) rfl)).2 hr92).ret ?_))
  rintro _ w113 ⟨x112, rfl, hx114, hr115, hs116⟩
  have H117 := H111.ext hx114
  have H118 := H117.immOf 0 rfl (slI Fx encB 1 x112.bh x112.b) (fun _ h => h) (fun _ => hs116)
  refine O_v rfl (R_move (v := (.tuple #[(.string ((rdText ((rdAt ((rdAt ((rdAt ((rdNum q 2).2)).2)).2)).2) 60).1)), (aggOf (rdCh x112))])) rfl ?_)
  refine O_v rfl (R_extract (v := (.string ((rdText ((rdAt ((rdAt ((rdAt ((rdNum q 2).2)).2)).2)).2) 60).1))) rfl rfl ?_)
  refine O_v rfl (R_extract (v := (aggOf (rdCh x112))) rfl rfl ?_)
  refine O_v rfl (C_alloc H118 [[(.slice none 0 0)], [(.bool false)]] Tryz.zeroValue110 ?_)
  intro b119 w120 hb121 hx122 H123
  refine O_v rfl (R_assign (v := (.string ((rdText ((rdAt ((rdAt ((rdAt ((rdNum q 2).2)).2)).2)).2) 60).1))) rfl ?_)
  refine O_u (C_storeA H123 0 rfl 0 (sub := [[(slV x112.bh x112.b)], [(.bool x112.bad)]]) [[(slV x112.bh x112.b)], [(.bool x112.bad)]] Tryz.sizeOf110 rfl rfl rfl rfl ⟨[[(.slice none 0 0)], [(.bool false)]], [], rfl, rfl, rfl⟩ rfl ?_)
  intro w124 hg125 H126
  refine O_nil (Then_n (W_seq (W_reg ?_)))
  refine O_v rfl (R_loadA (cs := [[(.int .i64 (((rdAt ((rdAt ((rdAt ((rdNum q 2).2)).2)).2)).1).T))], [(.int .i64 (((rdAt ((rdAt ((rdAt ((rdNum q 2).2)).2)).2)).1).R))]]) Tryz.isAgg69 Tryz.sizeOf69 rfl rfl ((boxR_at (H126.getOwn 2 rfl)).chunks 0 2 0 0 _ rfl rfl rfl) ?_)
  refine O_v rfl (R_fieldAddr (off := 5) (oo := 5) Tryz.underlying72 rfl rfl Tryz.sizeOf69 rfl rfl ?_)
  refine O_u (C_storeA H126 3 rfl 5 (sub := [[(.int .i64 (((rdAt ((rdAt ((rdAt ((rdNum q 2).2)).2)).2)).1).T))], [(.int .i64 (((rdAt ((rdAt ((rdAt ((rdNum q 2).2)).2)).2)).1).R))]]) [[(.int .i64 ((((rdNum q 2).1) : Nat) : Int))], [(.int .i64 (((rdAt ((rdNum q 2).2)).1).T))], [(.int .i64 (((rdAt ((rdNum q 2).2)).1).R))], [(.int .i64 (((rdAt ((rdAt ((rdNum q 2).2)).2)).1).T))], [(.int .i64 (((rdAt ((rdAt ((rdNum q 2).2)).2)).1).R))], [(.int .i64 (((rdAt ((rdAt ((rdAt ((rdNum q 2).2)).2)).2)).1).T))], [(.int .i64 (((rdAt ((rdAt ((rdAt ((rdNum q 2).2)).2)).2)).1).R))], [(.string ByteArray.empty)], (idCells zeroId), [(.slice none 0 0)]] Tryz.sizeOf69 rfl rfl rfl rfl ⟨[[(.int .i64 0)], [(.int .i64 0)]], [[(.string ByteArray.empty)], (idCells zeroId), [(.slice none 0 0)]], rfl, rfl, rfl⟩ rfl ?_)
  intro w127 hg128 H129
  refine O_nil (Then_n (W_seq (W_reg ?_)))
  refine O_v rfl (R_move (v := (.string ((rdText ((rdAt ((rdAt ((rdAt ((rdNum q 2).2)).2)).2)).2) 60).1))) rfl ?_)
  refine O_v rfl (R_fieldAddr (off := 7) (oo := 7) Tryz.underlying72 rfl rfl Tryz.sizeOf9 rfl rfl ?_)
  refine O_u (C_store1 H129 3 rfl 7 (v := (.string ((rdText ((rdAt ((rdAt ((rdAt ((rdNum q 2).2)).2)).2)).2) 60).1))) [[(.int .i64 ((((rdNum q 2).1) : Nat) : Int))], [(.int .i64 (((rdAt ((rdNum q 2).2)).1).T))], [(.int .i64 (((rdAt ((rdNum q 2).2)).1).R))], [(.int .i64 (((rdAt ((rdAt ((rdNum q 2).2)).2)).1).T))], [(.int .i64 (((rdAt ((rdAt ((rdNum q 2).2)).2)).1).R))], [(.int .i64 (((rdAt ((rdAt ((rdAt ((rdNum q 2).2)).2)).2)).1).T))], [(.int .i64 (((rdAt ((rdAt ((rdAt ((rdNum q 2).2)).2)).2)).1).R))], [(.string ((rdText ((rdAt ((rdAt ((rdAt ((rdNum q 2).2)).2)).2)).2) 60).1))], (idCells zeroId), [(.slice none 0 0)]] Tryz.sizeOf9 rfl rfl rfl rfl rfl rfl rfl ?_)
  intro w130 hg131 H132
  refine O_nil (Then_n (W_reg ?_))
  refine O_v rfl (R_loadA (cs := [[(slV x112.bh x112.b)], [(.bool x112.bad)]]) Tryz.isAgg110 Tryz.sizeOf110 rfl rfl ((boxR_at (H132.getOwn 0 rfl)).chunks 0 2 0 0 _ rfl rfl rfl) ?_)
  refine O_u (C_storeA H132 4 rfl 0 (sub := [[(slV x112.bh x112.b)], [(.bool x112.bad)]]) [[(slV x112.bh x112.b)], [(.bool x112.bad)]] Tryz.sizeOf110 rfl rfl rfl rfl ⟨[[(slV x57.bh x57.b)], [(.bool x57.bad)]], [], rfl, rfl, rfl⟩ rfl ?_)
  intro w133 hg134 H135
  refine O_nil (Then_n (W_seq (W_seq ?_)))
  refine W_rg [(0, .q 0), (1, .q 0), (2, .q 0), (3, .q 0), (4, .q 0), (5, .q 0), (6, .q 0)] (by kernel_rfl) ?_
  refine Lx_q (i := 0) rfl rfl _ (fun v136 hv137 => R_fieldAddr (off := 1) (oo := 1) Tryz.underlying110 rfl rfl Tryz.sizeOf4 rfl rfl ⟨rfl, Gr.refl _ _⟩) ?_
  refine Lx_q (i := 1) rfl rfl _ (fun v138 hv139 => R_load1 (v := (.bool x112.bad)) Tryz.isAgg4 rfl ((boxR_at ((H135.ext hv139).getOwn 4 rfl)).chunks 1 1 1 1 _ rfl rfl rfl) ⟨rfl, Gr.refl _ _⟩) ?_
  refine Lx_q (i := 2) rfl rfl _ (fun v140 hv141 => R_move (v := (.bool x112.bad)) rfl ⟨rfl, Gr.refl _ _⟩) ?_
  refine Lx_qg (i := 3) true x112.bad rfl rfl rfl rfl rfl (!x112.bad) ga_f _ (fun hA v142 hv143 => R_loadA (cs := [[(.int .i64 ((((rdNum q 2).1) : Nat) : Int))], [(.int .i64 (((rdAt ((rdNum q 2).2)).1).T))], [(.int .i64 (((rdAt ((rdNum q 2).2)).1).R))], [(.int .i64 (((rdAt ((rdAt ((rdNum q 2).2)).2)).1).T))], [(.int .i64 (((rdAt ((rdAt ((rdNum q 2).2)).2)).1).R))], [(.int .i64 (((rdAt ((rdAt ((rdAt ((rdNum q 2).2)).2)).2)).1).T))], [(.int .i64 (((rdAt ((rdAt ((rdAt ((rdNum q 2).2)).2)).2)).1).R))], [(.string ((rdText ((rdAt ((rdAt ((rdAt ((rdNum q 2).2)).2)).2)).2) 60).1))], (idCells zeroId), [(.slice none 0 0)]]) Tryz.isAgg72 Tryz.sizeOf72 rfl rfl ((boxR_at ((H135.ext hv143).getOwn 3 rfl)).chunks 0 10 0 0 _ rfl rfl rfl) ⟨rfl, Gr.refl _ _⟩) ?_
  refine Lx_qg (i := 4) true x112.bad rfl rfl rfl rfl rfl (!x112.bad) ga_f (.bool (goodOp ({ kind := ((((rdNum q 2).1) : Nat) : Int), tm := ((rdAt ((rdNum q 2).2)).1), node := ((rdAt ((rdAt ((rdNum q 2).2)).2)).1), par := ((rdAt ((rdAt ((rdAt ((rdNum q 2).2)).2)).2)).1), name := (rdText ((rdAt ((rdAt ((rdAt ((rdNum q 2).2)).2)).2)).2) 60).1, data := zeroId, over := [], oh := nilH } : OpS))) (fun hA v144 hv145 => R_callL (vs := [(aggOf [[(.int .i64 ((((rdNum q 2).1) : Nat) : Int))], [(.int .i64 (((rdAt ((rdNum q 2).2)).1).T))], [(.int .i64 (((rdAt ((rdNum q 2).2)).1).R))], [(.int .i64 (((rdAt ((rdAt ((rdNum q 2).2)).2)).1).T))], [(.int .i64 (((rdAt ((rdAt ((rdNum q 2).2)).2)).1).R))], [(.int .i64 (((rdAt ((rdAt ((rdAt ((rdNum q 2).2)).2)).2)).1).T))], [(.int .i64 (((rdAt ((rdAt ((rdAt ((rdNum q 2).2)).2)).2)).1).R))], [(.string ((rdText ((rdAt ((rdAt ((rdAt ((rdNum q 2).2)).2)).2)).2) 60).1))], (idCells zeroId), [(.slice none 0 0)]])]) ref03_Get_c61 rfl (lst1 (gv_t hA)) (ref03_Good ({ kind := ((((rdNum q 2).1) : Nat) : Int), tm := ((rdAt ((rdNum q 2).2)).1), node := ((rdAt ((rdAt ((rdNum q 2).2)).2)).1), par := ((rdAt ((rdAt ((rdAt ((rdNum q 2).2)).2)).2)).1), name := (rdText ((rdAt ((rdAt ((rdAt ((rdNum q 2).2)).2)).2)).2) 60).1, data := zeroId, over := [], oh := nilH } : OpS) v144 (Sl.nil _ _ _ _) (rdText_size _ (by decide)))) ?_
  refine Lx_qg (i := 5) true x112.bad rfl rfl rfl rfl rfl (!x112.bad) ga_f _ (fun hA v146 hv147 => R_not (gv_t hA) ⟨rfl, Gr.refl _ _⟩) ?_
  refine Lx_q (i := 6) rfl rfl _ (fun v148 hv149 => R_pick (t := x112.bad) (v := (.bool (x112.bad || (!(goodOp ({ kind := ((((rdNum q 2).1) : Nat) : Int), tm := ((rdAt ((rdNum q 2).2)).1), node := ((rdAt ((rdAt ((rdNum q 2).2)).2)).1), par := ((rdAt ((rdAt ((rdAt ((rdNum q 2).2)).2)).2)).1), name := (rdText ((rdAt ((rdAt ((rdAt ((rdNum q 2).2)).2)).2)).2) 60).1, data := zeroId, over := [], oh := nilH } : OpS)))))) rfl pk_or ⟨rfl, Gr.refl _ _⟩) ?_
  refine Lx_nil (fun w150 hw151 => ?_)
  have H152 := H135.ext hw151
  refine Then_n ?_
  refine W_cond (t := (x112.bad || (!(goodOp ({ kind := ((((rdNum q 2).1) : Nat) : Int), tm := ((rdAt ((rdNum q 2).2)).1), node := ((rdAt ((rdAt ((rdNum q 2).2)).2)).1), par := ((rdAt ((rdAt ((rdAt ((rdNum q 2).2)).2)).2)).1), name := (rdText ((rdAt ((rdAt ((rdAt ((rdNum q 2).2)).2)).2)).2) 60).1, data := zeroId, over := [], oh := nilH } : OpS))))) rfl (fun hc153 => ?_) (fun hc153 => ?_)
  ·have hc153 : (x112.bad = true ∨ (goodOp ({ kind := ((((rdNum q 2).1) : Nat) : Int), tm := ((rdAt ((rdNum q 2).2)).1), node := ((rdAt ((rdAt ((rdNum q 2).2)).2)).1), par := ((rdAt ((rdAt ((rdAt ((rdNum q 2).2)).2)).2)).1), name := (rdText ((rdAt ((rdAt ((rdAt ((rdNum q 2).2)).2)).2)).2) 60).1, data := zeroId, over := [], oh := nilH } : OpS)) = false) := (Or.imp (fun h => h) (fun h => (notT h)) (orT hc153))
   refine W_seq (W_reg ?_)
   refine O_v rfl (R_buildL (vs := []) (v := aggOf [[(.int .i64 0)], [(.int .i64 0)], [(.int .i64 0)], [(.int .i64 0)], [(.int .i64 0)], [(.int .i64 0)], [(.int .i64 0)], [(.string ByteArray.empty)], (idCells zeroId), [(.slice none 0 0)]]) rfl (fun _ => by kernel_rfl) ?_)
   refine O_v rfl (R_buildL (vs := [(1, (.bool true))]) (v := aggOf [[(.slice none 0 0)], [(.bool true)]]) rfl (fun _ => by kernel_rfl) ?_)
   refine O_u (C_storeA H152 10 rfl 0 (sub := [[(.int .i64 0)], [(.int .i64 0)], [(.int .i64 0)], [(.int .i64 0)], [(.int .i64 0)], [(.int .i64 0)], [(.int .i64 0)], [(.string ByteArray.empty)], (idCells zeroId), [(.slice none 0 0)]]) [[(.int .i64 0)], [(.int .i64 0)], [(.int .i64 0)], [(.int .i64 0)], [(.int .i64 0)], [(.int .i64 0)], [(.int .i64 0)], [(.string ByteArray.empty)], (idCells zeroId), [(.slice none 0 0)]] Tryz.sizeOf72 rfl rfl rfl rfl ⟨[[(.int .i64 0)], [(.int .i64 0)], [(.int .i64 0)], [(.int .i64 0)], [(.int .i64 0)], [(.int .i64 0)], [(.int .i64 0)], [(.string ByteArray.empty)], (idCells zeroId), [(.slice none 0 0)]], [], rfl, rfl, rfl⟩ rfl ?_)
   intro w154 hg155 H156
   refine O_u (C_storeA H156 9 rfl 0 (sub := [[(.slice none 0 0)], [(.bool true)]]) [[(.slice none 0 0)], [(.bool true)]] Tryz.sizeOf110 rfl rfl rfl rfl ⟨[[(.slice none 0 0)], [(.bool false)]], [], rfl, rfl, rfl⟩ rfl ?_)
   intro w157 hg158 H159
   refine O_nil (Then_n (W_ret (Then_r ?_)))
   refine ret_cc Tryz.results77 (inMem (cs := [[(.int .i64 0)], [(.int .i64 0)], [(.int .i64 0)], [(.int .i64 0)], [(.int .i64 0)], [(.int .i64 0)], [(.int .i64 0)], [(.string ByteArray.empty)], (idCells zeroId), [(.slice none 0 0)]]) rfl Tryz.isAgg72 Tryz.sizeOf72 rfl (boxR_at (H159.getOwn 10 rfl))) (inMem (cs := [[(.slice none 0 0)], [(.bool true)]]) rfl Tryz.isAgg110 Tryz.sizeOf110 rfl (boxR_at (H159.getOwn 9 rfl))) ?_
   have H160 := H159.addNil 69 2 stampCh
   exact ⟨({ kind := 0, tm := ({ T := 0, R := 0 } : Stamp), node := ({ T := 0, R := 0 } : Stamp), par := ({ T := 0, R := 0 } : Stamp), name := ByteArray.empty, data := zeroId, over := [], oh := nilH } : OpS), ({ b := [], bh := nilH, bad := true } : RdS), rfl, H160.gr, H160.retRow 0 rfl, (congrArg Prod.fst (opR_fail (opR_m hK) hr115 hc153)).symm, (congrArg Prod.snd (opR_fail (opR_m hK) hr115 hc153)).symm, (Sl.nil _ _ _ _)⟩
  ·have hc153 : (x112.bad = false ∧ (goodOp ({ kind := ((((rdNum q 2).1) : Nat) : Int), tm := ((rdAt ((rdNum q 2).2)).1), node := ((rdAt ((rdAt ((rdNum q 2).2)).2)).1), par := ((rdAt ((rdAt ((rdAt ((rdNum q 2).2)).2)).2)).1), name := (rdText ((rdAt ((rdAt ((rdAt ((rdNum q 2).2)).2)).2)).2) 60).1, data := zeroId, over := [], oh := nilH } : OpS)) = true) := (And.imp (fun h => h) (fun h => (notF h)) (orF hc153))
   refine W_skip (Then_n (W_seq ?_))
   refine W_rgdM TryzMixed (fun c => c = b9) (fun i => if i == 2 then 1 else if i == 3 then 2 else 0) [(0, .q 1), (1, .q 1), (2, .c 1), (3, .c 2)] (by kernel_rfl) ?_
   refine Lx_q (i := 0) rfl rfl _ (fun v161 hv162 => R_loadA (cs := [[(.int .i64 ((((rdNum q 2).1) : Nat) : Int))], [(.int .i64 (((rdAt ((rdNum q 2).2)).1).T))], [(.int .i64 (((rdAt ((rdNum q 2).2)).1).R))], [(.int .i64 (((rdAt ((rdAt ((rdNum q 2).2)).2)).1).T))], [(.int .i64 (((rdAt ((rdAt ((rdNum q 2).2)).2)).1).R))], [(.int .i64 (((rdAt ((rdAt ((rdAt ((rdNum q 2).2)).2)).2)).1).T))], [(.int .i64 (((rdAt ((rdAt ((rdAt ((rdNum q 2).2)).2)).2)).1).R))], [(.string ((rdText ((rdAt ((rdAt ((rdAt ((rdNum q 2).2)).2)).2)).2) 60).1))], (idCells zeroId), [(.slice none 0 0)]]) Tryz.isAgg72 Tryz.sizeOf72 rfl rfl ((boxR_at (H152.ownGr 3 10 (by decide) rfl rfl hv162 (fun _ h => congrArg some h.symm))).chunks 0 10 0 0 _ rfl rfl rfl) ⟨rfl, Gr.refl _ _⟩) ?_
   refine Lx_q (i := 1) rfl rfl _ (fun v163 hv164 => R_loadA (cs := [[(slV x112.bh x112.b)], [(.bool x112.bad)]]) Tryz.isAgg110 Tryz.sizeOf110 rfl rfl ((boxR_at (H152.ownGr 4 10 (by decide) rfl rfl hv164 (fun _ h => congrArg some h.symm))).chunks 0 2 0 0 _ rfl rfl rfl) ⟨rfl, Gr.refl _ _⟩) ?_
   refine Lx_cu (i := 2) rfl (fun w165 hw166 => ?_)
   have H167 := H152.ext hw166
   refine (C_storeA H167 10 rfl 0 (sub := [[(.int .i64 ((((rdNum q 2).1) : Nat) : Int))], [(.int .i64 (((rdAt ((rdNum q 2).2)).1).T))], [(.int .i64 (((rdAt ((rdNum q 2).2)).1).R))], [(.int .i64 (((rdAt ((rdAt ((rdNum q 2).2)).2)).1).T))], [(.int .i64 (((rdAt ((rdAt ((rdNum q 2).2)).2)).1).R))], [(.int .i64 (((rdAt ((rdAt ((rdAt ((rdNum q 2).2)).2)).2)).1).T))], [(.int .i64 (((rdAt ((rdAt ((rdAt ((rdNum q 2).2)).2)).2)).1).R))], [(.string ((rdText ((rdAt ((rdAt ((rdAt ((rdNum q 2).2)).2)).2)).2) 60).1))], (idCells zeroId), [(.slice none 0 0)]]) [[(.int .i64 ((((rdNum q 2).1) : Nat) : Int))], [(.int .i64 (((rdAt ((rdNum q 2).2)).1).T))], [(.int .i64 (((rdAt ((rdNum q 2).2)).1).R))], [(.int .i64 (((rdAt ((rdAt ((rdNum q 2).2)).2)).1).T))], [(.int .i64 (((rdAt ((rdAt ((rdNum q 2).2)).2)).1).R))], [(.int .i64 (((rdAt ((rdAt ((rdAt ((rdNum q 2).2)).2)).2)).1).T))], [(.int .i64 (((rdAt ((rdAt ((rdAt ((rdNum q 2).2)).2)).2)).1).R))], [(.string ((rdText ((rdAt ((rdAt ((rdAt ((rdNum q 2).2)).2)).2)).2) 60).1))], (idCells zeroId), [(.slice none 0 0)]] Tryz.sizeOf72 rfl rfl rfl rfl ⟨[[(.int .i64 0)], [(.int .i64 0)], [(.int .i64 0)], [(.int .i64 0)], [(.int .i64 0)], [(.int .i64 0)], [(.int .i64 0)], [(.string ByteArray.empty)], (idCells zeroId), [(.slice none 0 0)]], [], rfl, rfl, rfl⟩ rfl ?_)
   intro w168 hg169 H170
   refine ⟨Gr.mono hg169 (fun _ h => (Option.some.inj h).symm), ?_⟩
   refine Lx_cu (i := 3) rfl (fun w171 hw172 => ?_)
   have H173 := H170.ext hw172
   refine (C_storeA H173 9 rfl 0 (sub := [[(slV x112.bh x112.b)], [(.bool x112.bad)]]) [[(slV x112.bh x112.b)], [(.bool x112.bad)]] Tryz.sizeOf110 rfl rfl rfl rfl ⟨[[(.slice none 0 0)], [(.bool false)]], [], rfl, rfl, rfl⟩ rfl ?_)
   intro w174 hg175 H176
   refine ⟨Gr.mono (M' := fun _ => True) hg175 (fun _ _ => trivial), ?_⟩
   refine Lx_nil (fun w177 hw178 => ?_)
   have H179 := H176.ext hw178
   refine Then_n (W_ret ?_)
   refine ret_cc Tryz.results77 (inMem (cs := [[(.int .i64 ((((rdNum q 2).1) : Nat) : Int))], [(.int .i64 (((rdAt ((rdNum q 2).2)).1).T))], [(.int .i64 (((rdAt ((rdNum q 2).2)).1).R))], [(.int .i64 (((rdAt ((rdAt ((rdNum q 2).2)).2)).1).T))], [(.int .i64 (((rdAt ((rdAt ((rdNum q 2).2)).2)).1).R))], [(.int .i64 (((rdAt ((rdAt ((rdAt ((rdNum q 2).2)).2)).2)).1).T))], [(.int .i64 (((rdAt ((rdAt ((rdAt ((rdNum q 2).2)).2)).2)).1).R))], [(.string ((rdText ((rdAt ((rdAt ((rdAt ((rdNum q 2).2)).2)).2)).2) 60).1))], (idCells zeroId), [(.slice none 0 0)]]) rfl Tryz.isAgg72 Tryz.sizeOf72 rfl (boxR_at (H179.getOwn 10 rfl))) (inMem (cs := [[(slV x112.bh x112.b)], [(.bool x112.bad)]]) rfl Tryz.isAgg110 Tryz.sizeOf110 rfl (boxR_at (H179.getOwn 9 rfl))) ?_
   have H180 := H179.addNil 69 2 stampCh
   exact ⟨({ kind := ((((rdNum q 2).1) : Nat) : Int), tm := ((rdAt ((rdNum q 2).2)).1), node := ((rdAt ((rdAt ((rdNum q 2).2)).2)).1), par := ((rdAt ((rdAt ((rdAt ((rdNum q 2).2)).2)).2)).1), name := (rdText ((rdAt ((rdAt ((rdAt ((rdNum q 2).2)).2)).2)).2) 60).1, data := zeroId, over := [], oh := nilH } : OpS), x112, rfl, H180.gr, H180.retRow 0 rfl, (congrArg Prod.fst (opR_ok (opR_m hK) hr115 hc153)).symm, (hr115.trans (congrArg Prod.snd (opR_ok (opR_m hK) hr115 hc153)).symm), (H179.sl 0 rfl)⟩
 ·have hc88 : ¬ (((((rdNum q 2).1) : Nat) : Int) = 1) := (of_decide_eq_false hc88)
  have hK := hc88
  refine W_seq (W_reg ?_)
  refine O_v rfl (R_loadA (cs := [[(slV x57.bh x57.b)], [(.bool x57.bad)]]) Tryz.isAgg110 Tryz.sizeOf110 rfl rfl ((boxR_at (H87.getOwn 1 rfl)).chunks 0 2 0 0 _ rfl rfl rfl) ?_)
  refine O_v rfl (R_callL (vs := [(aggOf (rdCh x57))]) ref03_Get_c76 rfl rfl ((ref02_GetId x57 Fx ((rdAt ((rdAt ((rdNum q 2).2)).2)).2) w85 (H87.sl 0 rfl) (H87.imm _ (List.mem_of_getElem? (i := 0) rfl)).2 hr60).ret ?_))
  rintro _ w182 ⟨x181, rfl, hx183, hr184, hs185⟩
  have H186 := H87.ext hx183
  have H187 := H186.immOf 0 rfl (slI Fx encB 1 x181.bh x181.b) (fun _ h => h) (fun _ => hs185)
  refine O_v rfl (R_move (v := (.tuple #[(aggOf (idCh ((rdId ((rdAt ((rdAt ((rdNum q 2).2)).2)).2)).1))), (aggOf (rdCh x181))])) rfl ?_)
  refine O_v rfl (R_extract (v := (aggOf (idCh ((rdId ((rdAt ((rdAt ((rdNum q 2).2)).2)).2)).1)))) rfl rfl ?_)
  refine O_v rfl (R_extract (v := (aggOf (rdCh x181))) rfl rfl ?_)
  refine O_v rfl (C_alloc H187 [(idCells zeroId)] Tryz.zeroValue44 ?_)
  intro b188 w189 hb190 hx191 H192
  refine O_v rfl (C_alloc H192 [[(.slice none 0 0)], [(.bool false)]] Tryz.zeroValue110 ?_)
  intro b193 w194 hb195 hx196 H197
  refine O_u (C_storeA H197 1 rfl 0 (sub := [(idCells ((rdId ((rdAt ((rdAt ((rdNum q 2).2)).2)).2)).1))]) [(idCells ((rdId ((rdAt ((rdAt ((rdNum q 2).2)).2)).2)).1))] Tryz.sizeOf44 rfl rfl rfl rfl ⟨[(idCells zeroId)], [], rfl, rfl, rfl⟩ rfl ?_)
  intro w198 hg199 H200
  refine O_u (C_storeA H200 0 rfl 0 (sub := [[(slV x181.bh x181.b)], [(.bool x181.bad)]]) [[(slV x181.bh x181.b)], [(.bool x181.bad)]] Tryz.sizeOf110 rfl rfl rfl rfl ⟨[[(.slice none 0 0)], [(.bool false)]], [], rfl, rfl, rfl⟩ rfl ?_)
  intro w201 hg202 H203
  refine O_nil (Then_n (W_seq (W_reg ?_)))
  refine O_v rfl (R_loadA (cs := [[(slV x181.bh x181.b)], [(.bool x181.bad)]]) Tryz.isAgg110 Tryz.sizeOf110 rfl rfl ((boxR_at (H203.getOwn 0 rfl)).chunks 0 2 0 0 _ rfl rfl rfl) ?_)
  refine O_v rfl (R_callL (vs := [(aggOf (rdCh x181)), (.int .i64 64)]) ref03_Get_c72 rfl rfl ((ref02_GetNum x181 Fx ((rdId ((rdAt ((rdAt ((rdNum q 2).2)).2)).2)).2) 64 w201 (H203.sl 0 rfl) (H203.imm _ (List.mem_of_getElem? (i := 0) rfl)).2 hr184).ret ?_))
  rintro _ w205 ⟨x204, rfl, hx206, hr207, hs208⟩
  have H209 := H203.ext hx206
  have H210 := H209.immOf 0 rfl (slI Fx encB 1 x204.bh x204.b) (fun _ h => h) (fun _ => hs208)
  refine O_v rfl (R_move (v := (.tuple #[(.int .i64 ((((rdNum ((rdId ((rdAt ((rdAt ((rdNum q 2).2)).2)).2)).2) 64).1) : Nat) : Int)), (aggOf (rdCh x204))])) rfl ?_)
  refine O_v rfl (R_extract (v := (.int .i64 ((((rdNum ((rdId ((rdAt ((rdAt ((rdNum q 2).2)).2)).2)).2) 64).1) : Nat) : Int))) rfl rfl ?_)
  refine O_v rfl (R_extract (v := (aggOf (rdCh x204))) rfl rfl ?_)
  refine O_v rfl (C_alloc H210 [[(.slice none 0 0)], [(.bool false)]] Tryz.zeroValue110 ?_)
  intro b211 w212 hb213 hx214 H215
  refine O_v rfl (R_assign (v := (.int .i64 ((((rdNum ((rdId ((rdAt ((rdAt ((rdNum q 2).2)).2)).2)).2) 64).1) : Nat) : Int))) rfl ?_)
  refine O_u (C_storeA H215 0 rfl 0 (sub := [[(slV x204.bh x204.b)], [(.bool x204.bad)]]) [[(slV x204.bh x204.b)], [(.bool x204.bad)]] Tryz.sizeOf110 rfl rfl rfl rfl ⟨[[(.slice none 0 0)], [(.bool false)]], [], rfl, rfl, rfl⟩ rfl ?_)
  intro w216 hg217 H218
  refine O_nil (Then_n (W_seq (W_reg ?_)))
  refine O_v rfl (R_loadA (cs := [(idCells ((rdId ((rdAt ((rdAt ((rdNum q 2).2)).2)).2)).1))]) Tryz.isAgg44 Tryz.sizeOf44 rfl rfl ((boxR_at (H218.getOwn 2 rfl)).chunks 0 1 0 0 _ rfl rfl rfl) ?_)
  refine O_v rfl (R_fieldAddr (off := 8) (oo := 8) Tryz.underlying72 rfl rfl Tryz.sizeOf45 rfl rfl ?_)
  refine O_u (C_storeA H218 3 rfl 8 (sub := [(idCells ((rdId ((rdAt ((rdAt ((rdNum q 2).2)).2)).2)).1))]) [[(.int .i64 ((((rdNum q 2).1) : Nat) : Int))], [(.int .i64 (((rdAt ((rdNum q 2).2)).1).T))], [(.int .i64 (((rdAt ((rdNum q 2).2)).1).R))], [(.int .i64 (((rdAt ((rdAt ((rdNum q 2).2)).2)).1).T))], [(.int .i64 (((rdAt ((rdAt ((rdNum q 2).2)).2)).1).R))], [(.int .i64 0)], [(.int .i64 0)], [(.string ByteArray.empty)], (idCells ((rdId ((rdAt ((rdAt ((rdNum q 2).2)).2)).2)).1)), [(.slice none 0 0)]] Tryz.sizeOf45 rfl rfl rfl rfl ⟨[(idCells zeroId)], [[(.slice none 0 0)]], rfl, rfl, rfl⟩ rfl ?_)
  intro w219 hg220 H221
  refine O_nil (Then_n (W_seq (W_reg ?_)))
  refine O_v rfl (R_loadA (cs := [[(slV x204.bh x204.b)], [(.bool x204.bad)]]) Tryz.isAgg110 Tryz.sizeOf110 rfl rfl ((boxR_at (H221.getOwn 0 rfl)).chunks 0 2 0 0 _ rfl rfl rfl) ?_)
  refine O_u (C_storeA H221 4 rfl 0 (sub := [[(slV x204.bh x204.b)], [(.bool x204.bad)]]) [[(slV x204.bh x204.b)], [(.bool x204.bad)]] Tryz.sizeOf110 rfl rfl rfl rfl ⟨[[(slV x57.bh x57.b)], [(.bool x57.bad)]], [], rfl, rfl, rfl⟩ rfl ?_)
  intro w222 hg223 H224
  refine O_nil (Then_n (W_seq (W_reg ?_)))
  refine O_v rfl (R_assign (v := (.int .i64 0)) rfl ?_)
  refine O_nil (Then_n (W_block ?_))
  have H225 := H224.addNil 69 2 stampCh
  refine W_loop (fun m226 e227 w228 => ∃ (k : Nat), ∃ (acc : List Stamp), ∃ (rr : RdS), ∃ (rq : List UInt8 × Bool), ∃ (ho : SlH), m226 = (rdNum (rdId (rdAt (rdAt (rdNum q 2).2).2).2).2 64).1 - k ∧ (k ≤ (rdNum (rdId (rdAt (rdAt (rdNum q 2).2).2).2).2 64).1) ∧ ((rdNum (rdId (rdAt (rdAt (rdNum q 2).2).2).2).2 64).1 ≤ 64) ∧ (acc.length ≤ k) ∧ (rr.st = rq) ∧ (rdAts ((rdNum (rdId (rdAt (rdAt (rdNum q 2).2).2).2).2 64).1 - k) acc rq = rdAts (rdNum (rdId (rdAt (rdAt (rdNum q 2).2).2).2).2 64).1 [] (rdNum (rdId (rdAt (rdAt (rdNum q 2).2).2).2).2 64).2) ∧ ∃ eb229, e227 = envL [(2, (.pointer (some ⟨b9, 0, none⟩))), (3, (.pointer (some ⟨b14, 0, none⟩))), (9, (.pointer (some ⟨b69, 0, none⟩))), (10, (.pointer (some ⟨b80, 0, none⟩))), (17, (.int .i64 ((((rdNum ((rdId ((rdAt ((rdAt ((rdNum q 2).2)).2)).2)).2) 64).1) : Nat) : Int))), (19, (.int .i64 ((k : Nat) : Int)))] eb229 ∧ Ctx w nob w228 [rowR 69 2 stampCh ho acc, boxR b211 110 [[(slV x204.bh x204.b)], [(.bool x204.bad)]], boxR b193 110 [[(slV x181.bh x181.b)], [(.bool x181.bad)]], boxR b188 44 [(idCells ((rdId ((rdAt ((rdAt ((rdNum q 2).2)).2)).2)).1))], boxR b80 72 [[(.int .i64 ((((rdNum q 2).1) : Nat) : Int))], [(.int .i64 (((rdAt ((rdNum q 2).2)).1).T))], [(.int .i64 (((rdAt ((rdNum q 2).2)).1).R))], [(.int .i64 (((rdAt ((rdAt ((rdNum q 2).2)).2)).1).T))], [(.int .i64 (((rdAt ((rdAt ((rdNum q 2).2)).2)).1).R))], [(.int .i64 0)], [(.int .i64 0)], [(.string ByteArray.empty)], (idCells ((rdId ((rdAt ((rdAt ((rdNum q 2).2)).2)).2)).1)), [(slV ho acc)]], boxR b69 110 [[(slV rr.bh rr.b)], [(.bool rr.bad)]], boxR b64 69 [[(.int .i64 (((rdAt ((rdAt ((rdNum q 2).2)).2)).1).T))], [(.int .i64 (((rdAt ((rdAt ((rdNum q 2).2)).2)).1).R))]], boxR b46 110 [[(slV x34.bh x34.b)], [(.bool x34.bad)]], boxR b41 69 [[(.int .i64 (((rdAt ((rdNum q 2).2)).1).T))], [(.int .i64 (((rdAt ((rdNum q 2).2)).1).R))]], boxR b26 110 [[(slV x19.bh x19.b)], [(.bool x19.bad)]], boxR b14 110 [[(.slice none 0 0)], [(.bool false)]], boxR b9 72 [[(.int .i64 0)], [(.int .i64 0)], [(.int .i64 0)], [(.int .i64 0)], [(.int .i64 0)], [(.int .i64 0)], [(.int .i64 0)], [(.string ByteArray.empty)], (idCells zeroId), [(.slice none 0 0)]], boxR b4 110 [[(slV x.bh x.b)], [(.bool x.bad)]]] [slI Fx encB 1 rr.bh rr.b, slI Fx encB 1 x181.bh x181.b, slI Fx encB 1 x57.bh x57.b, slI Fx encB 1 x34.bh x34.b, slI Fx encB 1 x19.bh x19.b, slI Fx encB 1 x.bh x.b]) _ ⟨0, [], x204, ((rdNum (rdId (rdAt (rdAt (rdNum q 2).2).2).2).2 64).2), nilH, rfl, (by omega), (rdNum_le _ (by decide)), (by simp), hr207, rfl, _, envL_self ⟨rfl, rfl, rfl, rfl, rfl, rfl, trivial⟩, H225⟩ ?_
  rintro m226 _ w228 ⟨k, acc, rr, rq, ho, rfl, hk, hm, hal, hrr, hgo, eb229, rfl, H230⟩
  refine W_seq (W_seq ?_)
  refine W_rg [(0, .q 0), (1, .q 0), (2, .q 0), (3, .q 0), (4, .q 0), (5, .q 0), (6, .q 0), (7, .q 0)] (by kernel_rfl) ?_
  refine Lx_q (i := 0) rfl rfl _ (fun v231 hv232 => R_move (v := (.int .i64 ((k : Nat) : Int))) rfl ⟨rfl, Gr.refl _ _⟩) ?_
  refine Lx_q (i := 1) rfl rfl _ (fun v233 hv234 => R_move (v := (.int .i64 ((((rdNum ((rdId ((rdAt ((rdAt ((rdNum q 2).2)).2)).2)).2) 64).1) : Nat) : Int))) rfl ⟨rfl, Gr.refl _ _⟩) ?_
  refine Lx_q (i := 2) rfl rfl _ (fun v235 hv236 => R_cmp (a := ((k : Nat) : Int)) (b := ((((rdNum ((rdId ((rdAt ((rdAt ((rdNum q 2).2)).2)).2)).2) 64).1) : Nat) : Int)) (r := (decide (((k : Nat) : Int) < ((((rdNum ((rdId ((rdAt ((rdAt ((rdNum q 2).2)).2)).2)).2) 64).1) : Nat) : Int)))) rfl rfl rfl ⟨rfl, Gr.refl _ _⟩) ?_
  refine Lx_q (i := 3) rfl rfl _ (fun v237 hv238 => R_move (v := (.bool (decide (((k : Nat) : Int) < ((((rdNum ((rdId ((rdAt ((rdAt ((rdNum q 2).2)).2)).2)).2) 64).1) : Nat) : Int))))) rfl ⟨rfl, Gr.refl _ _⟩) ?_
  refine Lx_qg (i := 4) true (decide (((k : Nat) : Int) < ((((rdNum ((rdId ((rdAt ((rdAt ((rdNum q 2).2)).2)).2)).2) 64).1) : Nat) : Int))) rfl rfl rfl rfl rfl (decide (((k : Nat) : Int) < ((((rdNum ((rdId ((rdAt ((rdAt ((rdNum q 2).2)).2)).2)).2) 64).1) : Nat) : Int))) ga_t _ (fun hA v239 hv240 => R_fieldAddr (off := 1) (oo := 1) Tryz.underlying110 rfl rfl Tryz.sizeOf4 rfl rfl ⟨rfl, Gr.refl _ _⟩) ?_
  refine Lx_qg (i := 5) true (decide (((k : Nat) : Int) < ((((rdNum ((rdId ((rdAt ((rdAt ((rdNum q 2).2)).2)).2)).2) 64).1) : Nat) : Int))) rfl rfl rfl rfl rfl (decide (((k : Nat) : Int) < ((((rdNum ((rdId ((rdAt ((rdAt ((rdNum q 2).2)).2)).2)).2) 64).1) : Nat) : Int))) ga_t _ (fun hA v241 hv242 => R_load1 (v := (.bool rr.bad)) Tryz.isAgg4 (gv_t hA) ((boxR_at ((H230.ext hv242).getOwn 5 rfl)).chunks 1 1 1 1 _ rfl rfl rfl) ⟨rfl, Gr.refl _ _⟩) ?_
  refine Lx_qg (i := 6) true (decide (((k : Nat) : Int) < ((((rdNum ((rdId ((rdAt ((rdAt ((rdNum q 2).2)).2)).2)).2) 64).1) : Nat) : Int))) rfl rfl rfl rfl rfl (decide (((k : Nat) : Int) < ((((rdNum ((rdId ((rdAt ((rdAt ((rdNum q 2).2)).2)).2)).2) 64).1) : Nat) : Int))) ga_t _ (fun hA v243 hv244 => R_not (gv_t hA) ⟨rfl, Gr.refl _ _⟩) ?_
  refine Lx_q (i := 7) rfl rfl _ (fun v245 hv246 => R_pick (t := (decide (((k : Nat) : Int) < ((((rdNum ((rdId ((rdAt ((rdAt ((rdNum q 2).2)).2)).2)).2) 64).1) : Nat) : Int)))) (v := (.bool ((decide (((k : Nat) : Int) < ((((rdNum ((rdId ((rdAt ((rdAt ((rdNum q 2).2)).2)).2)).2) 64).1) : Nat) : Int))) && (!rr.bad)))) rfl pk_and ⟨rfl, Gr.refl _ _⟩) ?_
  refine Lx_nil (fun w247 hw248 => ?_)
  have H249 := H230.ext hw248
  refine Then_n ?_
  refine W_cond (t := ((decide (((k : Nat) : Int) < ((((rdNum ((rdId ((rdAt ((rdAt ((rdNum q 2).2)).2)).2)).2) 64).1) : Nat) : Int))) && (!rr.bad))) rfl (fun hc250 => ?_) (fun hc250 => ?_)
  ·have hc250 : ((((k : Nat) : Int) < ((((rdNum ((rdId ((rdAt ((rdAt ((rdNum q 2).2)).2)).2)).2) 64).1) : Nat) : Int)) ∧ rr.bad = false) := (And.imp (fun h => (of_decide_eq_true h)) (fun h => (notT h)) (andT hc250))
   refine W_skip (Then_n (W_seq (W_block (W_seq (W_reg ?_)))))
   refine O_v rfl (R_loadA (cs := [[(slV rr.bh rr.b)], [(.bool rr.bad)]]) Tryz.isAgg110 Tryz.sizeOf110 rfl rfl ((boxR_at (H249.getOwn 5 rfl)).chunks 0 2 0 0 _ rfl rfl rfl) ?_)
   refine O_v rfl (R_callL (vs := [(aggOf (rdCh rr))]) ref03_Get_c110 rfl rfl ((ref03_GetStamp rr Fx rq w247 (H249.sl 0 rfl) (H249.imm _ (List.mem_of_getElem? (i := 0) rfl)).2 hrr).ret ?_))
   rintro _ w252 ⟨x251, rfl, hx253, hr254, hs255⟩
   have H256 := H249.ext hx253
   have H257 := H256.immOf 0 rfl (slI Fx encB 1 x251.bh x251.b) (fun _ h => h) (fun _ => hs255)
   refine O_v rfl (R_move (v := (.tuple #[(aggOf (stampCh ((rdAt rq).1))), (aggOf (rdCh x251))])) rfl ?_)
   refine O_v rfl (R_extract (v := (aggOf (stampCh ((rdAt rq).1)))) rfl rfl ?_)
   refine O_v rfl (R_extract (v := (aggOf (rdCh x251))) rfl rfl ?_)
   refine O_v rfl (C_alloc H257 [[(.int .i64 0)], [(.int .i64 0)]] Tryz.zeroValue69 ?_)
   intro b258 w259 hb260 hx261 H262
   refine O_v rfl (C_alloc H262 [[(.slice none 0 0)], [(.bool false)]] Tryz.zeroValue110 ?_)
   intro b263 w264 hb265 hx266 H267
   refine O_u (C_storeA H267 1 rfl 0 (sub := [[(.int .i64 (((rdAt rq).1).T))], [(.int .i64 (((rdAt rq).1).R))]]) [[(.int .i64 (((rdAt rq).1).T))], [(.int .i64 (((rdAt rq).1).R))]] Tryz.sizeOf69 rfl rfl rfl rfl ⟨[[(.int .i64 0)], [(.int .i64 0)]], [], rfl, rfl, rfl⟩ rfl ?_)
   intro w268 hg269 H270
   refine O_u (C_storeA H270 0 rfl 0 (sub := [[(slV x251.bh x251.b)], [(.bool x251.bad)]]) [[(slV x251.bh x251.b)], [(.bool x251.bad)]] Tryz.sizeOf110 rfl rfl rfl rfl ⟨[[(.slice none 0 0)], [(.bool false)]], [], rfl, rfl, rfl⟩ rfl ?_)
   intro w271 hg272 H273
   refine O_nil (Then_n (W_seq (W_reg ?_)))
   refine O_v rfl (R_fieldAddr (off := 40) (oo := 40) Tryz.underlying72 rfl rfl Tryz.sizeOf70 rfl rfl ?_)
   refine O_v rfl (R_load1 (v := (slV ho acc)) Tryz.isAgg70 rfl ((boxR_at (H273.getOwn 6 rfl)).chunks 9 1 40 40 _ rfl rfl rfl) ?_)
   refine O_v rfl (R_loadA (cs := [[(.int .i64 (((rdAt rq).1).T))], [(.int .i64 (((rdAt rq).1).R))]]) Tryz.isAgg69 Tryz.sizeOf69 rfl rfl ((boxR_at (H273.getOwn 1 rfl)).chunks 0 2 0 0 _ rfl rfl rfl) ?_)
   refine O_v rfl (C_buildSliceL H273 (enc := stampCh) (val := stampV) ([((rdAt rq).1)] : List Stamp) Tryz.underlying70 Tryz.sizeOf69 Tryz.zeroValue69 rfl (by decide) (fun _ => rfl) (fun _ => rfl) rfl rfl (by decide) ?_)
   intro b274 w275 hb276 hx277 H278
   refine O_v rfl (C_append H278 3 rfl (bytes := 16) (l := acc) (ys := ([((rdAt rq).1)] : List Stamp)) Tryz.underlying70 rfl rfl rfl rfl rfl (by decide) rfl rfl (OwnS.sl (H278.getOwn 0 rfl) (fun _ => rfl)) (fun _ => rfl) (fun _ => rfl) (by simp only [List.length_append, List.length_cons, List.length_nil]; omega) (by decide) ?_)
   intro h279 w280 hg281 H282
   refine O_v rfl (R_fieldAddr (off := 40) (oo := 40) Tryz.underlying72 rfl rfl Tryz.sizeOf70 rfl rfl ?_)
   refine O_u (C_store1 H282 7 rfl 9 (v := (slV h279 (acc ++ ([((rdAt rq).1)] : List Stamp)))) [[(.int .i64 ((((rdNum q 2).1) : Nat) : Int))], [(.int .i64 (((rdAt ((rdNum q 2).2)).1).T))], [(.int .i64 (((rdAt ((rdNum q 2).2)).1).R))], [(.int .i64 (((rdAt ((rdAt ((rdNum q 2).2)).2)).1).T))], [(.int .i64 (((rdAt ((rdAt ((rdNum q 2).2)).2)).1).R))], [(.int .i64 0)], [(.int .i64 0)], [(.string ByteArray.empty)], (idCells ((rdId ((rdAt ((rdAt ((rdNum q 2).2)).2)).2)).1)), [(slV h279 (acc ++ ([((rdAt rq).1)] : List Stamp)))]] Tryz.sizeOf70 rfl rfl rfl rfl rfl rfl rfl ?_)
   intro w283 hg284 H285
   refine O_nil (Then_n (W_reg ?_))
   refine O_v rfl (R_loadA (cs := [[(slV x251.bh x251.b)], [(.bool x251.bad)]]) Tryz.isAgg110 Tryz.sizeOf110 rfl rfl ((boxR_at (H285.getOwn 1 rfl)).chunks 0 2 0 0 _ rfl rfl rfl) ?_)
   refine O_u (C_storeA H285 8 rfl 0 (sub := [[(slV x251.bh x251.b)], [(.bool x251.bad)]]) [[(slV x251.bh x251.b)], [(.bool x251.bad)]] Tryz.sizeOf110 rfl rfl rfl rfl ⟨[[(slV rr.bh rr.b)], [(.bool rr.bad)]], [], rfl, rfl, rfl⟩ rfl ?_)
   intro w286 hg287 H288
   refine O_nil (Blk_n (Then_n (W_reg ?_)))
   refine O_v rfl (R_move (v := (.int .i64 ((k : Nat) : Int))) rfl ?_)
   refine O_v rfl (R_arith (a := ((k : Nat) : Int)) (b := 1) (r0 := ((k : Nat) : Int) + 1) (r := ((k + 1 : Nat) : Int)) rfl rfl rfl (wrapN _ (by omega)) ?_)
   refine O_v rfl (R_assign (v := (.int .i64 ((k + 1 : Nat) : Int))) rfl ?_)
   refine O_nil (Then_n ?_)
   have H289 := H288.sub (B' := [rowR 69 2 stampCh h279 (acc ++ ([((rdAt rq).1)] : List Stamp)), boxR b211 110 [[(slV x204.bh x204.b)], [(.bool x204.bad)]], boxR b193 110 [[(slV x181.bh x181.b)], [(.bool x181.bad)]], boxR b188 44 [(idCells ((rdId ((rdAt ((rdAt ((rdNum q 2).2)).2)).2)).1))], boxR b80 72 [[(.int .i64 ((((rdNum q 2).1) : Nat) : Int))], [(.int .i64 (((rdAt ((rdNum q 2).2)).1).T))], [(.int .i64 (((rdAt ((rdNum q 2).2)).1).R))], [(.int .i64 (((rdAt ((rdAt ((rdNum q 2).2)).2)).1).T))], [(.int .i64 (((rdAt ((rdAt ((rdNum q 2).2)).2)).1).R))], [(.int .i64 0)], [(.int .i64 0)], [(.string ByteArray.empty)], (idCells ((rdId ((rdAt ((rdAt ((rdNum q 2).2)).2)).2)).1)), [(slV h279 (acc ++ ([((rdAt rq).1)] : List Stamp)))]], boxR b69 110 [[(slV x251.bh x251.b)], [(.bool x251.bad)]], boxR b64 69 [[(.int .i64 (((rdAt ((rdAt ((rdNum q 2).2)).2)).1).T))], [(.int .i64 (((rdAt ((rdAt ((rdNum q 2).2)).2)).1).R))]], boxR b46 110 [[(slV x34.bh x34.b)], [(.bool x34.bad)]], boxR b41 69 [[(.int .i64 (((rdAt ((rdNum q 2).2)).1).T))], [(.int .i64 (((rdAt ((rdNum q 2).2)).1).R))]], boxR b26 110 [[(slV x19.bh x19.b)], [(.bool x19.bad)]], boxR b14 110 [[(.slice none 0 0)], [(.bool false)]], boxR b9 72 [[(.int .i64 0)], [(.int .i64 0)], [(.int .i64 0)], [(.int .i64 0)], [(.int .i64 0)], [(.int .i64 0)], [(.int .i64 0)], [(.string ByteArray.empty)], (idCells zeroId), [(.slice none 0 0)]], boxR b4 110 [[(slV x.bh x.b)], [(.bool x.bad)]]]) (I' := [slI Fx encB 1 x251.bh x251.b, slI Fx encB 1 x181.bh x181.b, slI Fx encB 1 x57.bh x57.b, slI Fx encB 1 x34.bh x34.b, slI Fx encB 1 x19.bh x19.b, slI Fx encB 1 x.bh x.b]) (List.Sublist.cons _ (List.Sublist.cons _ (List.Sublist.cons _ (List.Sublist.cons_cons _ (List.Sublist.cons_cons _ (List.Sublist.cons_cons _ (List.Sublist.cons_cons _ (List.Sublist.cons_cons _ (List.Sublist.cons_cons _ (List.Sublist.cons_cons _ (List.Sublist.cons_cons _ (List.Sublist.cons_cons _ (List.Sublist.cons_cons _ (List.Sublist.cons_cons _ (List.Sublist.cons_cons _ (List.Sublist.cons_cons _ List.Sublist.slnil)))))))))))))))) (List.forall_mem_cons.2 ⟨List.mem_of_getElem? (i := 0) rfl, List.forall_mem_cons.2 ⟨List.mem_of_getElem? (i := 2) rfl, List.forall_mem_cons.2 ⟨List.mem_of_getElem? (i := 3) rfl, List.forall_mem_cons.2 ⟨List.mem_of_getElem? (i := 4) rfl, List.forall_mem_cons.2 ⟨List.mem_of_getElem? (i := 5) rfl, List.forall_mem_cons.2 ⟨List.mem_of_getElem? (i := 6) rfl, fun _ h => (nomatch h)⟩⟩⟩⟩⟩⟩)
   refine ⟨_, ?_, (k + 1), (acc ++ ([((rdAt rq).1)] : List Stamp)), x251, ((rdAt rq).2), h279, rfl, (by omega), hm, (by simp only [List.length_append, List.length_cons, List.length_nil]; omega), hr254, (ats_next hgo (by omega)), _, envL_self ⟨rfl, rfl, rfl, rfl, rfl, rfl, trivial⟩, H289⟩
   omega
  ·have hc250 : (¬ (((k : Nat) : Int) < ((((rdNum ((rdId ((rdAt ((rdAt ((rdNum q 2).2)).2)).2)).2) 64).1) : Nat) : Int)) ∨ rr.bad = true) := (Or.imp (fun h => (of_decide_eq_false h)) (fun h => (notF h)) (andF hc250))
   refine W_exit (Then_x (Then_x (Blk_x (Then_n (W_seq (W_seq ?_))))))
   refine W_rg [(0, .q 0), (1, .q 0), (2, .q 0), (3, .q 0), (4, .q 0), (5, .q 0), (6, .q 0)] (by kernel_rfl) ?_
   refine Lx_q (i := 0) rfl rfl _ (fun v290 hv291 => R_fieldAddr (off := 1) (oo := 1) Tryz.underlying110 rfl rfl Tryz.sizeOf4 rfl rfl ⟨rfl, Gr.refl _ _⟩) ?_
   refine Lx_q (i := 1) rfl rfl _ (fun v292 hv293 => R_load1 (v := (.bool rr.bad)) Tryz.isAgg4 rfl ((boxR_at ((H249.ext hv293).getOwn 5 rfl)).chunks 1 1 1 1 _ rfl rfl rfl) ⟨rfl, Gr.refl _ _⟩) ?_
   refine Lx_q (i := 2) rfl rfl _ (fun v294 hv295 => R_move (v := (.bool rr.bad)) rfl ⟨rfl, Gr.refl _ _⟩) ?_
   refine Lx_qg (i := 3) true rr.bad rfl rfl rfl rfl rfl (!rr.bad) ga_f _ (fun hA v296 hv297 => R_loadA (cs := [[(.int .i64 ((((rdNum q 2).1) : Nat) : Int))], [(.int .i64 (((rdAt ((rdNum q 2).2)).1).T))], [(.int .i64 (((rdAt ((rdNum q 2).2)).1).R))], [(.int .i64 (((rdAt ((rdAt ((rdNum q 2).2)).2)).1).T))], [(.int .i64 (((rdAt ((rdAt ((rdNum q 2).2)).2)).1).R))], [(.int .i64 0)], [(.int .i64 0)], [(.string ByteArray.empty)], (idCells ((rdId ((rdAt ((rdAt ((rdNum q 2).2)).2)).2)).1)), [(slV ho acc)]]) Tryz.isAgg72 Tryz.sizeOf72 rfl rfl ((boxR_at ((H249.ext hv297).getOwn 4 rfl)).chunks 0 10 0 0 _ rfl rfl rfl) ⟨rfl, Gr.refl _ _⟩) ?_
   refine Lx_qg (i := 4) true rr.bad rfl rfl rfl rfl rfl (!rr.bad) ga_f (.bool (goodOp ({ kind := ((((rdNum q 2).1) : Nat) : Int), tm := ((rdAt ((rdNum q 2).2)).1), node := ((rdAt ((rdAt ((rdNum q 2).2)).2)).1), par := ({ T := 0, R := 0 } : Stamp), name := ByteArray.empty, data := (rdId ((rdAt ((rdAt ((rdNum q 2).2)).2)).2)).1, over := acc, oh := ho } : OpS))) (fun hA v298 hv299 => R_callL (vs := [(aggOf [[(.int .i64 ((((rdNum q 2).1) : Nat) : Int))], [(.int .i64 (((rdAt ((rdNum q 2).2)).1).T))], [(.int .i64 (((rdAt ((rdNum q 2).2)).1).R))], [(.int .i64 (((rdAt ((rdAt ((rdNum q 2).2)).2)).1).T))], [(.int .i64 (((rdAt ((rdAt ((rdNum q 2).2)).2)).1).R))], [(.int .i64 0)], [(.int .i64 0)], [(.string ByteArray.empty)], (idCells ((rdId ((rdAt ((rdAt ((rdNum q 2).2)).2)).2)).1)), [(slV ho acc)]])]) ref03_Get_c61 rfl (lst1 (gv_t hA)) (ref03_Good ({ kind := ((((rdNum q 2).1) : Nat) : Int), tm := ((rdAt ((rdNum q 2).2)).1), node := ((rdAt ((rdAt ((rdNum q 2).2)).2)).1), par := ({ T := 0, R := 0 } : Stamp), name := ByteArray.empty, data := (rdId ((rdAt ((rdAt ((rdNum q 2).2)).2)).2)).1, over := acc, oh := ho } : OpS) v298 ((H249.ext hv299).rowSl 0 rfl (fun _ => rfl)) (Nat.zero_le _))) ?_
   refine Lx_qg (i := 5) true rr.bad rfl rfl rfl rfl rfl (!rr.bad) ga_f _ (fun hA v300 hv301 => R_not (gv_t hA) ⟨rfl, Gr.refl _ _⟩) ?_
   refine Lx_q (i := 6) rfl rfl _ (fun v302 hv303 => R_pick (t := rr.bad) (v := (.bool (rr.bad || (!(goodOp ({ kind := ((((rdNum q 2).1) : Nat) : Int), tm := ((rdAt ((rdNum q 2).2)).1), node := ((rdAt ((rdAt ((rdNum q 2).2)).2)).1), par := ({ T := 0, R := 0 } : Stamp), name := ByteArray.empty, data := (rdId ((rdAt ((rdAt ((rdNum q 2).2)).2)).2)).1, over := acc, oh := ho } : OpS)))))) rfl pk_or ⟨rfl, Gr.refl _ _⟩) ?_
   refine Lx_nil (fun w304 hw305 => ?_)
   have H306 := H249.ext hw305
   refine Then_n ?_
   refine W_cond (t := (rr.bad || (!(goodOp ({ kind := ((((rdNum q 2).1) : Nat) : Int), tm := ((rdAt ((rdNum q 2).2)).1), node := ((rdAt ((rdAt ((rdNum q 2).2)).2)).1), par := ({ T := 0, R := 0 } : Stamp), name := ByteArray.empty, data := (rdId ((rdAt ((rdAt ((rdNum q 2).2)).2)).2)).1, over := acc, oh := ho } : OpS))))) rfl (fun hc307 => ?_) (fun hc307 => ?_)
   ·have hc307 : (rr.bad = true ∨ (goodOp ({ kind := ((((rdNum q 2).1) : Nat) : Int), tm := ((rdAt ((rdNum q 2).2)).1), node := ((rdAt ((rdAt ((rdNum q 2).2)).2)).1), par := ({ T := 0, R := 0 } : Stamp), name := ByteArray.empty, data := (rdId ((rdAt ((rdAt ((rdNum q 2).2)).2)).2)).1, over := acc, oh := ho } : OpS)) = false) := (Or.imp (fun h => h) (fun h => (notT h)) (orT hc307))
    refine W_seq (W_reg ?_)
    refine O_v rfl (R_buildL (vs := []) (v := aggOf [[(.int .i64 0)], [(.int .i64 0)], [(.int .i64 0)], [(.int .i64 0)], [(.int .i64 0)], [(.int .i64 0)], [(.int .i64 0)], [(.string ByteArray.empty)], (idCells zeroId), [(.slice none 0 0)]]) rfl (fun _ => by kernel_rfl) ?_)
    refine O_v rfl (R_buildL (vs := [(1, (.bool true))]) (v := aggOf [[(.slice none 0 0)], [(.bool true)]]) rfl (fun _ => by kernel_rfl) ?_)
    refine O_u (C_storeA H306 11 rfl 0 (sub := [[(.int .i64 0)], [(.int .i64 0)], [(.int .i64 0)], [(.int .i64 0)], [(.int .i64 0)], [(.int .i64 0)], [(.int .i64 0)], [(.string ByteArray.empty)], (idCells zeroId), [(.slice none 0 0)]]) [[(.int .i64 0)], [(.int .i64 0)], [(.int .i64 0)], [(.int .i64 0)], [(.int .i64 0)], [(.int .i64 0)], [(.int .i64 0)], [(.string ByteArray.empty)], (idCells zeroId), [(.slice none 0 0)]] Tryz.sizeOf72 rfl rfl rfl rfl ⟨[[(.int .i64 0)], [(.int .i64 0)], [(.int .i64 0)], [(.int .i64 0)], [(.int .i64 0)], [(.int .i64 0)], [(.int .i64 0)], [(.string ByteArray.empty)], (idCells zeroId), [(.slice none 0 0)]], [], rfl, rfl, rfl⟩ rfl ?_)
    intro w308 hg309 H310
    refine O_u (C_storeA H310 10 rfl 0 (sub := [[(.slice none 0 0)], [(.bool true)]]) [[(.slice none 0 0)], [(.bool true)]] Tryz.sizeOf110 rfl rfl rfl rfl ⟨[[(.slice none 0 0)], [(.bool false)]], [], rfl, rfl, rfl⟩ rfl ?_)
    intro w311 hg312 H313
    refine O_nil (Then_n (W_ret (Then_r ?_)))
    refine ret_cc Tryz.results77 (inMem (cs := [[(.int .i64 0)], [(.int .i64 0)], [(.int .i64 0)], [(.int .i64 0)], [(.int .i64 0)], [(.int .i64 0)], [(.int .i64 0)], [(.string ByteArray.empty)], (idCells zeroId), [(.slice none 0 0)]]) rfl Tryz.isAgg72 Tryz.sizeOf72 rfl (boxR_at (H313.getOwn 11 rfl))) (inMem (cs := [[(.slice none 0 0)], [(.bool true)]]) rfl Tryz.isAgg110 Tryz.sizeOf110 rfl (boxR_at (H313.getOwn 10 rfl))) ?_
    have H314 := H313.addNil 69 2 stampCh
    exact ⟨({ kind := 0, tm := ({ T := 0, R := 0 } : Stamp), node := ({ T := 0, R := 0 } : Stamp), par := ({ T := 0, R := 0 } : Stamp), name := ByteArray.empty, data := zeroId, over := [], oh := nilH } : OpS), ({ b := [], bh := nilH, bad := true } : RdS), rfl, H314.gr, H314.retRow 0 rfl, (congrArg Prod.fst (opR_failE hK hrr hgo hc250 hc307)).symm, (congrArg Prod.snd (opR_failE hK hrr hgo hc250 hc307)).symm, (Sl.nil _ _ _ _)⟩
   ·have hc307 : (rr.bad = false ∧ (goodOp ({ kind := ((((rdNum q 2).1) : Nat) : Int), tm := ((rdAt ((rdNum q 2).2)).1), node := ((rdAt ((rdAt ((rdNum q 2).2)).2)).1), par := ({ T := 0, R := 0 } : Stamp), name := ByteArray.empty, data := (rdId ((rdAt ((rdAt ((rdNum q 2).2)).2)).2)).1, over := acc, oh := ho } : OpS)) = true) := (And.imp (fun h => h) (fun h => (notF h)) (orF hc307))
    refine W_skip (Then_n (W_seq ?_))
    refine W_rgdM TryzMixed (fun c => c = b9) (fun i => if i == 2 then 1 else if i == 3 then 2 else 0) [(0, .q 1), (1, .q 1), (2, .c 1), (3, .c 2)] (by kernel_rfl) ?_
    refine Lx_q (i := 0) rfl rfl _ (fun v315 hv316 => R_loadA (cs := [[(.int .i64 ((((rdNum q 2).1) : Nat) : Int))], [(.int .i64 (((rdAt ((rdNum q 2).2)).1).T))], [(.int .i64 (((rdAt ((rdNum q 2).2)).1).R))], [(.int .i64 (((rdAt ((rdAt ((rdNum q 2).2)).2)).1).T))], [(.int .i64 (((rdAt ((rdAt ((rdNum q 2).2)).2)).1).R))], [(.int .i64 0)], [(.int .i64 0)], [(.string ByteArray.empty)], (idCells ((rdId ((rdAt ((rdAt ((rdNum q 2).2)).2)).2)).1)), [(slV ho acc)]]) Tryz.isAgg72 Tryz.sizeOf72 rfl rfl ((boxR_at (H306.ownGr 4 11 (by decide) rfl rfl hv316 (fun _ h => congrArg some h.symm))).chunks 0 10 0 0 _ rfl rfl rfl) ⟨rfl, Gr.refl _ _⟩) ?_
    refine Lx_q (i := 1) rfl rfl _ (fun v317 hv318 => R_loadA (cs := [[(slV rr.bh rr.b)], [(.bool rr.bad)]]) Tryz.isAgg110 Tryz.sizeOf110 rfl rfl ((boxR_at (H306.ownGr 5 11 (by decide) rfl rfl hv318 (fun _ h => congrArg some h.symm))).chunks 0 2 0 0 _ rfl rfl rfl) ⟨rfl, Gr.refl _ _⟩) ?_
    refine Lx_cu (i := 2) rfl (fun w319 hw320 => ?_)
    have H321 := H306.ext hw320
    refine (C_storeA H321 11 rfl 0 (sub := [[(.int .i64 ((((rdNum q 2).1) : Nat) : Int))], [(.int .i64 (((rdAt ((rdNum q 2).2)).1).T))], [(.int .i64 (((rdAt ((rdNum q 2).2)).1).R))], [(.int .i64 (((rdAt ((rdAt ((rdNum q 2).2)).2)).1).T))], [(.int .i64 (((rdAt ((rdAt ((rdNum q 2).2)).2)).1).R))], [(.int .i64 0)], [(.int .i64 0)], [(.string ByteArray.empty)], (idCells ((rdId ((rdAt ((rdAt ((rdNum q 2).2)).2)).2)).1)), [(slV ho acc)]]) [[(.int .i64 ((((rdNum q 2).1) : Nat) : Int))], [(.int .i64 (((rdAt ((rdNum q 2).2)).1).T))], [(.int .i64 (((rdAt ((rdNum q 2).2)).1).R))], [(.int .i64 (((rdAt ((rdAt ((rdNum q 2).2)).2)).1).T))], [(.int .i64 (((rdAt ((rdAt ((rdNum q 2).2)).2)).1).R))], [(.int .i64 0)], [(.int .i64 0)], [(.string ByteArray.empty)], (idCells ((rdId ((rdAt ((rdAt ((rdNum q 2).2)).2)).2)).1)), [(slV ho acc)]] Tryz.sizeOf72 rfl rfl rfl rfl ⟨[[(.int .i64 0)], [(.int .i64 0)], [(.int .i64 0)], [(.int .i64 0)], [(.int .i64 0)], [(.int .i64 0)], [(.int .i64 0)], [(.string ByteArray.empty)], (idCells zeroId), [(.slice none 0 0)]], [], rfl, rfl, rfl⟩ rfl ?_)
    intro w322 hg323 H324
    refine ⟨Gr.mono hg323 (fun _ h => (Option.some.inj h).symm), ?_⟩
    refine Lx_cu (i := 3) rfl (fun w325 hw326 => ?_)
    have H327 := H324.ext hw326
    refine (C_storeA H327 10 rfl 0 (sub := [[(slV rr.bh rr.b)], [(.bool rr.bad)]]) [[(slV rr.bh rr.b)], [(.bool rr.bad)]] Tryz.sizeOf110 rfl rfl rfl rfl ⟨[[(.slice none 0 0)], [(.bool false)]], [], rfl, rfl, rfl⟩ rfl ?_)
    intro w328 hg329 H330
    refine ⟨Gr.mono (M' := fun _ => True) hg329 (fun _ _ => trivial), ?_⟩
    refine Lx_nil (fun w331 hw332 => ?_)
    have H333 := H330.ext hw332
    refine Then_n (W_ret ?_)
    refine ret_cc Tryz.results77 (inMem (cs := [[(.int .i64 ((((rdNum q 2).1) : Nat) : Int))], [(.int .i64 (((rdAt ((rdNum q 2).2)).1).T))], [(.int .i64 (((rdAt ((rdNum q 2).2)).1).R))], [(.int .i64 (((rdAt ((rdAt ((rdNum q 2).2)).2)).1).T))], [(.int .i64 (((rdAt ((rdAt ((rdNum q 2).2)).2)).1).R))], [(.int .i64 0)], [(.int .i64 0)], [(.string ByteArray.empty)], (idCells ((rdId ((rdAt ((rdAt ((rdNum q 2).2)).2)).2)).1)), [(slV ho acc)]]) rfl Tryz.isAgg72 Tryz.sizeOf72 rfl (boxR_at (H333.getOwn 11 rfl))) (inMem (cs := [[(slV rr.bh rr.b)], [(.bool rr.bad)]]) rfl Tryz.isAgg110 Tryz.sizeOf110 rfl (boxR_at (H333.getOwn 10 rfl))) ?_
    exact ⟨({ kind := ((((rdNum q 2).1) : Nat) : Int), tm := ((rdAt ((rdNum q 2).2)).1), node := ((rdAt ((rdAt ((rdNum q 2).2)).2)).1), par := ({ T := 0, R := 0 } : Stamp), name := ByteArray.empty, data := (rdId ((rdAt ((rdAt ((rdNum q 2).2)).2)).2)).1, over := acc, oh := ho } : OpS), rr, rfl, H333.gr, H333.retRow 0 rfl, (congrArg Prod.fst (opR_okE hK hrr hgo hc250 hc307)).symm, (hrr.trans (congrArg Prod.snd (opR_okE hK hrr hgo hc250 hc307)).symm), (H333.sl 0 rfl)⟩

end Go.Proofs.YthjdhfoeckfmbaaGreat
namespace Go.Proofs.YthjdhfoeckfmbaaGreat
open Go
set_option maxRecDepth 100000
set_option linter.unusedVariables false
set_option linter.unusedSimpArgs false
set_option linter.unusedSectionVars false
variable [DD]
set_option maxHeartbeats 1000000 in
theorem ref01_Cmp (a : ID) (b : ID) (w : World) :
    Calls Tryz.prog 36 #[(aggOf (idCh a)), (aggOf (idCh b))] w (Ret fun v w' => v = (.int .i64 (cmpId a b)) ∧ Ext w w') := by
 refine calls_W Tryz.func36 rfl Tryz.ntmps36 rfl ?_
 have H0 := Ctx.start w nob
 refine W_seq (W_reg ?_)
 refine O_v rfl (C_box H0 [(idCells a)] rfl ?_)
 intro b1 w2 hb3 hx4 H5
 refine O_v rfl (C_box H5 [(idCells b)] rfl ?_)
 intro b6 w7 hb8 hx9 H10
 refine O_v rfl (R_assign (v := (.int .i64 0)) rfl ?_)
 refine O_nil (Then_n (W_seq (W_seq (W_reg ?_))))
 refine O_v rfl (R_assign (v := (.int .i64 0)) rfl ?_)
 refine O_nil (Then_n (W_block ?_))
 refine W_loop (fun m11 e12 w13 => ∃ (k : Nat), m11 = 32 - k ∧ (k ≤ 32) ∧ (∀ i, i < k → nth (idList a) i = nth (idList b) i) ∧ ∃ eb14, e12 = envL [(2, (.pointer (some ⟨b1, 0, none⟩))), (3, (.pointer (some ⟨b6, 0, none⟩))), (5, (.int .i64 ((k : Nat) : Int)))] eb14 ∧ Ctx w nob w13 [boxR b6 44 [(idCells b)], boxR b1 44 [(idCells a)]] []) _ ⟨0, rfl, (by omega), (all_zero _), _, envL_self ⟨rfl, rfl, rfl, trivial⟩, H10⟩ ?_
 rintro m11 _ w13 ⟨k, rfl, hk, hn, eb14, rfl, H15⟩
 refine W_seq (W_seq (W_reg ?_))
 refine O_v rfl (R_move (v := (.int .i64 ((k : Nat) : Int))) rfl ?_)
 refine O_v rfl (R_cmp (a := ((k : Nat) : Int)) (b := 32) (r := (decide (((k : Nat) : Int) < 32))) rfl rfl rfl ?_)
 refine O_nil (Then_n ?_)
 refine W_cond (t := (decide (((k : Nat) : Int) < 32))) rfl (fun hc16 => ?_) (fun hc16 => ?_)
 ·have hc16 : (((k : Nat) : Int) < 32) := (of_decide_eq_true hc16)
  refine W_skip (Then_n (W_seq (W_block (W_seq (W_seq ?_)))))
  refine W_rgd TryzMixed [(0, .q 0), (1, .q 0), (2, .q 0), (3, .q 0), (4, .q 0), (5, .q 0), (6, .q 0)] (by kernel_rfl) ?_
  refine Lx_q (i := 0) rfl rfl _ (fun v17 hv18 => R_move (v := (.int .i64 ((k : Nat) : Int))) rfl ⟨rfl, Gr.refl _ _⟩) ?_
  refine Lx_q (i := 1) rfl rfl _ (fun v19 hv20 => R_index_array (n := 32) (k := 1) (o := 0) (oo := (0 + k * 1)) (j := ((k : Nat) : Int)) Tryz.underlying44 Tryz.sizeOf5 rfl rfl (by omega) (by omega) rfl ⟨rfl, Gr.refl _ _⟩) ?_
  refine Lx_q (i := 2) rfl rfl _ (fun v21 hv22 => R_load1 (v := (.int .u8 ((nth (idList a) k).toNat : Int))) Tryz.isAgg5 rfl ((Sl.elem (Sl_box ((H15.ext hv22).getOwn 1 rfl)) (i := k) (by rw [idList_len]; omega) rfl).chunks 0 1 0 (0 + k * 1) _ rfl rfl rfl) ⟨rfl, Gr.refl _ _⟩) ?_
  refine Lx_q (i := 3) rfl rfl _ (fun v23 hv24 => R_move (v := (.int .i64 ((k : Nat) : Int))) rfl ⟨rfl, Gr.refl _ _⟩) ?_
  refine Lx_q (i := 4) rfl rfl _ (fun v25 hv26 => R_index_array (n := 32) (k := 1) (o := 0) (oo := (0 + k * 1)) (j := ((k : Nat) : Int)) Tryz.underlying44 Tryz.sizeOf5 rfl rfl (by omega) (by omega) rfl ⟨rfl, Gr.refl _ _⟩) ?_
  refine Lx_q (i := 5) rfl rfl _ (fun v27 hv28 => R_load1 (v := (.int .u8 ((nth (idList b) k).toNat : Int))) Tryz.isAgg5 rfl ((Sl.elem (Sl_box ((H15.ext hv28).getOwn 0 rfl)) (i := k) (by rw [idList_len]; omega) rfl).chunks 0 1 0 (0 + k * 1) _ rfl rfl rfl) ⟨rfl, Gr.refl _ _⟩) ?_
  refine Lx_q (i := 6) rfl rfl _ (fun v29 hv30 => R_cmp (a := ((nth (idList a) k).toNat : Int)) (b := ((nth (idList b) k).toNat : Int)) (r := (decide (((nth (idList a) k).toNat : Int) < ((nth (idList b) k).toNat : Int)))) rfl rfl rfl ⟨rfl, Gr.refl _ _⟩) ?_
  refine Lx_nil (fun w31 hw32 => ?_)
  have H33 := H15.ext hw32
  refine Then_n ?_
  refine W_cond (t := (decide (((nth (idList a) k).toNat : Int) < ((nth (idList b) k).toNat : Int)))) rfl (fun hc34 => ?_) (fun hc34 => ?_)
  ·have hc34 : (((nth (idList a) k).toNat : Int) < ((nth (idList b) k).toNat : Int)) := (of_decide_eq_true hc34)
   refine W_seq (W_reg ?_)
   refine O_v rfl (R_assign (v := (.int .i64 (-1))) rfl ?_)
   refine O_nil (Then_n (W_ret (Then_r (Blk_r (Then_r (Then_r (Blk_r (Then_r ?_))))))))
   refine ret_1 (v := (.int .i64 (-1))) Tryz.results36 rfl ?_
   exact ⟨(rcmp_lt hn (by assumption) (by assumption)), H33.gr⟩
  ·have hc34 : ¬ (((nth (idList a) k).toNat : Int) < ((nth (idList b) k).toNat : Int)) := (of_decide_eq_false hc34)
   refine W_skip (Then_n (W_seq ?_))
   refine W_rgd TryzMixed [(0, .q 0), (1, .q 0), (2, .q 0), (3, .q 0), (4, .q 0), (5, .q 0), (6, .q 0)] (by kernel_rfl) ?_
   refine Lx_q (i := 0) rfl rfl _ (fun v35 hv36 => R_move (v := (.int .i64 ((k : Nat) : Int))) rfl ⟨rfl, Gr.refl _ _⟩) ?_
   refine Lx_q (i := 1) rfl rfl _ (fun v37 hv38 => R_index_array (n := 32) (k := 1) (o := 0) (oo := (0 + k * 1)) (j := ((k : Nat) : Int)) Tryz.underlying44 Tryz.sizeOf5 rfl rfl (by omega) (by omega) rfl ⟨rfl, Gr.refl _ _⟩) ?_
   refine Lx_q (i := 2) rfl rfl _ (fun v39 hv40 => R_load1 (v := (.int .u8 ((nth (idList a) k).toNat : Int))) Tryz.isAgg5 rfl ((Sl.elem (Sl_box ((H33.ext hv40).getOwn 1 rfl)) (i := k) (by rw [idList_len]; omega) rfl).chunks 0 1 0 (0 + k * 1) _ rfl rfl rfl) ⟨rfl, Gr.refl _ _⟩) ?_
   refine Lx_q (i := 3) rfl rfl _ (fun v41 hv42 => R_move (v := (.int .i64 ((k : Nat) : Int))) rfl ⟨rfl, Gr.refl _ _⟩) ?_
   refine Lx_q (i := 4) rfl rfl _ (fun v43 hv44 => R_index_array (n := 32) (k := 1) (o := 0) (oo := (0 + k * 1)) (j := ((k : Nat) : Int)) Tryz.underlying44 Tryz.sizeOf5 rfl rfl (by omega) (by omega) rfl ⟨rfl, Gr.refl _ _⟩) ?_
   refine Lx_q (i := 5) rfl rfl _ (fun v45 hv46 => R_load1 (v := (.int .u8 ((nth (idList b) k).toNat : Int))) Tryz.isAgg5 rfl ((Sl.elem (Sl_box ((H33.ext hv46).getOwn 0 rfl)) (i := k) (by rw [idList_len]; omega) rfl).chunks 0 1 0 (0 + k * 1) _ rfl rfl rfl) ⟨rfl, Gr.refl _ _⟩) ?_
   refine Lx_q (i := 6) rfl rfl _ (fun v47 hv48 => R_cmp (a := ((nth (idList a) k).toNat : Int)) (b := ((nth (idList b) k).toNat : Int)) (r := (decide (((nth (idList b) k).toNat : Int) < ((nth (idList a) k).toNat : Int)))) rfl rfl rfl ⟨rfl, Gr.refl _ _⟩) ?_
   refine Lx_nil (fun w49 hw50 => ?_)
   have H51 := H33.ext hw50
   refine Then_n ?_
   refine W_cond (t := (decide (((nth (idList b) k).toNat : Int) < ((nth (idList a) k).toNat : Int)))) rfl (fun hc52 => ?_) (fun hc52 => ?_)
   ·have hc52 : (((nth (idList b) k).toNat : Int) < ((nth (idList a) k).toNat : Int)) := (of_decide_eq_true hc52)
    refine W_seq (W_reg ?_)
    refine O_v rfl (R_assign (v := (.int .i64 1)) rfl ?_)
    refine O_nil (Then_n (W_ret (Blk_r (Then_r (Then_r (Blk_r (Then_r ?_)))))))
    refine ret_1 (v := (.int .i64 1)) Tryz.results36 rfl ?_
    exact ⟨(rcmp_gt hn (by assumption) (by assumption)), H51.gr⟩
   ·have hc52 : ¬ (((nth (idList b) k).toNat : Int) < ((nth (idList a) k).toNat : Int)) := (of_decide_eq_false hc52)
    refine W_skip (Blk_n (Then_n (W_reg ?_)))
    refine O_v rfl (R_move (v := (.int .i64 ((k : Nat) : Int))) rfl ?_)
    refine O_v rfl (R_arith (a := ((k : Nat) : Int)) (b := 1) (r0 := ((k : Nat) : Int) + 1) (r := ((k + 1 : Nat) : Int)) rfl rfl rfl (wrapN _ (by omega)) ?_)
    refine O_v rfl (R_assign (v := (.int .i64 ((k + 1 : Nat) : Int))) rfl ?_)
    refine O_nil (Then_n ?_)
    refine ⟨_, ?_, (k + 1), rfl, (by omega), (all_succ hn (UInt8.toNat_inj.1 (by omega))), _, envL_self ⟨rfl, rfl, rfl, trivial⟩, H51⟩
    omega
 ·have hc16 : ¬ (((k : Nat) : Int) < 32) := (of_decide_eq_false hc16)
  refine W_exit (Then_x (Then_x (Blk_x (Then_n (W_seq (W_reg ?_))))))
  refine O_v rfl (R_assign (v := (.int .i64 0)) rfl ?_)
  refine O_nil (Then_n (W_ret ?_))
  refine ret_1 (v := (.int .i64 0)) Tryz.results36 rfl ?_
  exact ⟨(rcmp_eq hn (by omega)), H15.gr⟩

end Go.Proofs.YthjdhfoeckfmbaaGreat
namespace Go.Proofs.YthjdhfoeckfmbaaGreat
open Go
set_option maxRecDepth 100000
set_option linter.unusedVariables false
set_option linter.unusedSimpArgs false
set_option linter.unusedSectionVars false
variable [DD]
set_option maxHeartbeats 1000000 in
theorem ref04_zero (id : ID) (w : World) :
    Calls Tryz.prog 60 #[(aggOf (idCh id))] w (Ret fun v w' => v = (.bool (decide (id = zeroId))) ∧ Ext w w') := by
 refine calls_W Tryz.func60 rfl Tryz.ntmps60 rfl ?_
 have H0 := Ctx.start w nob
 refine W_seq (W_reg ?_)
 refine O_v rfl (C_box H0 [(idCells id)] rfl ?_)
 intro b1 w2 hb3 hx4 H5
 refine O_v rfl (R_assign (v := (.bool false)) rfl ?_)
 refine O_nil (Then_n (W_seq (W_reg ?_)))
 refine O_v rfl (R_loadA (cs := [(idCells id)]) Tryz.isAgg44 Tryz.sizeOf44 rfl rfl ((boxR_at (H5.getOwn 0 rfl)).chunks 0 1 0 0 _ rfl rfl rfl) ?_)
 refine O_v rfl (R_buildL (vs := []) (v := aggOf [(idCells zeroId)]) rfl (fun _ => by kernel_rfl) ?_)
 refine O_v rfl (R_eqv (a := id) (b := zeroId) eqv_ID44 rfl Tryz.eqGuardType44 rfl rfl ?_)
 refine O_v rfl (R_assign (v := (.bool (decide (id = zeroId)))) rfl ?_)
 refine O_nil (Then_n (W_ret ?_))
 refine ret_1 (v := (.bool (decide (id = zeroId)))) Tryz.results60 rfl ?_
 exact ⟨rfl, H5.gr⟩

end Go.Proofs.YthjdhfoeckfmbaaGreat
