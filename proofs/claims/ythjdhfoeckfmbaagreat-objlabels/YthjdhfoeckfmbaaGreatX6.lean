/- Proved: for every input, pollardlaw04.ObjLabels returns true and leaves its argument as it was. No condition. -/
import Derived.Test.YthjdhfoeckfmbaaGreatX5
namespace Go.Proofs.YthjdhfoeckfmbaaGreat
open Go
set_option maxRecDepth 100000
set_option linter.unusedVariables false
set_option linter.unusedSimpArgs false
set_option linter.unusedSectionVars false
variable [DD]
theorem ref02_GetNum_c109 : callable Tryz.prog 109 = true := by kernel_rfl
set_option maxHeartbeats 4000000 in
theorem ref02_GetNum (x : RdS) (Fx : Nat → Prop) (q : List UInt8 × Bool) (most : Int) (w : World) (Sx : Sl Fx encB 1 x.bh x.b w) (XFx : ∀ b, Fx b → b < w.heap.size) (Ex : x.st = q) :
    Calls Tryz.prog 72 #[(aggOf (rdCh x)), (.int .i64 most)] w (Ret fun v w' => ∃ X : RdS, v = .tuple #[(.int .i64 ((((rdNum q most).1) : Nat) : Int)), rdV X] ∧ Ext w w' ∧ X.st = (rdNum q most).2 ∧ Sl Fx encB 1 X.bh X.b w') := by
 refine calls_W Tryz.func72 rfl Tryz.ntmps72 rfl ?_
 have H0 := Ctx.start w nob
 have H1 := H0.addSl _ Sx (fun b hb => ⟨XFx b hb, fun _ ho => (nomatch ho)⟩)
 have LSx := Sx.len
 refine W_seq (W_reg ?_)
 refine O_v rfl (C_box H1 [[(slV x.bh x.b)], [(.bool x.bad)]] rfl ?_)
 intro b4 w5 hb6 hx7 H8
 refine O_v rfl (R_assign (v := (.int .i64 0)) rfl ?_)
 refine O_v rfl (C_alloc H8 [[(.slice none 0 0)], [(.bool false)]] Tryz.zeroValue110 ?_)
 intro b9 w10 hb11 hx12 H13
 refine O_nil (Then_n (W_seq (W_reg ?_)))
 refine O_v rfl (R_assign (v := (.int .i64 0)) rfl ?_)
 refine O_nil (Then_n (W_seq (W_reg ?_)))
 refine O_v rfl (R_assign (v := (.int .i64 1)) rfl ?_)
 refine O_nil (Then_n (W_seq (W_seq (W_reg ?_))))
 refine O_v rfl (R_assign (v := (.int .i64 0)) rfl ?_)
 refine O_nil (Then_n (W_block ?_))
 refine W_loop (fun m14 e15 w16 => ∃ (k : Nat), ∃ (u : Nat), m14 = 9 - k ∧ (k ≤ 9) ∧ (u < 2 ^ (7 * k)) ∧ (rdNumGo most (9 - k) k u (x.b.drop k, x.bad) = rdNum q most) ∧ ∃ eb17, e15 = envL [(1, (.int .i64 most)), (2, (.pointer (some ⟨b4, 0, none⟩))), (5, (.pointer (some ⟨b9, 0, none⟩))), (6, (.int .i64 ((u : Nat) : Int))), (7, (.int .i64 ((2 ^ (7 * min k 8) : Nat) : Int))), (8, (.int .i64 ((k : Nat) : Int)))] eb17 ∧ Ctx w nob w16 [boxR b9 110 [[(.slice none 0 0)], [(.bool false)]], boxR b4 110 [[(slV x.bh x.b)], [(.bool x.bad)]]] [slI Fx encB 1 x.bh x.b]) _ ⟨0, 0, rfl, (by omega), Nat.one_pos, (gn_start Ex), _, envL_self ⟨rfl, rfl, rfl, rfl, rfl, rfl, trivial⟩, H13⟩ ?_
 rintro m14 _ w16 ⟨k, u, rfl, hk, hu, hgo, eb17, rfl, H18⟩
 refine W_seq (W_seq ?_)
 refine W_rg [(0, .q 0), (1, .q 0), (2, .q 0), (3, .q 0), (4, .q 0), (5, .q 0), (6, .q 0), (7, .q 0), (8, .q 0), (9, .q 0), (10, .q 0), (11, .q 0), (12, .q 0), (13, .q 0)] (by kernel_rfl) ?_
 refine Lx_q (i := 0) rfl rfl _ (fun v19 hv20 => R_move (v := (.int .i64 ((k : Nat) : Int))) rfl ⟨rfl, Gr.refl _ _⟩) ?_
 refine Lx_q (i := 1) rfl rfl _ (fun v21 hv22 => R_fieldAddr (off := 0) (oo := 0) Tryz.underlying110 rfl rfl Tryz.sizeOf22 rfl rfl ⟨rfl, Gr.refl _ _⟩) ?_
 refine Lx_q (i := 2) rfl rfl _ (fun v23 hv24 => R_load1 (v := (slV x.bh x.b)) Tryz.isAgg22 rfl ((boxR_at ((H18.ext hv24).getOwn 1 rfl)).chunks 0 1 0 0 _ rfl rfl rfl) ⟨rfl, Gr.refl _ _⟩) ?_
 refine Lx_q (i := 3) rfl rfl _ (fun v25 hv26 => R_len_slice (a := x.bh.a) (n := x.b.length) (c := x.bh.c) Tryz.underlying22 rfl ⟨rfl, Gr.refl _ _⟩) ?_
 refine Lx_q (i := 4) rfl rfl _ (fun v27 hv28 => R_cmp (a := ((k : Nat) : Int)) (b := ((x.b.length : Nat) : Int)) (r := (decide (((k : Nat) : Int) < ((x.b.length : Nat) : Int)))) rfl rfl rfl ⟨rfl, Gr.refl _ _⟩) ?_
 refine Lx_q (i := 5) rfl rfl _ (fun v29 hv30 => R_move (v := (.bool (decide (((k : Nat) : Int) < ((x.b.length : Nat) : Int))))) rfl ⟨rfl, Gr.refl _ _⟩) ?_
 refine Lx_qg (i := 6) true (decide (((k : Nat) : Int) < ((x.b.length : Nat) : Int))) rfl rfl rfl rfl rfl (decide (((k : Nat) : Int) < ((x.b.length : Nat) : Int))) ga_t _ (fun hA v31 hv32 => R_move (v := (.int .i64 ((k : Nat) : Int))) rfl ⟨rfl, Gr.refl _ _⟩) ?_
 refine Lx_qg (i := 7) true (decide (((k : Nat) : Int) < ((x.b.length : Nat) : Int))) rfl rfl rfl rfl rfl (decide (((k : Nat) : Int) < ((x.b.length : Nat) : Int))) ga_t _ (fun hA v33 hv34 => R_cmp (a := ((k : Nat) : Int)) (b := 9) (r := (decide (((k : Nat) : Int) < 9))) (gv_t hA) rfl rfl ⟨rfl, Gr.refl _ _⟩) ?_
 refine Lx_q (i := 8) rfl rfl _ (fun v35 hv36 => R_pick (t := (decide (((k : Nat) : Int) < ((x.b.length : Nat) : Int)))) (v := (.bool ((decide (((k : Nat) : Int) < ((x.b.length : Nat) : Int))) && (decide (((k : Nat) : Int) < 9))))) rfl pk_and ⟨rfl, Gr.refl _ _⟩) ?_
 refine Lx_q (i := 9) rfl rfl _ (fun v37 hv38 => R_move (v := (.bool ((decide (((k : Nat) : Int) < ((x.b.length : Nat) : Int))) && (decide (((k : Nat) : Int) < 9))))) rfl ⟨rfl, Gr.refl _ _⟩) ?_
 refine Lx_qg (i := 10) true ((decide (((k : Nat) : Int) < ((x.b.length : Nat) : Int))) && (decide (((k : Nat) : Int) < 9))) rfl rfl rfl rfl rfl ((decide (((k : Nat) : Int) < ((x.b.length : Nat) : Int))) && (decide (((k : Nat) : Int) < 9))) ga_t _ (fun hA v39 hv40 => R_fieldAddr (off := 1) (oo := 1) Tryz.underlying110 rfl rfl Tryz.sizeOf4 rfl rfl ⟨rfl, Gr.refl _ _⟩) ?_
 refine Lx_qg (i := 11) true ((decide (((k : Nat) : Int) < ((x.b.length : Nat) : Int))) && (decide (((k : Nat) : Int) < 9))) rfl rfl rfl rfl rfl ((decide (((k : Nat) : Int) < ((x.b.length : Nat) : Int))) && (decide (((k : Nat) : Int) < 9))) ga_t _ (fun hA v41 hv42 => R_load1 (v := (.bool x.bad)) Tryz.isAgg4 (gv_t hA) ((boxR_at ((H18.ext hv42).getOwn 1 rfl)).chunks 1 1 1 1 _ rfl rfl rfl) ⟨rfl, Gr.refl _ _⟩) ?_
 refine Lx_qg (i := 12) true ((decide (((k : Nat) : Int) < ((x.b.length : Nat) : Int))) && (decide (((k : Nat) : Int) < 9))) rfl rfl rfl rfl rfl ((decide (((k : Nat) : Int) < ((x.b.length : Nat) : Int))) && (decide (((k : Nat) : Int) < 9))) ga_t _ (fun hA v43 hv44 => R_not (gv_t hA) ⟨rfl, Gr.refl _ _⟩) ?_
 refine Lx_q (i := 13) rfl rfl _ (fun v45 hv46 => R_pick (t := ((decide (((k : Nat) : Int) < ((x.b.length : Nat) : Int))) && (decide (((k : Nat) : Int) < 9)))) (v := (.bool (((decide (((k : Nat) : Int) < ((x.b.length : Nat) : Int))) && (decide (((k : Nat) : Int) < 9))) && (!x.bad)))) rfl pk_and ⟨rfl, Gr.refl _ _⟩) ?_
 refine Lx_nil (fun w47 hw48 => ?_)
 have H49 := H18.ext hw48
 refine Then_n ?_
 refine W_cond (t := (((decide (((k : Nat) : Int) < ((x.b.length : Nat) : Int))) && (decide (((k : Nat) : Int) < 9))) && (!x.bad))) rfl (fun hc50 => ?_) (fun hc50 => ?_)
 ·have hc50 : (((((k : Nat) : Int) < ((x.b.length : Nat) : Int)) ∧ (((k : Nat) : Int) < 9)) ∧ x.bad = false) := (And.imp (fun h => (And.imp (fun h => (of_decide_eq_true h)) (fun h => (of_decide_eq_true h)) (andT h))) (fun h => (notT h)) (andT hc50))
  have hC := hc50
  refine W_skip (Then_n (W_seq (W_block (W_seq (W_reg ?_)))))
  refine O_v rfl (R_fieldAddr (off := 0) (oo := 0) Tryz.underlying110 rfl rfl Tryz.sizeOf22 rfl rfl ?_)
  refine O_v rfl (R_load1 (v := (slV x.bh x.b)) Tryz.isAgg22 rfl ((boxR_at (H49.getOwn 1 rfl)).chunks 0 1 0 0 _ rfl rfl rfl) ?_)
  refine O_v rfl (R_move (v := (.int .i64 ((k : Nat) : Int))) rfl ?_)
  refine O_v rfl (R_index_pure (H49.sl 0 rfl) (n := x.b.length) rfl (j := ((k : Nat) : Int)) (oo := (x.bh.o + k * 1)) Tryz.underlying22 Tryz.sizeOf5 rfl rfl (by omega) (by omega) rfl ?_)
  refine O_v rfl (R_load1 (v := (.int .u8 ((nth x.b k).toNat : Int))) Tryz.isAgg5 rfl ((Sl.elem (H49.sl 0 rfl) (i := k) (by omega) rfl).chunks 0 1 0 (x.bh.o + k * 1) _ rfl rfl rfl) ?_)
  refine O_v rfl (R_rem (a := (((nth x.b k).toNat : Nat) : Int)) (b := ((128 : Nat) : Int)) (r := ((((nth x.b k).toNat % 128) : Nat) : Int)) rfl rfl (by decide) (tmod_nat _ _) ?_)
  refine O_v rfl (R_conv_int (a := ((((nth x.b k).toNat % 128) : Nat) : Int)) (r := ((((nth x.b k).toNat % 128) : Nat) : Int)) Tryz.underlying5 Tryz.underlying2 rfl (w64 _ (by omega)) ?_)
  refine O_v rfl (R_assign (v := (.int .i64 ((((nth x.b k).toNat % 128) : Nat) : Int))) rfl ?_)
  refine O_nil (Then_n (W_seq (W_seq ?_)))
  refine W_rg [(0, .q 0), (1, .q 0), (2, .q 0), (3, .q 0), (4, .q 0), (5, .q 0)] (by kernel_rfl) ?_
  refine Lx_q (i := 0) rfl rfl _ (fun v51 hv52 => R_move (v := (.int .i64 ((k : Nat) : Int))) rfl ⟨rfl, Gr.refl _ _⟩) ?_
  refine Lx_q (i := 1) rfl rfl _ (fun v53 hv54 => R_cmp (a := ((k : Nat) : Int)) (b := 8) (r := (decide (((k : Nat) : Int) = 8))) rfl rfl rfl ⟨rfl, Gr.refl _ _⟩) ?_
  refine Lx_q (i := 2) rfl rfl _ (fun v55 hv56 => R_move (v := (.bool (decide (((k : Nat) : Int) = 8)))) rfl ⟨rfl, Gr.refl _ _⟩) ?_
  refine Lx_qg (i := 3) true (decide (((k : Nat) : Int) = 8)) rfl rfl rfl rfl rfl (decide (((k : Nat) : Int) = 8)) ga_t _ (fun hA v57 hv58 => R_move (v := (.int .i64 ((((nth x.b k).toNat % 128) : Nat) : Int))) rfl ⟨rfl, Gr.refl _ _⟩) ?_
  refine Lx_qg (i := 4) true (decide (((k : Nat) : Int) = 8)) rfl rfl rfl rfl rfl (decide (((k : Nat) : Int) = 8)) ga_t _ (fun hA v59 hv60 => R_cmp (a := ((((nth x.b k).toNat % 128) : Nat) : Int)) (b := 64) (r := (decide (64 < ((((nth x.b k).toNat % 128) : Nat) : Int)))) (gv_t hA) rfl rfl ⟨rfl, Gr.refl _ _⟩) ?_
  refine Lx_q (i := 5) rfl rfl _ (fun v61 hv62 => R_pick (t := (decide (((k : Nat) : Int) = 8))) (v := (.bool ((decide (((k : Nat) : Int) = 8)) && (decide (64 < ((((nth x.b k).toNat % 128) : Nat) : Int)))))) rfl pk_and ⟨rfl, Gr.refl _ _⟩) ?_
  refine Lx_nil (fun w63 hw64 => ?_)
  have H65 := H49.ext hw64
  refine Then_n ?_
  refine W_cond (t := ((decide (((k : Nat) : Int) = 8)) && (decide (64 < ((((nth x.b k).toNat % 128) : Nat) : Int))))) rfl (fun hc66 => ?_) (fun hc66 => ?_)
  ·have hc66 : ((((k : Nat) : Int) = 8) ∧ (64 < ((((nth x.b k).toNat % 128) : Nat) : Int))) := (And.imp (fun h => (of_decide_eq_true h)) (fun h => (of_decide_eq_true h)) (andT hc66))
   refine W_seq (W_reg ?_)
   refine O_v rfl (R_callL (vs := []) ref02_GetNum_c109 rfl rfl ((ref02_failed  w63 ).ret ?_))
   rintro _ w68 ⟨x67, rfl, hx69, hr70, hs71⟩
   have H72 := H65.ext hx69
   have H73 := H72.addImm' (slI nob encB 1 x67.bh x67.b) hs71 (fun _ h => h.elim)
   refine O_v rfl (R_assign (v := (.int .i64 0)) rfl ?_)
   refine O_u (C_storeA H73 0 rfl 0 (sub := [[(slV x67.bh x67.b)], [(.bool x67.bad)]]) [[(slV x67.bh x67.b)], [(.bool x67.bad)]] Tryz.sizeOf110 rfl rfl rfl rfl ⟨[[(.slice none 0 0)], [(.bool false)]], [], rfl, rfl, rfl⟩ rfl ?_)
   intro w74 hg75 H76
   refine O_nil (Then_n (W_ret (Then_r (Blk_r (Then_r (Then_r (Blk_r (Then_r ?_))))))))
   refine ret_tc (v := (.int .i64 0)) Tryz.results72 rfl (inMem (cs := [[(slV x67.bh x67.b)], [(.bool x67.bad)]]) rfl Tryz.isAgg110 Tryz.sizeOf110 rfl (boxR_at (H76.getOwn 0 rfl))) ?_
   exact ⟨x67, (two_val (gn_8 hgo hu hC (by assumption))), H76.gr, (hr70.trans (congrArg Prod.snd (gn_8 hgo hu hC (by assumption)))), ((H76.sl 0 rfl).mono (fun _ h => h.elim))⟩
  ·have hc66 : (¬ (((k : Nat) : Int) = 8) ∨ ¬ (64 < ((((nth x.b k).toNat % 128) : Nat) : Int))) := (Or.imp (fun h => (of_decide_eq_false h)) (fun h => (of_decide_eq_false h)) (andF hc66))
   have hM := gn_mul (x := (nth x.b k).toNat) (show k < 9 by omega) hc66
   have hU := gn_small hu (show k < 9 by omega)
   refine W_skip (Then_n (W_seq (W_reg ?_)))
   refine O_v rfl (R_move (v := (.int .i64 ((u : Nat) : Int))) rfl ?_)
   refine O_v rfl (R_move (v := (.int .i64 ((((nth x.b k).toNat % 128) : Nat) : Int))) rfl ?_)
   refine O_v rfl (R_move (v := (.int .i64 ((2 ^ (7 * min k 8) : Nat) : Int))) rfl ?_)
   refine O_v rfl (R_arith (a := ((((nth x.b k).toNat % 128) : Nat) : Int)) (b := ((2 ^ (7 * min k 8) : Nat) : Int)) (r0 := ((((nth x.b k).toNat % 128) : Nat) : Int) * ((2 ^ (7 * min k 8) : Nat) : Int)) (r := ((((nth x.b k).toNat % 128 * 2 ^ (7 * min k 8)) : Nat) : Int)) rfl rfl rfl (by rw [← Int.natCast_mul]; exact w64 _ (by omega)) ?_)
   refine O_v rfl (R_arith (a := ((u : Nat) : Int)) (b := ((((nth x.b k).toNat % 128 * 2 ^ (7 * min k 8)) : Nat) : Int)) (r0 := ((u : Nat) : Int) + ((((nth x.b k).toNat % 128 * 2 ^ (7 * min k 8)) : Nat) : Int)) (r := (((u + (nth x.b k).toNat % 128 * 2 ^ (7 * min k 8)) : Nat) : Int)) rfl rfl rfl (by rw [← Int.natCast_add]; exact w64 _ (by omega)) ?_)
   refine O_v rfl (R_assign (v := (.int .i64 (((u + (nth x.b k).toNat % 128 * 2 ^ (7 * min k 8)) : Nat) : Int))) rfl ?_)
   refine O_nil (Then_n (W_seq (W_seq (W_reg ?_))))
   refine O_v rfl (R_fieldAddr (off := 0) (oo := 0) Tryz.underlying110 rfl rfl Tryz.sizeOf22 rfl rfl ?_)
   refine O_v rfl (R_load1 (v := (slV x.bh x.b)) Tryz.isAgg22 rfl ((boxR_at (H65.getOwn 1 rfl)).chunks 0 1 0 0 _ rfl rfl rfl) ?_)
   refine O_v rfl (R_move (v := (.int .i64 ((k : Nat) : Int))) rfl ?_)
   refine O_v rfl (R_index_pure (H65.sl 0 rfl) (n := x.b.length) rfl (j := ((k : Nat) : Int)) (oo := (x.bh.o + k * 1)) Tryz.underlying22 Tryz.sizeOf5 rfl rfl (by omega) (by omega) rfl ?_)
   refine O_v rfl (R_load1 (v := (.int .u8 ((nth x.b k).toNat : Int))) Tryz.isAgg5 rfl ((Sl.elem (H65.sl 0 rfl) (i := k) (by omega) rfl).chunks 0 1 0 (x.bh.o + k * 1) _ rfl rfl rfl) ?_)
   refine O_v rfl (R_cmp (a := ((nth x.b k).toNat : Int)) (b := 128) (r := (decide (((nth x.b k).toNat : Int) < 128))) rfl rfl rfl ?_)
   refine O_nil (Then_n ?_)
   refine W_cond (t := (decide (((nth x.b k).toNat : Int) < 128))) rfl (fun hc77 => ?_) (fun hc77 => ?_)
   ·have hc77 : (((nth x.b k).toNat : Int) < 128) := (of_decide_eq_true hc77)
    have hB := hc77
    refine W_seq (W_seq ?_)
    refine W_rg [(0, .q 0), (1, .q 0), (2, .q 0), (3, .q 0), (4, .q 0), (5, .q 0), (6, .q 0), (7, .q 0), (8, .q 0), (9, .q 0), (10, .q 0), (11, .q 0), (12, .q 0), (13, .q 0), (14, .q 0), (15, .q 0), (16, .q 0), (17, .q 0), (18, .q 0)] (by kernel_rfl) ?_
    refine Lx_q (i := 0) rfl rfl _ (fun v78 hv79 => R_fieldAddr (off := 0) (oo := 0) Tryz.underlying110 rfl rfl Tryz.sizeOf22 rfl rfl ⟨rfl, Gr.refl _ _⟩) ?_
    refine Lx_q (i := 1) rfl rfl _ (fun v80 hv81 => R_load1 (v := (slV x.bh x.b)) Tryz.isAgg22 rfl ((boxR_at ((H65.ext hv81).getOwn 1 rfl)).chunks 0 1 0 0 _ rfl rfl rfl) ⟨rfl, Gr.refl _ _⟩) ?_
    refine Lx_q (i := 2) rfl rfl _ (fun v82 hv83 => R_move (v := (.int .i64 ((k : Nat) : Int))) rfl ⟨rfl, Gr.refl _ _⟩) ?_
    refine Lx_q (i := 3) rfl rfl _ (fun v84 hv85 => R_index_pure (H65.sl 0 rfl) (n := x.b.length) rfl (j := ((k : Nat) : Int)) (oo := (x.bh.o + k * 1)) Tryz.underlying22 Tryz.sizeOf5 rfl rfl (by omega) (by omega) rfl ⟨rfl, Gr.refl _ _⟩) ?_
    refine Lx_q (i := 4) rfl rfl _ (fun v86 hv87 => R_load1 (v := (.int .u8 ((nth x.b k).toNat : Int))) Tryz.isAgg5 rfl ((Sl.elem ((H65.ext hv87).sl 0 rfl) (i := k) (by omega) rfl).chunks 0 1 0 (x.bh.o + k * 1) _ rfl rfl rfl) ⟨rfl, Gr.refl _ _⟩) ?_
    refine Lx_q (i := 5) rfl rfl _ (fun v88 hv89 => R_cmp (a := ((nth x.b k).toNat : Int)) (b := 0) (r := (decide (((nth x.b k).toNat : Int) = 0))) rfl rfl rfl ⟨rfl, Gr.refl _ _⟩) ?_
    refine Lx_q (i := 6) rfl rfl _ (fun v90 hv91 => R_move (v := (.bool (decide (((nth x.b k).toNat : Int) = 0)))) rfl ⟨rfl, Gr.refl _ _⟩) ?_
    refine Lx_qg (i := 7) true (decide (((nth x.b k).toNat : Int) = 0)) rfl rfl rfl rfl rfl (decide (((nth x.b k).toNat : Int) = 0)) ga_t _ (fun hA v92 hv93 => R_move (v := (.int .i64 ((k : Nat) : Int))) rfl ⟨rfl, Gr.refl _ _⟩) ?_
    refine Lx_qg (i := 8) true (decide (((nth x.b k).toNat : Int) = 0)) rfl rfl rfl rfl rfl (decide (((nth x.b k).toNat : Int) = 0)) ga_t _ (fun hA v94 hv95 => R_cmp (a := ((k : Nat) : Int)) (b := 0) (r := (decide (0 < ((k : Nat) : Int)))) (gv_t hA) rfl rfl ⟨rfl, Gr.refl _ _⟩) ?_
    refine Lx_q (i := 9) rfl rfl _ (fun v96 hv97 => R_pick (t := (decide (((nth x.b k).toNat : Int) = 0))) (v := (.bool ((decide (((nth x.b k).toNat : Int) = 0)) && (decide (0 < ((k : Nat) : Int)))))) rfl pk_and ⟨rfl, Gr.refl _ _⟩) ?_
    refine Lx_q (i := 10) rfl rfl _ (fun v98 hv99 => R_move (v := (.bool ((decide (((nth x.b k).toNat : Int) = 0)) && (decide (0 < ((k : Nat) : Int)))))) rfl ⟨rfl, Gr.refl _ _⟩) ?_
    refine Lx_qg (i := 11) true ((decide (((nth x.b k).toNat : Int) = 0)) && (decide (0 < ((k : Nat) : Int)))) rfl rfl rfl rfl rfl (!((decide (((nth x.b k).toNat : Int) = 0)) && (decide (0 < ((k : Nat) : Int))))) ga_f _ (fun hA v100 hv101 => R_move (v := (.int .i64 (((u + (nth x.b k).toNat % 128 * 2 ^ (7 * min k 8)) : Nat) : Int))) rfl ⟨rfl, Gr.refl _ _⟩) ?_
    refine Lx_qg (i := 12) true ((decide (((nth x.b k).toNat : Int) = 0)) && (decide (0 < ((k : Nat) : Int)))) rfl rfl rfl rfl rfl (!((decide (((nth x.b k).toNat : Int) = 0)) && (decide (0 < ((k : Nat) : Int))))) ga_f _ (fun hA v102 hv103 => R_cmp (a := (((u + (nth x.b k).toNat % 128 * 2 ^ (7 * min k 8)) : Nat) : Int)) (b := 4611686018427387904) (r := (decide (4611686018427387904 < (((u + (nth x.b k).toNat % 128 * 2 ^ (7 * min k 8)) : Nat) : Int)))) (gv_t hA) rfl rfl ⟨rfl, Gr.refl _ _⟩) ?_
    refine Lx_q (i := 13) rfl rfl _ (fun v104 hv105 => R_pick (t := ((decide (((nth x.b k).toNat : Int) = 0)) && (decide (0 < ((k : Nat) : Int))))) (v := (.bool (((decide (((nth x.b k).toNat : Int) = 0)) && (decide (0 < ((k : Nat) : Int)))) || (decide (4611686018427387904 < (((u + (nth x.b k).toNat % 128 * 2 ^ (7 * min k 8)) : Nat) : Int)))))) rfl pk_or ⟨rfl, Gr.refl _ _⟩) ?_
    refine Lx_q (i := 14) rfl rfl _ (fun v106 hv107 => R_move (v := (.bool (((decide (((nth x.b k).toNat : Int) = 0)) && (decide (0 < ((k : Nat) : Int)))) || (decide (4611686018427387904 < (((u + (nth x.b k).toNat % 128 * 2 ^ (7 * min k 8)) : Nat) : Int)))))) rfl ⟨rfl, Gr.refl _ _⟩) ?_
    refine Lx_qg (i := 15) true (((decide (((nth x.b k).toNat : Int) = 0)) && (decide (0 < ((k : Nat) : Int)))) || (decide (4611686018427387904 < (((u + (nth x.b k).toNat % 128 * 2 ^ (7 * min k 8)) : Nat) : Int)))) rfl rfl rfl rfl rfl (!(((decide (((nth x.b k).toNat : Int) = 0)) && (decide (0 < ((k : Nat) : Int)))) || (decide (4611686018427387904 < (((u + (nth x.b k).toNat % 128 * 2 ^ (7 * min k 8)) : Nat) : Int))))) ga_f _ (fun hA v108 hv109 => R_move (v := (.int .i64 (((u + (nth x.b k).toNat % 128 * 2 ^ (7 * min k 8)) : Nat) : Int))) rfl ⟨rfl, Gr.refl _ _⟩) ?_
    refine Lx_qg (i := 16) true (((decide (((nth x.b k).toNat : Int) = 0)) && (decide (0 < ((k : Nat) : Int)))) || (decide (4611686018427387904 < (((u + (nth x.b k).toNat % 128 * 2 ^ (7 * min k 8)) : Nat) : Int)))) rfl rfl rfl rfl rfl (!(((decide (((nth x.b k).toNat : Int) = 0)) && (decide (0 < ((k : Nat) : Int)))) || (decide (4611686018427387904 < (((u + (nth x.b k).toNat % 128 * 2 ^ (7 * min k 8)) : Nat) : Int))))) ga_f _ (fun hA v110 hv111 => R_move (v := (.int .i64 most)) rfl ⟨rfl, Gr.refl _ _⟩) ?_
    refine Lx_qg (i := 17) true (((decide (((nth x.b k).toNat : Int) = 0)) && (decide (0 < ((k : Nat) : Int)))) || (decide (4611686018427387904 < (((u + (nth x.b k).toNat % 128 * 2 ^ (7 * min k 8)) : Nat) : Int)))) rfl rfl rfl rfl rfl (!(((decide (((nth x.b k).toNat : Int) = 0)) && (decide (0 < ((k : Nat) : Int)))) || (decide (4611686018427387904 < (((u + (nth x.b k).toNat % 128 * 2 ^ (7 * min k 8)) : Nat) : Int))))) ga_f _ (fun hA v112 hv113 => R_cmp (a := (((u + (nth x.b k).toNat % 128 * 2 ^ (7 * min k 8)) : Nat) : Int)) (b := most) (r := (decide (most < (((u + (nth x.b k).toNat % 128 * 2 ^ (7 * min k 8)) : Nat) : Int)))) (gv_t hA) (gv_t hA) rfl ⟨rfl, Gr.refl _ _⟩) ?_
    refine Lx_q (i := 18) rfl rfl _ (fun v114 hv115 => R_pick (t := (((decide (((nth x.b k).toNat : Int) = 0)) && (decide (0 < ((k : Nat) : Int)))) || (decide (4611686018427387904 < (((u + (nth x.b k).toNat % 128 * 2 ^ (7 * min k 8)) : Nat) : Int))))) (v := (.bool ((((decide (((nth x.b k).toNat : Int) = 0)) && (decide (0 < ((k : Nat) : Int)))) || (decide (4611686018427387904 < (((u + (nth x.b k).toNat % 128 * 2 ^ (7 * min k 8)) : Nat) : Int)))) || (decide (most < (((u + (nth x.b k).toNat % 128 * 2 ^ (7 * min k 8)) : Nat) : Int)))))) rfl pk_or ⟨rfl, Gr.refl _ _⟩) ?_
    refine Lx_nil (fun w116 hw117 => ?_)
    have H118 := H65.ext hw117
    refine Then_n ?_
    refine W_cond (t := ((((decide (((nth x.b k).toNat : Int) = 0)) && (decide (0 < ((k : Nat) : Int)))) || (decide (4611686018427387904 < (((u + (nth x.b k).toNat % 128 * 2 ^ (7 * min k 8)) : Nat) : Int)))) || (decide (most < (((u + (nth x.b k).toNat % 128 * 2 ^ (7 * min k 8)) : Nat) : Int))))) rfl (fun hc119 => ?_) (fun hc119 => ?_)
    ·have hc119 : ((((((nth x.b k).toNat : Int) = 0) ∧ (0 < ((k : Nat) : Int))) ∨ (4611686018427387904 < (((u + (nth x.b k).toNat % 128 * 2 ^ (7 * min k 8)) : Nat) : Int))) ∨ (most < (((u + (nth x.b k).toNat % 128 * 2 ^ (7 * min k 8)) : Nat) : Int))) := (Or.imp (fun h => (Or.imp (fun h => (And.imp (fun h => (of_decide_eq_true h)) (fun h => (of_decide_eq_true h)) (andT h))) (fun h => (of_decide_eq_true h)) (orT h))) (fun h => (of_decide_eq_true h)) (orT hc119))
     refine W_seq (W_reg ?_)
     refine O_v rfl (R_callL (vs := []) ref02_GetNum_c109 rfl rfl ((ref02_failed  w116 ).ret ?_))
     rintro _ w121 ⟨x120, rfl, hx122, hr123, hs124⟩
     have H125 := H118.ext hx122
     have H126 := H125.addImm' (slI nob encB 1 x120.bh x120.b) hs124 (fun _ h => h.elim)
     refine O_v rfl (R_assign (v := (.int .i64 0)) rfl ?_)
     refine O_u (C_storeA H126 0 rfl 0 (sub := [[(slV x120.bh x120.b)], [(.bool x120.bad)]]) [[(slV x120.bh x120.b)], [(.bool x120.bad)]] Tryz.sizeOf110 rfl rfl rfl rfl ⟨[[(.slice none 0 0)], [(.bool false)]], [], rfl, rfl, rfl⟩ rfl ?_)
     intro w127 hg128 H129
     refine O_nil (Then_n (W_ret (Then_r (Then_r (Blk_r (Then_r (Then_r (Blk_r (Then_r ?_)))))))))
     refine ret_tc (v := (.int .i64 0)) Tryz.results72 rfl (inMem (cs := [[(slV x120.bh x120.b)], [(.bool x120.bad)]]) rfl Tryz.isAgg110 Tryz.sizeOf110 rfl (boxR_at (H129.getOwn 0 rfl))) ?_
     exact ⟨x120, (two_val (gn_no hgo hu hC hB (by assumption))), H129.gr, (hr123.trans (congrArg Prod.snd (gn_no hgo hu hC hB (by assumption)))), ((H129.sl 0 rfl).mono (fun _ h => h.elim))⟩
    ·have hc119 : (((¬ (((nth x.b k).toNat : Int) = 0) ∨ ¬ (0 < ((k : Nat) : Int))) ∧ ¬ (4611686018427387904 < (((u + (nth x.b k).toNat % 128 * 2 ^ (7 * min k 8)) : Nat) : Int))) ∧ ¬ (most < (((u + (nth x.b k).toNat % 128 * 2 ^ (7 * min k 8)) : Nat) : Int))) := (And.imp (fun h => (And.imp (fun h => (Or.imp (fun h => (of_decide_eq_false h)) (fun h => (of_decide_eq_false h)) (andF h))) (fun h => (of_decide_eq_false h)) (orF h))) (fun h => (of_decide_eq_false h)) (orF hc119))
     refine W_skip (Then_n (W_seq ?_))
     refine W_rgdM TryzMixed nob (fun i => if i == 8 then 2 else 0) [(0, .q 2), (1, .q 2), (2, .q 0), (3, .q 2), (4, .q 2), (5, .q 2), (6, .q 2), (7, .q 2), (8, .c 2)] (by kernel_rfl) ?_
     refine Lx_q (i := 0) rfl rfl _ (fun v130 hv131 => R_move (v := (.int .i64 (((u + (nth x.b k).toNat % 128 * 2 ^ (7 * min k 8)) : Nat) : Int))) rfl ⟨rfl, Gr.refl _ _⟩) ?_
     refine Lx_q (i := 1) rfl rfl _ (fun v132 hv133 => R_fieldAddr (off := 0) (oo := 0) Tryz.underlying110 rfl rfl Tryz.sizeOf22 rfl rfl ⟨rfl, Gr.refl _ _⟩) ?_
     refine Lx_q (i := 2) rfl rfl _ (fun v134 hv135 => R_load1 (v := (slV x.bh x.b)) Tryz.isAgg22 rfl ((boxR_at ((H118.ext hv135).getOwn 1 rfl)).chunks 0 1 0 0 _ rfl rfl rfl) ⟨rfl, Gr.refl _ _⟩) ?_
     refine Lx_q (i := 3) rfl rfl _ (fun v136 hv137 => R_move (v := (.int .i64 ((k : Nat) : Int))) rfl ⟨rfl, Gr.refl _ _⟩) ?_
     refine Lx_q (i := 4) rfl rfl _ (fun v138 hv139 => R_arith (a := ((k : Nat) : Int)) (b := 1) (r0 := ((k : Nat) : Int) + 1) (r := ((k + 1 : Nat) : Int)) rfl rfl rfl (wrapN _ (by omega)) ⟨rfl, Gr.refl _ _⟩) ?_
     refine Lx_q (i := 5) rfl rfl _ (fun v140 hv141 => R_sliceS (h := x.bh) (l := x.b) (a := (k + 1)) (b := x.b.length) (m := x.bh.c) (x.b.drop (k + 1)) Tryz.underlying22 Tryz.sizeOf5 rfl rfl rfl rfl (by decide) (by omega) (by first | omega | exact Nat.le_refl _) (by have := Sl.cap (H118.sl 0 rfl); omega) (by first | omega | exact Nat.le_refl _ | (have := Sl.cap (H118.sl 0 rfl); omega)) (by rw [List.take_length])  ⟨rfl, Gr.refl _ _⟩) ?_
     refine Lx_q (i := 6) rfl rfl _ (fun v142 hv143 => R_buildL (vs := [(0, (slV (hSub x.bh 1 (k + 1) x.bh.c) (x.b.drop (k + 1)))), (1, (.bool false))]) (v := aggOf [[(slV (hSub x.bh 1 (k + 1) x.bh.c) (x.b.drop (k + 1)))], [(.bool false)]]) rfl (fun _ => by kernel_rfl) ⟨rfl, Gr.refl _ _⟩) ?_
     refine Lx_q (i := 7) rfl rfl _ (fun v144 hv145 => R_assign (v := (.int .i64 (((u + (nth x.b k).toNat % 128 * 2 ^ (7 * min k 8)) : Nat) : Int))) rfl ⟨rfl, Gr.refl _ _⟩) ?_
     refine Lx_cu (i := 8) rfl (fun w146 hw147 => ?_)
     have H148 := H118.ext hw147
     refine (C_storeA H148 0 rfl 0 (sub := [[(slV (hSub x.bh 1 (k + 1) x.bh.c) (x.b.drop (k + 1)))], [(.bool false)]]) [[(slV (hSub x.bh 1 (k + 1) x.bh.c) (x.b.drop (k + 1)))], [(.bool false)]] Tryz.sizeOf110 rfl rfl rfl rfl ⟨[[(.slice none 0 0)], [(.bool false)]], [], rfl, rfl, rfl⟩ rfl ?_)
     intro w149 hg150 H151
     refine ⟨Gr.mono (M' := fun _ => True) hg150 (fun _ _ => trivial), ?_⟩
     refine Lx_nil (fun w152 hw153 => ?_)
     have H154 := H151.ext hw153
     refine Then_n (W_ret (Then_r (Blk_r (Then_r (Then_r (Blk_r (Then_r ?_)))))))
     refine ret_tc (v := (.int .i64 (((u + (nth x.b k).toNat % 128 * 2 ^ (7 * min k 8)) : Nat) : Int))) Tryz.results72 rfl (inMem (cs := [[(slV (hSub x.bh 1 (k + 1) x.bh.c) (x.b.drop (k + 1)))], [(.bool false)]]) rfl Tryz.isAgg110 Tryz.sizeOf110 rfl (boxR_at (H154.getOwn 0 rfl))) ?_
     exact ⟨({ b := x.b.drop (k + 1), bh := hSub x.bh 1 (k + 1) x.bh.c, bad := false } : RdS), (two_val (gn_yes hgo hu hC hB (by assumption))), H154.gr, (congrArg Prod.snd (gn_yes hgo hu hC hB (by assumption))), (Sl.sub (H154.sl 0 rfl) (k + 1) x.b.length x.bh.c (by omega) (by first | omega | exact Nat.le_refl _) (by have := Sl.cap (H118.sl 0 rfl); omega) (by first | omega | exact Nat.le_refl _ | (have := Sl.cap (H118.sl 0 rfl); omega)) (by rw [List.take_length]))⟩
   ·have hc77 : ¬ (((nth x.b k).toNat : Int) < 128) := (of_decide_eq_false hc77)
    have hB := hc77
    refine W_skip (Then_n (W_seq (W_reg ?_)))
    refine O_v rfl (R_move (v := (.int .i64 ((k : Nat) : Int))) rfl ?_)
    refine O_v rfl (R_cmp (a := ((k : Nat) : Int)) (b := 8) (r := (decide (((k : Nat) : Int) < 8))) rfl rfl rfl ?_)
    refine O_nil (Then_n ?_)
    refine W_cond (t := (decide (((k : Nat) : Int) < 8))) rfl (fun hc155 => ?_) (fun hc155 => ?_)
    ·have hc155 : (((k : Nat) : Int) < 8) := (of_decide_eq_true hc155)
     refine W_reg ?_
     refine O_v rfl (R_move (v := (.int .i64 ((2 ^ (7 * min k 8) : Nat) : Int))) rfl ?_)
     refine O_v rfl (R_arith (a := ((2 ^ (7 * min k 8) : Nat) : Int)) (b := 128) (r0 := ((2 ^ (7 * min k 8) : Nat) : Int) * 128) (r := (((2 ^ (7 * min k 8) * 128) : Nat) : Int)) rfl rfl rfl (by have := gn_unit (k := k) (by omega); rw [show (128 : Int) = ((128 : Nat) : Int) from rfl, ← Int.natCast_mul]; exact w64 _ (by omega)) ?_)
     refine O_v rfl (R_assign (v := (.int .i64 (((2 ^ (7 * min k 8) * 128) : Nat) : Int))) rfl ?_)
     refine O_nil (Blk_n (Then_n (W_reg ?_)))
     refine O_v rfl (R_move (v := (.int .i64 ((k : Nat) : Int))) rfl ?_)
     refine O_v rfl (R_arith (a := ((k : Nat) : Int)) (b := 1) (r0 := ((k : Nat) : Int) + 1) (r := ((k + 1 : Nat) : Int)) rfl rfl rfl (wrapN _ (by omega)) ?_)
     refine O_v rfl (R_assign (v := (.int .i64 ((k + 1 : Nat) : Int))) rfl ?_)
     refine O_nil (Then_n ?_)
     refine ⟨_, ?_, (k + 1), (u + (nth x.b k).toNat % 128 * 2 ^ (7 * min k 8)), rfl, (by omega), (gn_lt hu (by omega)), (gn_next hgo hu hC hB), _, envL_self ⟨rfl, rfl, rfl, rfl, (by first | exact gn_unitA (by omega) | exact gn_unitB (by omega)), rfl, trivial⟩, H65⟩
     omega
    ·have hc155 : ¬ (((k : Nat) : Int) < 8) := (of_decide_eq_false hc155)
     refine W_skip (Blk_n (Then_n (W_reg ?_)))
     refine O_v rfl (R_move (v := (.int .i64 ((k : Nat) : Int))) rfl ?_)
     refine O_v rfl (R_arith (a := ((k : Nat) : Int)) (b := 1) (r0 := ((k : Nat) : Int) + 1) (r := ((k + 1 : Nat) : Int)) rfl rfl rfl (wrapN _ (by omega)) ?_)
     refine O_v rfl (R_assign (v := (.int .i64 ((k + 1 : Nat) : Int))) rfl ?_)
     refine O_nil (Then_n ?_)
     refine ⟨_, ?_, (k + 1), (u + (nth x.b k).toNat % 128 * 2 ^ (7 * min k 8)), rfl, (by omega), (gn_lt hu (by omega)), (gn_next hgo hu hC hB), _, envL_self ⟨rfl, rfl, rfl, rfl, (by first | exact gn_unitA (by omega) | exact gn_unitB (by omega)), rfl, trivial⟩, H65⟩
     omega
 ·have hc50 : ((¬ (((k : Nat) : Int) < ((x.b.length : Nat) : Int)) ∨ ¬ (((k : Nat) : Int) < 9)) ∨ x.bad = true) := (Or.imp (fun h => (Or.imp (fun h => (of_decide_eq_false h)) (fun h => (of_decide_eq_false h)) (andF h))) (fun h => (notF h)) (andF hc50))
  refine W_exit (Then_x (Then_x (Blk_x (Then_n (W_seq (W_reg ?_))))))
  refine O_v rfl (R_callL (vs := []) ref02_GetNum_c109 rfl rfl ((ref02_failed  w47 ).ret ?_))
  rintro _ w157 ⟨x156, rfl, hx158, hr159, hs160⟩
  have H161 := H49.ext hx158
  have H162 := H161.addImm' (slI nob encB 1 x156.bh x156.b) hs160 (fun _ h => h.elim)
  refine O_v rfl (R_assign (v := (.int .i64 0)) rfl ?_)
  refine O_u (C_storeA H162 0 rfl 0 (sub := [[(slV x156.bh x156.b)], [(.bool x156.bad)]]) [[(slV x156.bh x156.b)], [(.bool x156.bad)]] Tryz.sizeOf110 rfl rfl rfl rfl ⟨[[(.slice none 0 0)], [(.bool false)]], [], rfl, rfl, rfl⟩ rfl ?_)
  intro w163 hg164 H165
  refine O_nil (Then_n (W_ret ?_))
  refine ret_tc (v := (.int .i64 0)) Tryz.results72 rfl (inMem (cs := [[(slV x156.bh x156.b)], [(.bool x156.bad)]]) rfl Tryz.isAgg110 Tryz.sizeOf110 rfl (boxR_at (H165.getOwn 0 rfl))) ?_
  exact ⟨x156, (two_val (gn_end hgo hk (by assumption))), H165.gr, (hr159.trans (congrArg Prod.snd (gn_end hgo hk (by assumption)))), ((H165.sl 0 rfl).mono (fun _ h => h.elim))⟩

end Go.Proofs.YthjdhfoeckfmbaaGreat
namespace Go.Proofs.YthjdhfoeckfmbaaGreat
open Go
set_option maxRecDepth 100000
set_option linter.unusedVariables false
set_option linter.unusedSimpArgs false
set_option linter.unusedSectionVars false
variable [DD]
theorem ref02_GetText_c72 : callable Tryz.prog 72 = true := by kernel_rfl
theorem ref02_GetText_c109 : callable Tryz.prog 109 = true := by kernel_rfl
set_option maxHeartbeats 1000000 in
theorem ref02_GetText (x : RdS) (Fx : Nat → Prop) (q : List UInt8 × Bool) (most : Int) (w : World) (Sx : Sl Fx encB 1 x.bh x.b w) (XFx : ∀ b, Fx b → b < w.heap.size) (Ex : x.st = q) :
    Calls Tryz.prog 78 #[(aggOf (rdCh x)), (.int .i64 most)] w (Ret fun v w' => ∃ X : RdS, v = .tuple #[(.string ((rdText q most).1)), rdV X] ∧ Ext w w' ∧ X.st = (rdText q most).2 ∧ Sl Fx encB 1 X.bh X.b w') := by
 refine calls_W Tryz.func78 rfl Tryz.ntmps78 rfl ?_
 have H0 := Ctx.start w nob
 have H1 := H0.addSl _ Sx (fun b hb => ⟨XFx b hb, fun _ ho => (nomatch ho)⟩)
 have LSx := Sx.len
 refine W_seq (W_reg ?_)
 refine O_v rfl (C_box H1 [[(slV x.bh x.b)], [(.bool x.bad)]] rfl ?_)
 intro b4 w5 hb6 hx7 H8
 refine O_v rfl (R_assign (v := (.string ByteArray.empty)) rfl ?_)
 refine O_v rfl (C_alloc H8 [[(.slice none 0 0)], [(.bool false)]] Tryz.zeroValue110 ?_)
 intro b9 w10 hb11 hx12 H13
 refine O_nil (Then_n (W_seq (W_reg ?_)))
 refine O_v rfl (R_loadA (cs := [[(slV x.bh x.b)], [(.bool x.bad)]]) Tryz.isAgg110 Tryz.sizeOf110 rfl rfl ((boxR_at (H13.getOwn 1 rfl)).chunks 0 2 0 0 _ rfl rfl rfl) ?_)
 refine O_v rfl (R_move (v := (.int .i64 most)) rfl ?_)
 refine O_v rfl (R_callL (vs := [(aggOf (rdCh x)), (.int .i64 most)]) ref02_GetText_c72 rfl rfl ((ref02_GetNum x Fx q most w10 (H13.sl 0 rfl) (H13.imm _ (List.mem_of_getElem? (i := 0) rfl)).2 Ex).ret ?_))
 rintro _ w15 ⟨x14, rfl, hx16, hr17, hs18⟩
 have H19 := H13.ext hx16
 have H20 := H19.immOf 0 rfl (slI Fx encB 1 x14.bh x14.b) (fun _ h => h) (fun _ => hs18)
 refine O_v rfl (R_move (v := (.tuple #[(.int .i64 ((((rdNum q most).1) : Nat) : Int)), (aggOf (rdCh x14))])) rfl ?_)
 refine O_v rfl (R_extract (v := (.int .i64 ((((rdNum q most).1) : Nat) : Int))) rfl rfl ?_)
 refine O_v rfl (R_extract (v := (aggOf (rdCh x14))) rfl rfl ?_)
 refine O_v rfl (C_alloc H20 [[(.slice none 0 0)], [(.bool false)]] Tryz.zeroValue110 ?_)
 intro b21 w22 hb23 hx24 H25
 refine O_v rfl (R_assign (v := (.int .i64 ((((rdNum q most).1) : Nat) : Int))) rfl ?_)
 refine O_u (C_storeA H25 0 rfl 0 (sub := [[(slV x14.bh x14.b)], [(.bool x14.bad)]]) [[(slV x14.bh x14.b)], [(.bool x14.bad)]] Tryz.sizeOf110 rfl rfl rfl rfl ⟨[[(.slice none 0 0)], [(.bool false)]], [], rfl, rfl, rfl⟩ rfl ?_)
 intro w26 hg27 H28
 refine O_nil (Then_n (W_seq (W_seq ?_)))
 refine W_rg [(0, .q 0), (1, .q 0), (2, .q 0), (3, .q 0), (4, .q 0), (5, .q 0), (6, .q 0), (7, .q 0), (8, .q 0)] (by kernel_rfl) ?_
 refine Lx_q (i := 0) rfl rfl _ (fun v29 hv30 => R_fieldAddr (off := 1) (oo := 1) Tryz.underlying110 rfl rfl Tryz.sizeOf4 rfl rfl ⟨rfl, Gr.refl _ _⟩) ?_
 refine Lx_q (i := 1) rfl rfl _ (fun v31 hv32 => R_load1 (v := (.bool x14.bad)) Tryz.isAgg4 rfl ((boxR_at ((H28.ext hv32).getOwn 0 rfl)).chunks 1 1 1 1 _ rfl rfl rfl) ⟨rfl, Gr.refl _ _⟩) ?_
 refine Lx_q (i := 2) rfl rfl _ (fun v33 hv34 => R_move (v := (.bool x14.bad)) rfl ⟨rfl, Gr.refl _ _⟩) ?_
 refine Lx_qg (i := 3) true x14.bad rfl rfl rfl rfl rfl (!x14.bad) ga_f _ (fun hA v35 hv36 => R_move (v := (.int .i64 ((((rdNum q most).1) : Nat) : Int))) rfl ⟨rfl, Gr.refl _ _⟩) ?_
 refine Lx_qg (i := 4) true x14.bad rfl rfl rfl rfl rfl (!x14.bad) ga_f _ (fun hA v37 hv38 => R_fieldAddr (off := 0) (oo := 0) Tryz.underlying110 rfl rfl Tryz.sizeOf22 rfl rfl ⟨rfl, Gr.refl _ _⟩) ?_
 refine Lx_qg (i := 5) true x14.bad rfl rfl rfl rfl rfl (!x14.bad) ga_f _ (fun hA v39 hv40 => R_load1 (v := (slV x14.bh x14.b)) Tryz.isAgg22 (gv_t hA) ((boxR_at ((H28.ext hv40).getOwn 0 rfl)).chunks 0 1 0 0 _ rfl rfl rfl) ⟨rfl, Gr.refl _ _⟩) ?_
 refine Lx_qg (i := 6) true x14.bad rfl rfl rfl rfl rfl (!x14.bad) ga_f _ (fun hA v41 hv42 => R_len_slice (a := x14.bh.a) (n := x14.b.length) (c := x14.bh.c) Tryz.underlying22 (gv_t hA) ⟨rfl, Gr.refl _ _⟩) ?_
 refine Lx_qg (i := 7) true x14.bad rfl rfl rfl rfl rfl (!x14.bad) ga_f _ (fun hA v43 hv44 => R_cmp (a := ((((rdNum q most).1) : Nat) : Int)) (b := ((x14.b.length : Nat) : Int)) (r := (decide (((x14.b.length : Nat) : Int) < ((((rdNum q most).1) : Nat) : Int)))) (gv_t hA) (gv_t hA) rfl ⟨rfl, Gr.refl _ _⟩) ?_
 refine Lx_q (i := 8) rfl rfl _ (fun v45 hv46 => R_pick (t := x14.bad) (v := (.bool (x14.bad || (decide (((x14.b.length : Nat) : Int) < ((((rdNum q most).1) : Nat) : Int)))))) rfl pk_or ⟨rfl, Gr.refl _ _⟩) ?_
 refine Lx_nil (fun w47 hw48 => ?_)
 have H49 := H28.ext hw48
 refine Then_n ?_
 refine W_cond (t := (x14.bad || (decide (((x14.b.length : Nat) : Int) < ((((rdNum q most).1) : Nat) : Int))))) rfl (fun hc50 => ?_) (fun hc50 => ?_)
 ·have hc50 : (x14.bad = true ∨ (((x14.b.length : Nat) : Int) < ((((rdNum q most).1) : Nat) : Int))) := (Or.imp (fun h => h) (fun h => (of_decide_eq_true h)) (orT hc50))
  refine W_seq (W_reg ?_)
  refine O_v rfl (R_callL (vs := []) ref02_GetText_c109 rfl rfl ((ref02_failed  w47 ).ret ?_))
  rintro _ w52 ⟨x51, rfl, hx53, hr54, hs55⟩
  have H56 := H49.ext hx53
  have H57 := H56.addImm' (slI nob encB 1 x51.bh x51.b) hs55 (fun _ h => h.elim)
  refine O_v rfl (R_assign (v := (.string ByteArray.empty)) rfl ?_)
  refine O_u (C_storeA H57 1 rfl 0 (sub := [[(slV x51.bh x51.b)], [(.bool x51.bad)]]) [[(slV x51.bh x51.b)], [(.bool x51.bad)]] Tryz.sizeOf110 rfl rfl rfl rfl ⟨[[(.slice none 0 0)], [(.bool false)]], [], rfl, rfl, rfl⟩ rfl ?_)
  intro w58 hg59 H60
  refine O_nil (Then_n (W_ret (Then_r ?_)))
  refine ret_tc (v := (.string ByteArray.empty)) Tryz.results78 rfl (inMem (cs := [[(slV x51.bh x51.b)], [(.bool x51.bad)]]) rfl Tryz.isAgg110 Tryz.sizeOf110 rfl (boxR_at (H60.getOwn 1 rfl))) ?_
  exact ⟨x51, (gt_f hr17 (by assumption)).1, H60.gr, (hr54.trans (gt_f (v := .bool true) hr17 (by assumption)).2), ((H60.sl 0 rfl).mono (fun _ h => h.elim))⟩
 ·have hc50 : (x14.bad = false ∧ ¬ (((x14.b.length : Nat) : Int) < ((((rdNum q most).1) : Nat) : Int))) := (And.imp (fun h => h) (fun h => (of_decide_eq_false h)) (orF hc50))
  refine W_skip (Then_n (W_seq ?_))
  refine W_rgdM TryzMixed nob (fun i => if i == 11 then 2 else 0) [(0, .q 2), (1, .q 0), (2, .q 2), (3, .q 2), (4, .q 0), (5, .q 2), (6, .q 0), (7, .q 2), (8, .q 2), (9, .q 2), (10, .q 2), (11, .c 2)] (by kernel_rfl) ?_
  refine Lx_q (i := 0) rfl rfl _ (fun v61 hv62 => R_fieldAddr (off := 0) (oo := 0) Tryz.underlying110 rfl rfl Tryz.sizeOf22 rfl rfl ⟨rfl, Gr.refl _ _⟩) ?_
  refine Lx_q (i := 1) rfl rfl _ (fun v63 hv64 => R_load1 (v := (slV x14.bh x14.b)) Tryz.isAgg22 rfl ((boxR_at ((H49.ext hv64).getOwn 0 rfl)).chunks 0 1 0 0 _ rfl rfl rfl) ⟨rfl, Gr.refl _ _⟩) ?_
  refine Lx_q (i := 2) rfl rfl _ (fun v65 hv66 => R_move (v := (.int .i64 ((((rdNum q most).1) : Nat) : Int))) rfl ⟨rfl, Gr.refl _ _⟩) ?_
  refine Lx_q (i := 3) rfl rfl _ (fun v67 hv68 => R_sliceS (h := x14.bh) (l := x14.b) (a := 0) (b := ((rdNum q most).1)) (m := x14.bh.c) (x14.b.take ((rdNum q most).1)) Tryz.underlying22 Tryz.sizeOf5 rfl rfl rfl rfl (by decide) (by omega) (by first | omega | exact Nat.le_refl _) (by have := Sl.cap (H49.sl 0 rfl); omega) (by first | omega | exact Nat.le_refl _ | (have := Sl.cap (H49.sl 0 rfl); omega)) rfl  ⟨rfl, Gr.refl _ _⟩) ?_
  refine Lx_q (i := 4) rfl rfl _ (fun v69 hv70 => R_conv_bs (l := x14.b.take ((rdNum q most).1)) Tryz.underlying22 Tryz.underlying5 Tryz.underlying9 (Sl.sub ((H49.ext hv70).sl 0 rfl) 0 ((rdNum q most).1) x14.bh.c (by omega) (by first | omega | exact Nat.le_refl _) (by have := Sl.cap (H49.sl 0 rfl); omega) (by first | omega | exact Nat.le_refl _ | (have := Sl.cap (H49.sl 0 rfl); omega)) rfl) rfl ⟨rfl, Gr.refl _ _⟩) ?_
  refine Lx_q (i := 5) rfl rfl _ (fun v71 hv72 => R_fieldAddr (off := 0) (oo := 0) Tryz.underlying110 rfl rfl Tryz.sizeOf22 rfl rfl ⟨rfl, Gr.refl _ _⟩) ?_
  refine Lx_q (i := 6) rfl rfl _ (fun v73 hv74 => R_load1 (v := (slV x14.bh x14.b)) Tryz.isAgg22 rfl ((boxR_at ((H49.ext hv74).getOwn 0 rfl)).chunks 0 1 0 0 _ rfl rfl rfl) ⟨rfl, Gr.refl _ _⟩) ?_
  refine Lx_q (i := 7) rfl rfl _ (fun v75 hv76 => R_move (v := (.int .i64 ((((rdNum q most).1) : Nat) : Int))) rfl ⟨rfl, Gr.refl _ _⟩) ?_
  refine Lx_q (i := 8) rfl rfl _ (fun v77 hv78 => R_sliceS (h := x14.bh) (l := x14.b) (a := ((rdNum q most).1)) (b := x14.b.length) (m := x14.bh.c) (x14.b.drop ((rdNum q most).1)) Tryz.underlying22 Tryz.sizeOf5 rfl rfl rfl rfl (by decide) (by omega) (by first | omega | exact Nat.le_refl _) (by have := Sl.cap (H49.sl 0 rfl); omega) (by first | omega | exact Nat.le_refl _ | (have := Sl.cap (H49.sl 0 rfl); omega)) (by rw [List.take_length])  ⟨rfl, Gr.refl _ _⟩) ?_
  refine Lx_q (i := 9) rfl rfl _ (fun v79 hv80 => R_buildL (vs := [(0, (slV (hSub x14.bh 1 ((rdNum q most).1) x14.bh.c) (x14.b.drop ((rdNum q most).1)))), (1, (.bool false))]) (v := aggOf [[(slV (hSub x14.bh 1 ((rdNum q most).1) x14.bh.c) (x14.b.drop ((rdNum q most).1)))], [(.bool false)]]) rfl (fun _ => by kernel_rfl) ⟨rfl, Gr.refl _ _⟩) ?_
  refine Lx_q (i := 10) rfl rfl _ (fun v81 hv82 => R_assign (v := (.string (⟨(x14.b.take ((rdNum q most).1)).toArray⟩ : ByteArray))) rfl ⟨rfl, Gr.refl _ _⟩) ?_
  refine Lx_cu (i := 11) rfl (fun w83 hw84 => ?_)
  have H85 := H49.ext hw84
  refine (C_storeA H85 1 rfl 0 (sub := [[(slV (hSub x14.bh 1 ((rdNum q most).1) x14.bh.c) (x14.b.drop ((rdNum q most).1)))], [(.bool false)]]) [[(slV (hSub x14.bh 1 ((rdNum q most).1) x14.bh.c) (x14.b.drop ((rdNum q most).1)))], [(.bool false)]] Tryz.sizeOf110 rfl rfl rfl rfl ⟨[[(.slice none 0 0)], [(.bool false)]], [], rfl, rfl, rfl⟩ rfl ?_)
  intro w86 hg87 H88
  refine ⟨Gr.mono (M' := fun _ => True) hg87 (fun _ _ => trivial), ?_⟩
  refine Lx_nil (fun w89 hw90 => ?_)
  have H91 := H88.ext hw90
  refine Then_n (W_ret ?_)
  refine ret_tc (v := (.string (⟨(x14.b.take ((rdNum q most).1)).toArray⟩ : ByteArray))) Tryz.results78 rfl (inMem (cs := [[(slV (hSub x14.bh 1 ((rdNum q most).1) x14.bh.c) (x14.b.drop ((rdNum q most).1)))], [(.bool false)]]) rfl Tryz.isAgg110 Tryz.sizeOf110 rfl (boxR_at (H91.getOwn 1 rfl))) ?_
  exact ⟨({ b := x14.b.drop ((rdNum q most).1), bh := hSub x14.bh 1 ((rdNum q most).1) x14.bh.c, bad := false } : RdS), (gt_t hr17 (by assumption)).1, H91.gr, (gt_t (v := .bool true) hr17 (by assumption)).2, (Sl.sub (H91.sl 0 rfl) ((rdNum q most).1) x14.b.length x14.bh.c (by omega) (by first | omega | exact Nat.le_refl _) (by have := Sl.cap (H49.sl 0 rfl); omega) (by first | omega | exact Nat.le_refl _ | (have := Sl.cap (H49.sl 0 rfl); omega)) (by rw [List.take_length]))⟩

end Go.Proofs.YthjdhfoeckfmbaaGreat
namespace Go.Proofs.YthjdhfoeckfmbaaGreat
open Go
set_option maxRecDepth 100000
set_option linter.unusedVariables false
set_option linter.unusedSimpArgs false
set_option linter.unusedSectionVars false
variable [DD]
set_option maxHeartbeats 1000000 in
theorem ref04_open (hb : SlH) (b : List UInt8) (Fb : Nat → Prop) (kind : UInt8) (w : World) (Sb : Sl Fb encB 1 hb b w) (XFb : ∀ b, Fb b → b < w.heap.size) :
    Calls Tryz.prog 73 #[(slV hb b), (.int .u8 (kind.toNat : Int))] w (Ret fun v w' => ∃ X : RdS, v = rdV X ∧ Ext w w' ∧ X.st = openSt b kind ∧ Sl Fb encB 1 X.bh X.b w') := by
 refine calls_W Tryz.func73 rfl Tryz.ntmps73 rfl ?_
 have H0 := Ctx.start w nob
 have H1 := H0.addSl _ Sb (fun b hb => ⟨XFb b hb, fun _ ho => (nomatch ho)⟩)
 have LSb := Sb.len
 refine W_seq (W_reg ?_)
 refine O_v rfl (C_alloc H1 [[(.slice none 0 0)], [(.bool false)]] Tryz.zeroValue110 ?_)
 intro b3 w4 hb5 hx6 H7
 refine O_nil (Then_n (W_seq (W_seq ?_)))
 refine W_rg [(0, .q 0), (1, .q 0), (2, .q 0), (3, .q 0), (4, .q 0), (5, .q 0), (6, .q 0), (7, .q 0), (8, .q 0), (9, .q 0)] (by kernel_rfl) ?_
 refine Lx_q (i := 0) rfl rfl _ (fun v8 hv9 => R_move (v := (slV hb b)) rfl ⟨rfl, Gr.refl _ _⟩) ?_
 refine Lx_q (i := 1) rfl rfl _ (fun v10 hv11 => R_len_slice (a := hb.a) (n := b.length) (c := hb.c) Tryz.underlying22 rfl ⟨rfl, Gr.refl _ _⟩) ?_
 refine Lx_q (i := 2) rfl rfl _ (fun v12 hv13 => R_cmp (a := ((b.length : Nat) : Int)) (b := 0) (r := (decide (((b.length : Nat) : Int) = 0))) rfl rfl rfl ⟨rfl, Gr.refl _ _⟩) ?_
 refine Lx_q (i := 3) rfl rfl _ (fun v14 hv15 => R_move (v := (.bool (decide (((b.length : Nat) : Int) = 0)))) rfl ⟨rfl, Gr.refl _ _⟩) ?_
 refine Lx_qg (i := 4) true (decide (((b.length : Nat) : Int) = 0)) rfl rfl rfl rfl rfl (!(decide (((b.length : Nat) : Int) = 0))) ga_f _ (fun hA v16 hv17 => R_move (v := (slV hb b)) rfl ⟨rfl, Gr.refl _ _⟩) ?_
 refine Lx_qg (i := 5) true (decide (((b.length : Nat) : Int) = 0)) rfl rfl rfl rfl rfl (!(decide (((b.length : Nat) : Int) = 0))) ga_f _ (fun hA v18 hv19 => by
      have hP : ¬ (((b.length : Nat) : Int) = 0) := (of_decide_eq_false (notT hA))
      exact R_index_pure (H7.sl 0 rfl) (n := b.length) rfl (j := 0) (oo := (hb.o + 0 * 1)) Tryz.underlying22 Tryz.sizeOf5 (gv_t hA) rfl (by omega) (by omega) rfl ⟨rfl, Gr.refl _ _⟩) ?_
 refine Lx_qg (i := 6) true (decide (((b.length : Nat) : Int) = 0)) rfl rfl rfl rfl rfl (!(decide (((b.length : Nat) : Int) = 0))) ga_f _ (fun hA v20 hv21 => by
      have hP : ¬ (((b.length : Nat) : Int) = 0) := (of_decide_eq_false (notT hA))
      exact R_load1 (v := (.int .u8 ((nth b 0).toNat : Int))) Tryz.isAgg5 (gv_t hA) ((Sl.elem ((H7.ext hv21).sl 0 rfl) (i := 0) (by omega) rfl).chunks 0 1 0 (hb.o + 0 * 1) _ rfl rfl rfl) ⟨rfl, Gr.refl _ _⟩) ?_
 refine Lx_qg (i := 7) true (decide (((b.length : Nat) : Int) = 0)) rfl rfl rfl rfl rfl (!(decide (((b.length : Nat) : Int) = 0))) ga_f _ (fun hA v22 hv23 => R_move (v := (.int .u8 (kind.toNat : Int))) rfl ⟨rfl, Gr.refl _ _⟩) ?_
 refine Lx_qg (i := 8) true (decide (((b.length : Nat) : Int) = 0)) rfl rfl rfl rfl rfl (!(decide (((b.length : Nat) : Int) = 0))) ga_f _ (fun hA v24 hv25 => R_cmp (a := ((nth b 0).toNat : Int)) (b := (kind.toNat : Int)) (r := (!(decide (((nth b 0).toNat : Int) = (kind.toNat : Int))))) (gv_t hA) (gv_t hA) rfl ⟨rfl, Gr.refl _ _⟩) ?_
 refine Lx_q (i := 9) rfl rfl _ (fun v26 hv27 => R_pick (t := (decide (((b.length : Nat) : Int) = 0))) (v := (.bool ((decide (((b.length : Nat) : Int) = 0)) || (!(decide (((nth b 0).toNat : Int) = (kind.toNat : Int))))))) rfl pk_or ⟨rfl, Gr.refl _ _⟩) ?_
 refine Lx_nil (fun w28 hw29 => ?_)
 have H30 := H7.ext hw29
 refine Then_n ?_
 refine W_cond (t := ((decide (((b.length : Nat) : Int) = 0)) || (!(decide (((nth b 0).toNat : Int) = (kind.toNat : Int)))))) rfl (fun hc31 => ?_) (fun hc31 => ?_)
 ·have hc31 : ((((b.length : Nat) : Int) = 0) ∨ ¬ (((nth b 0).toNat : Int) = (kind.toNat : Int))) := (Or.imp (fun h => (of_decide_eq_true h)) (fun h => (of_decide_eq_false (notT h))) (orT hc31))
  refine W_seq (W_reg ?_)
  refine O_v rfl (R_buildL (vs := [(1, (.bool true))]) (v := aggOf [[(.slice none 0 0)], [(.bool true)]]) rfl (fun _ => by kernel_rfl) ?_)
  refine O_u (C_storeA H30 0 rfl 0 (sub := [[(.slice none 0 0)], [(.bool true)]]) [[(.slice none 0 0)], [(.bool true)]] Tryz.sizeOf110 rfl rfl rfl rfl ⟨[[(.slice none 0 0)], [(.bool false)]], [], rfl, rfl, rfl⟩ rfl ?_)
  intro w32 hg33 H34
  refine O_nil (Then_n (W_ret (Then_r ?_)))
  refine ret_c Tryz.results73 (inMem (cs := [[(.slice none 0 0)], [(.bool true)]]) rfl Tryz.isAgg110 Tryz.sizeOf110 rfl (boxR_at (H34.getOwn 0 rfl))) ?_
  exact ⟨({ b := [], bh := nilH, bad := true } : RdS), rfl, H34.gr, (open_f (by assumption)).symm, (Sl.nil _ _ _ _)⟩
 ·have hc31 : (¬ (((b.length : Nat) : Int) = 0) ∧ (((nth b 0).toNat : Int) = (kind.toNat : Int))) := (And.imp (fun h => (of_decide_eq_false h)) (fun h => (of_decide_eq_true (notF h))) (orF hc31))
  refine W_skip (Then_n (W_seq (W_reg ?_)))
  refine O_v rfl (R_move (v := (slV hb b)) rfl ?_)
  refine O_v rfl (R_sliceS (h := hb) (l := b) (a := 1) (b := b.length) (m := hb.c) (b.drop 1) Tryz.underlying22 Tryz.sizeOf5 rfl rfl rfl rfl (by decide) (by omega) (by first | omega | exact Nat.le_refl _) (by have := Sl.cap (H30.sl 0 rfl); omega) (by first | omega | exact Nat.le_refl _ | (have := Sl.cap (H30.sl 0 rfl); omega)) (by rw [List.take_length])  ?_)
  refine O_v rfl (R_buildL (vs := [(0, (slV (hSub hb 1 1 hb.c) (b.drop 1)))]) (v := aggOf [[(slV (hSub hb 1 1 hb.c) (b.drop 1))], [(.bool false)]]) rfl (fun _ => by kernel_rfl) ?_)
  refine O_u (C_storeA H30 0 rfl 0 (sub := [[(slV (hSub hb 1 1 hb.c) (b.drop 1))], [(.bool false)]]) [[(slV (hSub hb 1 1 hb.c) (b.drop 1))], [(.bool false)]] Tryz.sizeOf110 rfl rfl rfl rfl ⟨[[(.slice none 0 0)], [(.bool false)]], [], rfl, rfl, rfl⟩ rfl ?_)
  intro w35 hg36 H37
  refine O_nil (Then_n (W_ret ?_))
  refine ret_c Tryz.results73 (inMem (cs := [[(slV (hSub hb 1 1 hb.c) (b.drop 1))], [(.bool false)]]) rfl Tryz.isAgg110 Tryz.sizeOf110 rfl (boxR_at (H37.getOwn 0 rfl))) ?_
  exact ⟨({ b := b.drop 1, bh := hSub hb 1 1 hb.c, bad := false } : RdS), rfl, H37.gr, (open_t (by assumption)).symm, (Sl.sub (H37.sl 0 rfl) 1 b.length hb.c (by omega) (by first | omega | exact Nat.le_refl _) (by have := Sl.cap (H30.sl 0 rfl); omega) (by first | omega | exact Nat.le_refl _ | (have := Sl.cap (H30.sl 0 rfl); omega)) (by rw [List.take_length]))⟩

end Go.Proofs.YthjdhfoeckfmbaaGreat
namespace Go.Proofs.YthjdhfoeckfmbaaGreat
open Go
set_option maxRecDepth 100000
set_option linter.unusedVariables false
set_option linter.unusedSimpArgs false
set_option linter.unusedSectionVars false
variable [DD]
theorem ref04_ChangeNo_c72 : callable Tryz.prog 72 = true := by kernel_rfl
theorem ref04_ChangeNo_c73 : callable Tryz.prog 73 = true := by kernel_rfl
theorem ref04_ChangeNo_c75 : callable Tryz.prog 75 = true := by kernel_rfl
theorem ref04_ChangeNo_c76 : callable Tryz.prog 76 = true := by kernel_rfl
theorem ref04_ChangeNo_c78 : callable Tryz.prog 78 = true := by kernel_rfl
set_option maxHeartbeats 1000000 in
theorem ref04_ChangeNo (hb : SlH) (b : List UInt8) (w : World) (Sb : Sl (Old w) encB 1 hb b w) (hq : openSt b 3 = ([], true)) :
    Calls Tryz.prog 33 #[(slV hb b)] w (Ret fun v w' => v = .tuple #[(aggOf [[(.slice none 0 0)], [(.int .i64 0)], [(.int .i64 0)], [(.slice none 0 0)], (idCells zeroId), [(.string ByteArray.empty)]]), (.bool false)] ∧ Ext w w') := by
 refine calls_W Tryz.func33 rfl Tryz.ntmps33 rfl ?_
 have H0 := Ctx.start w nob
 have H1 := H0.addSl _ Sb (fun b hb => ⟨hb, fun _ ho => (nomatch ho)⟩)
 have LSb := Sb.len
 refine W_seq (W_reg ?_)
 refine O_v rfl (C_alloc H1 [[(.slice none 0 0)], [(.int .i64 0)], [(.int .i64 0)], [(.slice none 0 0)], (idCells zeroId), [(.string ByteArray.empty)]] Tryz.zeroValue47 ?_)
 intro b2 w3 hb4 hx5 H6
 refine O_v rfl (R_assign (v := (.bool false)) rfl ?_)
 refine O_nil (Then_n (W_seq (W_reg ?_)))
 refine O_v rfl (R_move (v := (slV hb b)) rfl ?_)
 refine O_v rfl (R_callL (vs := [(slV hb b), (.int .u8 3)]) ref04_ChangeNo_c73 rfl rfl ((ref04_open hb b (Old w) 3 w3 (H6.sl 0 rfl) (H6.imm _ (List.mem_of_getElem? (i := 0) rfl)).2).ret ?_))
 rintro _ w8 ⟨x7, rfl, hx9, hr10, hs11⟩
 have H12 := H6.ext hx9
 have H13 := H12.immOf 0 rfl (slI (Old w) encB 1 x7.bh x7.b) (fun _ h => h) (fun _ => hs11)
 refine O_v rfl (R_callL (vs := [(aggOf (rdCh x7)), (.int .i64 2)]) ref04_ChangeNo_c72 rfl rfl ((ref02_GetNum x7 (Old w) (openSt b 3) 2 w8 (H13.sl 0 rfl) (H13.imm _ (List.mem_of_getElem? (i := 0) rfl)).2 hr10).ret ?_))
 rintro _ w15 ⟨x14, rfl, hx16, hr17, hs18⟩
 have H19 := H13.ext hx16
 have H20 := H19.immOf 0 rfl (slI (Old w) encB 1 x14.bh x14.b) (fun _ h => h) (fun _ => hs18)
 refine O_v rfl (R_move (v := (.tuple #[(.int .i64 ((((rdNum (openSt b 3) 2).1) : Nat) : Int)), (aggOf (rdCh x14))])) rfl ?_)
 refine O_v rfl (R_extract (v := (.int .i64 ((((rdNum (openSt b 3) 2).1) : Nat) : Int))) rfl rfl ?_)
 refine O_v rfl (R_extract (v := (aggOf (rdCh x14))) rfl rfl ?_)
 refine O_v rfl (C_alloc H20 [[(.slice none 0 0)], [(.bool false)]] Tryz.zeroValue110 ?_)
 intro b21 w22 hb23 hx24 H25
 refine O_v rfl (R_assign (v := (.int .i64 ((((rdNum (openSt b 3) 2).1) : Nat) : Int))) rfl ?_)
 refine O_u (C_storeA H25 0 rfl 0 (sub := [[(slV x14.bh x14.b)], [(.bool x14.bad)]]) [[(slV x14.bh x14.b)], [(.bool x14.bad)]] Tryz.sizeOf110 rfl rfl rfl rfl ⟨[[(.slice none 0 0)], [(.bool false)]], [], rfl, rfl, rfl⟩ rfl ?_)
 intro w26 hg27 H28
 refine O_nil (Then_n (W_seq (W_reg ?_)))
 refine O_v rfl (R_buildL (vs := []) (v := aggOf [[(.slice none 0 0)], [(.int .i64 0)], [(.int .i64 0)], [(.slice none 0 0)], (idCells zeroId), [(.string ByteArray.empty)]]) rfl (fun _ => by kernel_rfl) ?_)
 refine O_v rfl (C_alloc H28 [[(.slice none 0 0)], [(.int .i64 0)], [(.int .i64 0)], [(.slice none 0 0)], (idCells zeroId), [(.string ByteArray.empty)]] Tryz.zeroValue47 ?_)
 intro b29 w30 hb31 hx32 H33
 refine O_u (C_storeA H33 0 rfl 0 (sub := [[(.slice none 0 0)], [(.int .i64 0)], [(.int .i64 0)], [(.slice none 0 0)], (idCells zeroId), [(.string ByteArray.empty)]]) [[(.slice none 0 0)], [(.int .i64 0)], [(.int .i64 0)], [(.slice none 0 0)], (idCells zeroId), [(.string ByteArray.empty)]] Tryz.sizeOf47 rfl rfl rfl rfl ⟨[[(.slice none 0 0)], [(.int .i64 0)], [(.int .i64 0)], [(.slice none 0 0)], (idCells zeroId), [(.string ByteArray.empty)]], [], rfl, rfl, rfl⟩ rfl ?_)
 intro w34 hg35 H36
 refine O_nil (Then_n (W_seq (W_seq (W_reg ?_))))
 refine O_v rfl (R_assign (v := (.int .i64 0)) rfl ?_)
 refine O_nil (Then_n (W_block ?_))
 refine W_loop (fun m37 e38 w39 => ∃ (k : Nat), m37 = 0 ∧ ((rdNum (openSt b 3) 2).1 = 0) ∧ ∃ eb40, e38 = envL [(2, (.pointer (some ⟨b2, 0, none⟩))), (3, (.bool false)), (4, (.int .i64 ((((rdNum (openSt b 3) 2).1) : Nat) : Int))), (5, (.pointer (some ⟨b21, 0, none⟩))), (6, (.pointer (some ⟨b29, 0, none⟩))), (7, (.int .i64 ((k : Nat) : Int)))] eb40 ∧ Ctx w nob w39 [boxR b29 47 [[(.slice none 0 0)], [(.int .i64 0)], [(.int .i64 0)], [(.slice none 0 0)], (idCells zeroId), [(.string ByteArray.empty)]], boxR b21 110 [[(slV x14.bh x14.b)], [(.bool x14.bad)]], boxR b2 47 [[(.slice none 0 0)], [(.int .i64 0)], [(.int .i64 0)], [(.slice none 0 0)], (idCells zeroId), [(.string ByteArray.empty)]]] [slI (Old w) encB 1 x14.bh x14.b, slI (Old w) encB 1 x7.bh x7.b, slI (Old w) encB 1 hb b]) _ ⟨0, rfl, (by rw [hq]; rfl), _, envL_self ⟨rfl, rfl, rfl, rfl, rfl, rfl, trivial⟩, H36⟩ ?_
 rintro m37 _ w39 ⟨k, rfl, hz, eb40, rfl, H41⟩
 refine W_seq (W_seq (W_reg ?_))
 refine O_v rfl (R_move (v := (.int .i64 ((k : Nat) : Int))) rfl ?_)
 refine O_v rfl (R_move (v := (.int .i64 ((((rdNum (openSt b 3) 2).1) : Nat) : Int))) rfl ?_)
 refine O_v rfl (R_cmp (a := ((k : Nat) : Int)) (b := ((((rdNum (openSt b 3) 2).1) : Nat) : Int)) (r := (decide (((k : Nat) : Int) < ((((rdNum (openSt b 3) 2).1) : Nat) : Int)))) rfl rfl rfl ?_)
 refine O_nil (Then_n ?_)
 refine W_cond (t := (decide (((k : Nat) : Int) < ((((rdNum (openSt b 3) 2).1) : Nat) : Int)))) rfl (fun hc42 => ?_) (fun hc42 => ?_)
 ·have hc42 : (((k : Nat) : Int) < ((((rdNum (openSt b 3) 2).1) : Nat) : Int)) := (of_decide_eq_true hc42)
  refine W_skip (Then_n ?_)
  exfalso; omega
 ·have hc42 : ¬ (((k : Nat) : Int) < ((((rdNum (openSt b 3) 2).1) : Nat) : Int)) := (of_decide_eq_false hc42)
  refine W_exit (Then_x (Then_x (Blk_x (Then_n (W_seq (W_reg ?_))))))
  refine O_v rfl (R_loadA (cs := [[(slV x14.bh x14.b)], [(.bool x14.bad)]]) Tryz.isAgg110 Tryz.sizeOf110 rfl rfl ((boxR_at (H41.getOwn 1 rfl)).chunks 0 2 0 0 _ rfl rfl rfl) ?_)
  refine O_v rfl (R_callL (vs := [(aggOf (rdCh x14)), (.int .i64 1099511627776)]) ref04_ChangeNo_c72 rfl rfl ((ref02_GetNum x14 (Old w) ((rdNum (openSt b 3) 2).2) 1099511627776 w39 (H41.sl 0 rfl) (H41.imm _ (List.mem_of_getElem? (i := 0) rfl)).2 hr17).ret ?_))
  rintro _ w44 ⟨x43, rfl, hx45, hr46, hs47⟩
  have H48 := H41.ext hx45
  have H49 := H48.immOf 0 rfl (slI (Old w) encB 1 x43.bh x43.b) (fun _ h => h) (fun _ => hs47)
  refine O_v rfl (R_move (v := (.tuple #[(.int .i64 ((((rdNum ((rdNum (openSt b 3) 2).2) 1099511627776).1) : Nat) : Int)), (aggOf (rdCh x43))])) rfl ?_)
  refine O_v rfl (R_extract (v := (.int .i64 ((((rdNum ((rdNum (openSt b 3) 2).2) 1099511627776).1) : Nat) : Int))) rfl rfl ?_)
  refine O_v rfl (R_extract (v := (aggOf (rdCh x43))) rfl rfl ?_)
  refine O_v rfl (C_alloc H49 [[(.slice none 0 0)], [(.bool false)]] Tryz.zeroValue110 ?_)
  intro b50 w51 hb52 hx53 H54
  refine O_v rfl (R_assign (v := (.int .i64 ((((rdNum ((rdNum (openSt b 3) 2).2) 1099511627776).1) : Nat) : Int))) rfl ?_)
  refine O_u (C_storeA H54 0 rfl 0 (sub := [[(slV x43.bh x43.b)], [(.bool x43.bad)]]) [[(slV x43.bh x43.b)], [(.bool x43.bad)]] Tryz.sizeOf110 rfl rfl rfl rfl ⟨[[(.slice none 0 0)], [(.bool false)]], [], rfl, rfl, rfl⟩ rfl ?_)
  intro w55 hg56 H57
  refine O_nil (Then_n (W_seq (W_reg ?_)))
  refine O_v rfl (R_loadA (cs := [[(slV x43.bh x43.b)], [(.bool x43.bad)]]) Tryz.isAgg110 Tryz.sizeOf110 rfl rfl ((boxR_at (H57.getOwn 0 rfl)).chunks 0 2 0 0 _ rfl rfl rfl) ?_)
  refine O_v rfl (R_callL (vs := [(aggOf (rdCh x43)), (.int .i64 65536)]) ref04_ChangeNo_c72 rfl rfl ((ref02_GetNum x43 (Old w) ((rdNum ((rdNum (openSt b 3) 2).2) 1099511627776).2) 65536 w55 (H57.sl 0 rfl) (H57.imm _ (List.mem_of_getElem? (i := 0) rfl)).2 hr46).ret ?_))
  rintro _ w59 ⟨x58, rfl, hx60, hr61, hs62⟩
  have H63 := H57.ext hx60
  have H64 := H63.immOf 0 rfl (slI (Old w) encB 1 x58.bh x58.b) (fun _ h => h) (fun _ => hs62)
  refine O_v rfl (R_move (v := (.tuple #[(.int .i64 ((((rdNum ((rdNum ((rdNum (openSt b 3) 2).2) 1099511627776).2) 65536).1) : Nat) : Int)), (aggOf (rdCh x58))])) rfl ?_)
  refine O_v rfl (R_extract (v := (.int .i64 ((((rdNum ((rdNum ((rdNum (openSt b 3) 2).2) 1099511627776).2) 65536).1) : Nat) : Int))) rfl rfl ?_)
  refine O_v rfl (R_extract (v := (aggOf (rdCh x58))) rfl rfl ?_)
  refine O_v rfl (C_alloc H64 [[(.slice none 0 0)], [(.bool false)]] Tryz.zeroValue110 ?_)
  intro b65 w66 hb67 hx68 H69
  refine O_v rfl (R_assign (v := (.int .i64 ((((rdNum ((rdNum ((rdNum (openSt b 3) 2).2) 1099511627776).2) 65536).1) : Nat) : Int))) rfl ?_)
  refine O_u (C_storeA H69 0 rfl 0 (sub := [[(slV x58.bh x58.b)], [(.bool x58.bad)]]) [[(slV x58.bh x58.b)], [(.bool x58.bad)]] Tryz.sizeOf110 rfl rfl rfl rfl ⟨[[(.slice none 0 0)], [(.bool false)]], [], rfl, rfl, rfl⟩ rfl ?_)
  intro w70 hg71 H72
  refine O_nil (Then_n (W_seq (W_reg ?_)))
  refine O_v rfl (R_loadA (cs := [[(slV x58.bh x58.b)], [(.bool x58.bad)]]) Tryz.isAgg110 Tryz.sizeOf110 rfl rfl ((boxR_at (H72.getOwn 0 rfl)).chunks 0 2 0 0 _ rfl rfl rfl) ?_)
  refine O_v rfl (R_callL (vs := [(aggOf (rdCh x58)), (.int .i64 64)]) ref04_ChangeNo_c72 rfl rfl ((ref02_GetNum x58 (Old w) ((rdNum ((rdNum ((rdNum (openSt b 3) 2).2) 1099511627776).2) 65536).2) 64 w70 (H72.sl 0 rfl) (H72.imm _ (List.mem_of_getElem? (i := 0) rfl)).2 hr61).ret ?_))
  rintro _ w74 ⟨x73, rfl, hx75, hr76, hs77⟩
  have H78 := H72.ext hx75
  have H79 := H78.immOf 0 rfl (slI (Old w) encB 1 x73.bh x73.b) (fun _ h => h) (fun _ => hs77)
  refine O_v rfl (R_move (v := (.tuple #[(.int .i64 ((((rdNum ((rdNum ((rdNum ((rdNum (openSt b 3) 2).2) 1099511627776).2) 65536).2) 64).1) : Nat) : Int)), (aggOf (rdCh x73))])) rfl ?_)
  refine O_v rfl (R_extract (v := (.int .i64 ((((rdNum ((rdNum ((rdNum ((rdNum (openSt b 3) 2).2) 1099511627776).2) 65536).2) 64).1) : Nat) : Int))) rfl rfl ?_)
  refine O_v rfl (R_extract (v := (aggOf (rdCh x73))) rfl rfl ?_)
  refine O_v rfl (C_alloc H79 [[(.slice none 0 0)], [(.bool false)]] Tryz.zeroValue110 ?_)
  intro b80 w81 hb82 hx83 H84
  refine O_v rfl (R_assign (v := (.int .i64 ((((rdNum ((rdNum ((rdNum ((rdNum (openSt b 3) 2).2) 1099511627776).2) 65536).2) 64).1) : Nat) : Int))) rfl ?_)
  refine O_u (C_storeA H84 0 rfl 0 (sub := [[(slV x73.bh x73.b)], [(.bool x73.bad)]]) [[(slV x73.bh x73.b)], [(.bool x73.bad)]] Tryz.sizeOf110 rfl rfl rfl rfl ⟨[[(.slice none 0 0)], [(.bool false)]], [], rfl, rfl, rfl⟩ rfl ?_)
  intro w85 hg86 H87
  refine O_nil (Then_n (W_seq (W_reg ?_)))
  refine O_v rfl (R_move (v := (.int .i64 ((((rdNum ((rdNum (openSt b 3) 2).2) 1099511627776).1) : Nat) : Int))) rfl ?_)
  refine O_v rfl (R_fieldAddr (off := 1) (oo := 1) Tryz.underlying47 rfl rfl Tryz.sizeOf2 rfl rfl ?_)
  refine O_u (C_store1 H87 3 rfl 1 (v := (.int .i64 ((((rdNum ((rdNum (openSt b 3) 2).2) 1099511627776).1) : Nat) : Int))) [[(.slice none 0 0)], [(.int .i64 ((((rdNum ((rdNum (openSt b 3) 2).2) 1099511627776).1) : Nat) : Int))], [(.int .i64 0)], [(.slice none 0 0)], (idCells zeroId), [(.string ByteArray.empty)]] Tryz.sizeOf2 rfl rfl rfl rfl rfl rfl rfl ?_)
  intro w88 hg89 H90
  refine O_nil (Then_n (W_seq (W_reg ?_)))
  refine O_v rfl (R_move (v := (.int .i64 ((((rdNum ((rdNum ((rdNum (openSt b 3) 2).2) 1099511627776).2) 65536).1) : Nat) : Int))) rfl ?_)
  refine O_v rfl (R_fieldAddr (off := 2) (oo := 2) Tryz.underlying47 rfl rfl Tryz.sizeOf3 rfl rfl ?_)
  refine O_u (C_store1 H90 3 rfl 2 (v := (.int .i64 ((((rdNum ((rdNum ((rdNum (openSt b 3) 2).2) 1099511627776).2) 65536).1) : Nat) : Int))) [[(.slice none 0 0)], [(.int .i64 ((((rdNum ((rdNum (openSt b 3) 2).2) 1099511627776).1) : Nat) : Int))], [(.int .i64 ((((rdNum ((rdNum ((rdNum (openSt b 3) 2).2) 1099511627776).2) 65536).1) : Nat) : Int))], [(.slice none 0 0)], (idCells zeroId), [(.string ByteArray.empty)]] Tryz.sizeOf3 rfl rfl rfl rfl rfl rfl rfl ?_)
  intro w91 hg92 H93
  refine O_nil (Then_n (W_seq (W_seq (W_reg ?_))))
  refine O_v rfl (R_assign (v := (.int .i64 0)) rfl ?_)
  refine O_nil (Then_n (W_block ?_))
  refine W_loop (fun m94 e95 w96 => ∃ (j : Nat), m94 = 0 ∧ ((rdNum (rdNum (rdNum (rdNum (openSt b 3) 2).2 1099511627776).2 65536).2 64).1 = 0) ∧ ∃ eb97, e95 = envL [(2, (.pointer (some ⟨b2, 0, none⟩))), (3, (.bool false)), (6, (.pointer (some ⟨b29, 0, none⟩))), (14, (.int .i64 ((((rdNum ((rdNum ((rdNum ((rdNum (openSt b 3) 2).2) 1099511627776).2) 65536).2) 64).1) : Nat) : Int))), (15, (.pointer (some ⟨b80, 0, none⟩))), (16, (.int .i64 ((j : Nat) : Int)))] eb97 ∧ Ctx w nob w96 [boxR b80 110 [[(slV x73.bh x73.b)], [(.bool x73.bad)]], boxR b65 110 [[(slV x58.bh x58.b)], [(.bool x58.bad)]], boxR b50 110 [[(slV x43.bh x43.b)], [(.bool x43.bad)]], boxR b29 47 [[(.slice none 0 0)], [(.int .i64 ((((rdNum ((rdNum (openSt b 3) 2).2) 1099511627776).1) : Nat) : Int))], [(.int .i64 ((((rdNum ((rdNum ((rdNum (openSt b 3) 2).2) 1099511627776).2) 65536).1) : Nat) : Int))], [(.slice none 0 0)], (idCells zeroId), [(.string ByteArray.empty)]], boxR b21 110 [[(slV x14.bh x14.b)], [(.bool x14.bad)]], boxR b2 47 [[(.slice none 0 0)], [(.int .i64 0)], [(.int .i64 0)], [(.slice none 0 0)], (idCells zeroId), [(.string ByteArray.empty)]]] [slI (Old w) encB 1 x73.bh x73.b, slI (Old w) encB 1 x58.bh x58.b, slI (Old w) encB 1 x43.bh x43.b, slI (Old w) encB 1 x14.bh x14.b, slI (Old w) encB 1 x7.bh x7.b, slI (Old w) encB 1 hb b]) _ ⟨0, rfl, (by rw [hq]; rfl), _, envL_self ⟨rfl, rfl, rfl, rfl, rfl, rfl, trivial⟩, H93⟩ ?_
  rintro m94 _ w96 ⟨j, rfl, hz2, eb97, rfl, H98⟩
  refine W_seq (W_seq ?_)
  refine W_rg [(0, .q 0), (1, .q 0), (2, .q 0), (3, .q 0), (4, .q 0), (5, .q 0), (6, .q 0), (7, .q 0)] (by kernel_rfl) ?_
  refine Lx_q (i := 0) rfl rfl _ (fun v99 hv100 => R_move (v := (.int .i64 ((j : Nat) : Int))) rfl ⟨rfl, Gr.refl _ _⟩) ?_
  refine Lx_q (i := 1) rfl rfl _ (fun v101 hv102 => R_move (v := (.int .i64 ((((rdNum ((rdNum ((rdNum ((rdNum (openSt b 3) 2).2) 1099511627776).2) 65536).2) 64).1) : Nat) : Int))) rfl ⟨rfl, Gr.refl _ _⟩) ?_
  refine Lx_q (i := 2) rfl rfl _ (fun v103 hv104 => R_cmp (a := ((j : Nat) : Int)) (b := ((((rdNum ((rdNum ((rdNum ((rdNum (openSt b 3) 2).2) 1099511627776).2) 65536).2) 64).1) : Nat) : Int)) (r := (decide (((j : Nat) : Int) < ((((rdNum ((rdNum ((rdNum ((rdNum (openSt b 3) 2).2) 1099511627776).2) 65536).2) 64).1) : Nat) : Int)))) rfl rfl rfl ⟨rfl, Gr.refl _ _⟩) ?_
  refine Lx_q (i := 3) rfl rfl _ (fun v105 hv106 => R_move (v := (.bool (decide (((j : Nat) : Int) < ((((rdNum ((rdNum ((rdNum ((rdNum (openSt b 3) 2).2) 1099511627776).2) 65536).2) 64).1) : Nat) : Int))))) rfl ⟨rfl, Gr.refl _ _⟩) ?_
  refine Lx_qg (i := 4) true (decide (((j : Nat) : Int) < ((((rdNum ((rdNum ((rdNum ((rdNum (openSt b 3) 2).2) 1099511627776).2) 65536).2) 64).1) : Nat) : Int))) rfl rfl rfl rfl rfl (decide (((j : Nat) : Int) < ((((rdNum ((rdNum ((rdNum ((rdNum (openSt b 3) 2).2) 1099511627776).2) 65536).2) 64).1) : Nat) : Int))) ga_t _ (fun hA v107 hv108 => R_fieldAddr (off := 1) (oo := 1) Tryz.underlying110 rfl rfl Tryz.sizeOf4 rfl rfl ⟨rfl, Gr.refl _ _⟩) ?_
  refine Lx_qg (i := 5) true (decide (((j : Nat) : Int) < ((((rdNum ((rdNum ((rdNum ((rdNum (openSt b 3) 2).2) 1099511627776).2) 65536).2) 64).1) : Nat) : Int))) rfl rfl rfl rfl rfl (decide (((j : Nat) : Int) < ((((rdNum ((rdNum ((rdNum ((rdNum (openSt b 3) 2).2) 1099511627776).2) 65536).2) 64).1) : Nat) : Int))) ga_t _ (fun hA v109 hv110 => R_load1 (v := (.bool x73.bad)) Tryz.isAgg4 (gv_t hA) ((boxR_at ((H98.ext hv110).getOwn 0 rfl)).chunks 1 1 1 1 _ rfl rfl rfl) ⟨rfl, Gr.refl _ _⟩) ?_
  refine Lx_qg (i := 6) true (decide (((j : Nat) : Int) < ((((rdNum ((rdNum ((rdNum ((rdNum (openSt b 3) 2).2) 1099511627776).2) 65536).2) 64).1) : Nat) : Int))) rfl rfl rfl rfl rfl (decide (((j : Nat) : Int) < ((((rdNum ((rdNum ((rdNum ((rdNum (openSt b 3) 2).2) 1099511627776).2) 65536).2) 64).1) : Nat) : Int))) ga_t _ (fun hA v111 hv112 => R_not (gv_t hA) ⟨rfl, Gr.refl _ _⟩) ?_
  refine Lx_q (i := 7) rfl rfl _ (fun v113 hv114 => R_pick (t := (decide (((j : Nat) : Int) < ((((rdNum ((rdNum ((rdNum ((rdNum (openSt b 3) 2).2) 1099511627776).2) 65536).2) 64).1) : Nat) : Int)))) (v := (.bool ((decide (((j : Nat) : Int) < ((((rdNum ((rdNum ((rdNum ((rdNum (openSt b 3) 2).2) 1099511627776).2) 65536).2) 64).1) : Nat) : Int))) && (!x73.bad)))) rfl pk_and ⟨rfl, Gr.refl _ _⟩) ?_
  refine Lx_nil (fun w115 hw116 => ?_)
  have H117 := H98.ext hw116
  refine Then_n ?_
  refine W_cond (t := ((decide (((j : Nat) : Int) < ((((rdNum ((rdNum ((rdNum ((rdNum (openSt b 3) 2).2) 1099511627776).2) 65536).2) 64).1) : Nat) : Int))) && (!x73.bad))) rfl (fun hc118 => ?_) (fun hc118 => ?_)
  ·have hc118 : ((((j : Nat) : Int) < ((((rdNum ((rdNum ((rdNum ((rdNum (openSt b 3) 2).2) 1099511627776).2) 65536).2) 64).1) : Nat) : Int)) ∧ x73.bad = false) := (And.imp (fun h => (of_decide_eq_true h)) (fun h => (notT h)) (andT hc118))
   refine W_skip (Then_n ?_)
   exfalso; omega
  ·have hc118 : (¬ (((j : Nat) : Int) < ((((rdNum ((rdNum ((rdNum ((rdNum (openSt b 3) 2).2) 1099511627776).2) 65536).2) 64).1) : Nat) : Int)) ∨ x73.bad = true) := (Or.imp (fun h => (of_decide_eq_false h)) (fun h => (notF h)) (andF hc118))
   refine W_exit (Then_x (Then_x (Blk_x (Then_n (W_seq (W_reg ?_))))))
   refine O_v rfl (R_loadA (cs := [[(slV x73.bh x73.b)], [(.bool x73.bad)]]) Tryz.isAgg110 Tryz.sizeOf110 rfl rfl ((boxR_at (H117.getOwn 0 rfl)).chunks 0 2 0 0 _ rfl rfl rfl) ?_)
   refine O_v rfl (R_callL (vs := [(aggOf (rdCh x73))]) ref04_ChangeNo_c76 rfl rfl ((ref02_GetId x73 (Old w) ((rdNum ((rdNum ((rdNum ((rdNum (openSt b 3) 2).2) 1099511627776).2) 65536).2) 64).2) w115 (H117.sl 0 rfl) (H117.imm _ (List.mem_of_getElem? (i := 0) rfl)).2 hr76).ret ?_))
   rintro _ w120 ⟨x119, rfl, hx121, hr122, hs123⟩
   have H124 := H117.ext hx121
   have H125 := H124.immOf 0 rfl (slI (Old w) encB 1 x119.bh x119.b) (fun _ h => h) (fun _ => hs123)
   refine O_v rfl (R_move (v := (.tuple #[(aggOf (idCh ((rdId ((rdNum ((rdNum ((rdNum ((rdNum (openSt b 3) 2).2) 1099511627776).2) 65536).2) 64).2)).1))), (aggOf (rdCh x119))])) rfl ?_)
   refine O_v rfl (R_extract (v := (aggOf (idCh ((rdId ((rdNum ((rdNum ((rdNum ((rdNum (openSt b 3) 2).2) 1099511627776).2) 65536).2) 64).2)).1)))) rfl rfl ?_)
   refine O_v rfl (R_extract (v := (aggOf (rdCh x119))) rfl rfl ?_)
   refine O_v rfl (C_alloc H125 [(idCells zeroId)] Tryz.zeroValue44 ?_)
   intro b126 w127 hb128 hx129 H130
   refine O_v rfl (C_alloc H130 [[(.slice none 0 0)], [(.bool false)]] Tryz.zeroValue110 ?_)
   intro b131 w132 hb133 hx134 H135
   refine O_u (C_storeA H135 1 rfl 0 (sub := [(idCells ((rdId ((rdNum ((rdNum ((rdNum ((rdNum (openSt b 3) 2).2) 1099511627776).2) 65536).2) 64).2)).1))]) [(idCells ((rdId ((rdNum ((rdNum ((rdNum ((rdNum (openSt b 3) 2).2) 1099511627776).2) 65536).2) 64).2)).1))] Tryz.sizeOf44 rfl rfl rfl rfl ⟨[(idCells zeroId)], [], rfl, rfl, rfl⟩ rfl ?_)
   intro w136 hg137 H138
   refine O_u (C_storeA H138 0 rfl 0 (sub := [[(slV x119.bh x119.b)], [(.bool x119.bad)]]) [[(slV x119.bh x119.b)], [(.bool x119.bad)]] Tryz.sizeOf110 rfl rfl rfl rfl ⟨[[(.slice none 0 0)], [(.bool false)]], [], rfl, rfl, rfl⟩ rfl ?_)
   intro w139 hg140 H141
   refine O_nil (Then_n (W_seq (W_reg ?_)))
   refine O_v rfl (R_loadA (cs := [[(slV x119.bh x119.b)], [(.bool x119.bad)]]) Tryz.isAgg110 Tryz.sizeOf110 rfl rfl ((boxR_at (H141.getOwn 0 rfl)).chunks 0 2 0 0 _ rfl rfl rfl) ?_)
   refine O_v rfl (R_callL (vs := [(aggOf (rdCh x119)), (.int .i64 200)]) ref04_ChangeNo_c78 rfl rfl ((ref02_GetText x119 (Old w) ((rdId ((rdNum ((rdNum ((rdNum ((rdNum (openSt b 3) 2).2) 1099511627776).2) 65536).2) 64).2)).2) 200 w139 (H141.sl 0 rfl) (H141.imm _ (List.mem_of_getElem? (i := 0) rfl)).2 hr122).ret ?_))
   rintro _ w143 ⟨x142, rfl, hx144, hr145, hs146⟩
   have H147 := H141.ext hx144
   have H148 := H147.immOf 0 rfl (slI (Old w) encB 1 x142.bh x142.b) (fun _ h => h) (fun _ => hs146)
   refine O_v rfl (R_move (v := (.tuple #[(.string ((rdText ((rdId ((rdNum ((rdNum ((rdNum ((rdNum (openSt b 3) 2).2) 1099511627776).2) 65536).2) 64).2)).2) 200).1)), (aggOf (rdCh x142))])) rfl ?_)
   refine O_v rfl (R_extract (v := (.string ((rdText ((rdId ((rdNum ((rdNum ((rdNum ((rdNum (openSt b 3) 2).2) 1099511627776).2) 65536).2) 64).2)).2) 200).1))) rfl rfl ?_)
   refine O_v rfl (R_extract (v := (aggOf (rdCh x142))) rfl rfl ?_)
   refine O_v rfl (C_alloc H148 [[(.slice none 0 0)], [(.bool false)]] Tryz.zeroValue110 ?_)
   intro b149 w150 hb151 hx152 H153
   refine O_v rfl (R_assign (v := (.string ((rdText ((rdId ((rdNum ((rdNum ((rdNum ((rdNum (openSt b 3) 2).2) 1099511627776).2) 65536).2) 64).2)).2) 200).1))) rfl ?_)
   refine O_u (C_storeA H153 0 rfl 0 (sub := [[(slV x142.bh x142.b)], [(.bool x142.bad)]]) [[(slV x142.bh x142.b)], [(.bool x142.bad)]] Tryz.sizeOf110 rfl rfl rfl rfl ⟨[[(.slice none 0 0)], [(.bool false)]], [], rfl, rfl, rfl⟩ rfl ?_)
   intro w154 hg155 H156
   refine O_nil (Then_n (W_seq (W_reg ?_)))
   refine O_v rfl (R_loadA (cs := [(idCells ((rdId ((rdNum ((rdNum ((rdNum ((rdNum (openSt b 3) 2).2) 1099511627776).2) 65536).2) 64).2)).1))]) Tryz.isAgg44 Tryz.sizeOf44 rfl rfl ((boxR_at (H156.getOwn 2 rfl)).chunks 0 1 0 0 _ rfl rfl rfl) ?_)
   refine O_v rfl (R_fieldAddr (off := 4) (oo := 4) Tryz.underlying47 rfl rfl Tryz.sizeOf45 rfl rfl ?_)
   refine O_u (C_storeA H156 6 rfl 4 (sub := [(idCells ((rdId ((rdNum ((rdNum ((rdNum ((rdNum (openSt b 3) 2).2) 1099511627776).2) 65536).2) 64).2)).1))]) [[(.slice none 0 0)], [(.int .i64 ((((rdNum ((rdNum (openSt b 3) 2).2) 1099511627776).1) : Nat) : Int))], [(.int .i64 ((((rdNum ((rdNum ((rdNum (openSt b 3) 2).2) 1099511627776).2) 65536).1) : Nat) : Int))], [(.slice none 0 0)], (idCells ((rdId ((rdNum ((rdNum ((rdNum ((rdNum (openSt b 3) 2).2) 1099511627776).2) 65536).2) 64).2)).1)), [(.string ByteArray.empty)]] Tryz.sizeOf45 rfl rfl rfl rfl ⟨[(idCells zeroId)], [[(.string ByteArray.empty)]], rfl, rfl, rfl⟩ rfl ?_)
   intro w157 hg158 H159
   refine O_nil (Then_n (W_seq (W_reg ?_)))
   refine O_v rfl (R_move (v := (.string ((rdText ((rdId ((rdNum ((rdNum ((rdNum ((rdNum (openSt b 3) 2).2) 1099511627776).2) 65536).2) 64).2)).2) 200).1))) rfl ?_)
   refine O_v rfl (R_fieldAddr (off := 36) (oo := 36) Tryz.underlying47 rfl rfl Tryz.sizeOf9 rfl rfl ?_)
   refine O_u (C_store1 H159 6 rfl 5 (v := (.string ((rdText ((rdId ((rdNum ((rdNum ((rdNum ((rdNum (openSt b 3) 2).2) 1099511627776).2) 65536).2) 64).2)).2) 200).1))) [[(.slice none 0 0)], [(.int .i64 ((((rdNum ((rdNum (openSt b 3) 2).2) 1099511627776).1) : Nat) : Int))], [(.int .i64 ((((rdNum ((rdNum ((rdNum (openSt b 3) 2).2) 1099511627776).2) 65536).1) : Nat) : Int))], [(.slice none 0 0)], (idCells ((rdId ((rdNum ((rdNum ((rdNum ((rdNum (openSt b 3) 2).2) 1099511627776).2) 65536).2) 64).2)).1)), [(.string ((rdText ((rdId ((rdNum ((rdNum ((rdNum ((rdNum (openSt b 3) 2).2) 1099511627776).2) 65536).2) 64).2)).2) 200).1))]] Tryz.sizeOf9 rfl rfl rfl rfl rfl rfl rfl ?_)
   intro w160 hg161 H162
   refine O_nil (Then_n (W_seq (W_seq ?_)))
   refine W_rg [(0, .q 0), (1, .q 0), (2, .q 0), (3, .q 0), (4, .q 0), (5, .q 0), (6, .q 0), (7, .q 0)] (by kernel_rfl) ?_
   refine Lx_q (i := 0) rfl rfl _ (fun v163 hv164 => R_loadA (cs := [[(slV x142.bh x142.b)], [(.bool x142.bad)]]) Tryz.isAgg110 Tryz.sizeOf110 rfl rfl ((boxR_at ((H162.ext hv164).getOwn 0 rfl)).chunks 0 2 0 0 _ rfl rfl rfl) ⟨rfl, Gr.refl _ _⟩) ?_
   refine Lx_q (i := 1) rfl rfl (.bool false) (fun v165 hv166 => R_callL (vs := [(aggOf (rdCh x142))]) ref04_ChangeNo_c75 rfl rfl ((ref02_Done x142 (Old w) ((rdText ((rdId ((rdNum ((rdNum ((rdNum ((rdNum (openSt b 3) 2).2) 1099511627776).2) 65536).2) 64).2)).2) 200).2) v165 ((H162.ext hv166).sl 0 rfl) ((H162.ext hv166).imm _ (List.mem_of_getElem? (i := 0) rfl)).2 hr145).ret (fun _ _ h => ⟨h.1.trans (congrArg Value.bool (by rw [hq]; rfl)), h.2⟩))) ?_
   refine Lx_q (i := 2) rfl rfl _ (fun v167 hv168 => R_not rfl ⟨rfl, Gr.refl _ _⟩) ?_
   refine Lx_q (i := 3) rfl rfl _ (fun v169 hv170 => R_move (v := (.bool true)) rfl ⟨rfl, Gr.refl _ _⟩) ?_
   refine Lx_qg (i := 4) true true rfl rfl rfl rfl rfl false rfl undef (fun hA => (nomatch hA)) ?_
   refine Lx_qg (i := 5) true true rfl rfl rfl rfl rfl false rfl undef (fun hA => (nomatch hA)) ?_
   refine Lx_qg (i := 6) true true rfl rfl rfl rfl rfl false rfl undef (fun hA => (nomatch hA)) ?_
   refine Lx_q (i := 7) rfl rfl _ (fun v171 hv172 => R_pick (t := true) (v := (.bool true)) rfl rfl ⟨rfl, Gr.refl _ _⟩) ?_
   refine Lx_nil (fun w173 hw174 => ?_)
   have H175 := H162.ext hw174
   refine Then_n ?_
   refine W_cond_t rfl ?_
   refine W_seq (W_reg ?_)
   refine O_v rfl (R_buildL (vs := []) (v := aggOf [[(.slice none 0 0)], [(.int .i64 0)], [(.int .i64 0)], [(.slice none 0 0)], (idCells zeroId), [(.string ByteArray.empty)]]) rfl (fun _ => by kernel_rfl) ?_)
   refine O_u (C_storeA H175 8 rfl 0 (sub := [[(.slice none 0 0)], [(.int .i64 0)], [(.int .i64 0)], [(.slice none 0 0)], (idCells zeroId), [(.string ByteArray.empty)]]) [[(.slice none 0 0)], [(.int .i64 0)], [(.int .i64 0)], [(.slice none 0 0)], (idCells zeroId), [(.string ByteArray.empty)]] Tryz.sizeOf47 rfl rfl rfl rfl ⟨[[(.slice none 0 0)], [(.int .i64 0)], [(.int .i64 0)], [(.slice none 0 0)], (idCells zeroId), [(.string ByteArray.empty)]], [], rfl, rfl, rfl⟩ rfl ?_)
   intro w176 hg177 H178
   refine O_v rfl (R_assign (v := (.bool false)) rfl ?_)
   refine O_nil (Then_n (W_ret (Then_r ?_)))
   refine ret_ct (v := (.bool false)) Tryz.results33 (inMem (cs := [[(.slice none 0 0)], [(.int .i64 0)], [(.int .i64 0)], [(.slice none 0 0)], (idCells zeroId), [(.string ByteArray.empty)]]) rfl Tryz.isAgg47 Tryz.sizeOf47 rfl (boxR_at (H178.getOwn 8 rfl))) rfl ?_
   exact ⟨rfl, H178.gr⟩

end Go.Proofs.YthjdhfoeckfmbaaGreat
namespace Go.Proofs.YthjdhfoeckfmbaaGreat
open Go
set_option maxRecDepth 100000
set_option linter.unusedVariables false
set_option linter.unusedSimpArgs false
set_option linter.unusedSectionVars false
variable [DD]
theorem ref04_DirNo_c72 : callable Tryz.prog 72 = true := by kernel_rfl
theorem ref04_DirNo_c73 : callable Tryz.prog 73 = true := by kernel_rfl
theorem ref04_DirNo_c75 : callable Tryz.prog 75 = true := by kernel_rfl
set_option maxHeartbeats 1000000 in
theorem ref04_DirNo (hb : SlH) (b : List UInt8) (w : World) (Sb : Sl (Old w) encB 1 hb b w) (hq : openSt b 2 = ([], true)) :
    Calls Tryz.prog 32 #[(slV hb b)] w (Ret fun v w' => v = .tuple #[(.slice none 0 0), (.bool false)] ∧ Ext w w') := by
 refine calls_W Tryz.func32 rfl Tryz.ntmps32 rfl ?_
 have H0 := Ctx.start w nob
 have H1 := H0.addSl _ Sb (fun b hb => ⟨hb, fun _ ho => (nomatch ho)⟩)
 have LSb := Sb.len
 refine W_seq (W_reg ?_)
 refine O_v rfl (R_assign (v := (.slice none 0 0)) rfl ?_)
 refine O_v rfl (R_assign (v := (.bool false)) rfl ?_)
 refine O_nil (Then_n (W_seq (W_reg ?_)))
 refine O_v rfl (R_move (v := (slV hb b)) rfl ?_)
 refine O_v rfl (R_callL (vs := [(slV hb b), (.int .u8 2)]) ref04_DirNo_c73 rfl rfl ((ref04_open hb b (Old w) 2 w (H1.sl 0 rfl) (H1.imm _ (List.mem_of_getElem? (i := 0) rfl)).2).ret ?_))
 rintro _ w3 ⟨x2, rfl, hx4, hr5, hs6⟩
 have H7 := H1.ext hx4
 have H8 := H7.immOf 0 rfl (slI (Old w) encB 1 x2.bh x2.b) (fun _ h => h) (fun _ => hs6)
 refine O_v rfl (R_callL (vs := [(aggOf (rdCh x2)), (.int .i64 1000)]) ref04_DirNo_c72 rfl rfl ((ref02_GetNum x2 (Old w) (openSt b 2) 1000 w3 (H8.sl 0 rfl) (H8.imm _ (List.mem_of_getElem? (i := 0) rfl)).2 hr5).ret ?_))
 rintro _ w10 ⟨x9, rfl, hx11, hr12, hs13⟩
 have H14 := H8.ext hx11
 have H15 := H14.immOf 0 rfl (slI (Old w) encB 1 x9.bh x9.b) (fun _ h => h) (fun _ => hs13)
 refine O_v rfl (R_move (v := (.tuple #[(.int .i64 ((((rdNum (openSt b 2) 1000).1) : Nat) : Int)), (aggOf (rdCh x9))])) rfl ?_)
 refine O_v rfl (R_extract (v := (.int .i64 ((((rdNum (openSt b 2) 1000).1) : Nat) : Int))) rfl rfl ?_)
 refine O_v rfl (R_extract (v := (aggOf (rdCh x9))) rfl rfl ?_)
 refine O_v rfl (C_alloc H15 [[(.slice none 0 0)], [(.bool false)]] Tryz.zeroValue110 ?_)
 intro b16 w17 hb18 hx19 H20
 refine O_v rfl (R_assign (v := (.int .i64 ((((rdNum (openSt b 2) 1000).1) : Nat) : Int))) rfl ?_)
 refine O_u (C_storeA H20 0 rfl 0 (sub := [[(slV x9.bh x9.b)], [(.bool x9.bad)]]) [[(slV x9.bh x9.b)], [(.bool x9.bad)]] Tryz.sizeOf110 rfl rfl rfl rfl ⟨[[(.slice none 0 0)], [(.bool false)]], [], rfl, rfl, rfl⟩ rfl ?_)
 intro w21 hg22 H23
 refine O_nil (Then_n (W_seq (W_reg ?_)))
 refine O_v rfl (C_buildSliceL H23 (enc := itemCh) (val := itemV) ([] : List ItemS) Tryz.underlying31 Tryz.sizeOf77 Tryz.zeroValue77 rfl (by decide) (fun _ => rfl) (fun _ => rfl) rfl rfl (by decide) ?_)
 intro b24 w25 hb26 hx27 H28
 refine O_v rfl (R_assign (v := (slV ⟨some ⟨b24, 0, none⟩, b24, 0, 0⟩ ([] : List ItemS))) rfl ?_)
 refine O_nil (Then_n (W_seq (W_seq (W_reg ?_))))
 refine O_v rfl (R_assign (v := (.int .i64 0)) rfl ?_)
 refine O_nil (Then_n (W_block ?_))
 refine W_loop (fun m30 e31 w32 => ∃ (k : Nat), ∃ (acc : List ItemS), ∃ (h29 : SlH), m30 = 0 ∧ ((rdNum (openSt b 2) 1000).1 = 0) ∧ ∃ eb33, e31 = envL [(2, (.slice none 0 0)), (3, (.bool false)), (4, (.int .i64 ((((rdNum (openSt b 2) 1000).1) : Nat) : Int))), (5, (.pointer (some ⟨b16, 0, none⟩))), (6, (slV h29 acc)), (7, (.int .i64 ((k : Nat) : Int)))] eb33 ∧ Ctx w nob w32 [rowR 77 38 itemCh h29 acc, boxR b16 110 [[(slV x9.bh x9.b)], [(.bool x9.bad)]]] [slI (Old w) encB 1 x9.bh x9.b, slI (Old w) encB 1 x2.bh x2.b, slI (Old w) encB 1 hb b]) _ ⟨0, [], ⟨some ⟨b24, 0, none⟩, b24, 0, 0⟩, rfl, (by rw [hq]; rfl), _, envL_self ⟨rfl, rfl, rfl, rfl, rfl, rfl, trivial⟩, H28⟩ ?_
 rintro m30 _ w32 ⟨k, acc, h29, rfl, hz, eb33, rfl, H34⟩
 refine W_seq (W_seq ?_)
 refine W_rg [(0, .q 0), (1, .q 0), (2, .q 0), (3, .q 0), (4, .q 0), (5, .q 0), (6, .q 0), (7, .q 0)] (by kernel_rfl) ?_
 refine Lx_q (i := 0) rfl rfl _ (fun v35 hv36 => R_move (v := (.int .i64 ((k : Nat) : Int))) rfl ⟨rfl, Gr.refl _ _⟩) ?_
 refine Lx_q (i := 1) rfl rfl _ (fun v37 hv38 => R_move (v := (.int .i64 ((((rdNum (openSt b 2) 1000).1) : Nat) : Int))) rfl ⟨rfl, Gr.refl _ _⟩) ?_
 refine Lx_q (i := 2) rfl rfl _ (fun v39 hv40 => R_cmp (a := ((k : Nat) : Int)) (b := ((((rdNum (openSt b 2) 1000).1) : Nat) : Int)) (r := (decide (((k : Nat) : Int) < ((((rdNum (openSt b 2) 1000).1) : Nat) : Int)))) rfl rfl rfl ⟨rfl, Gr.refl _ _⟩) ?_
 refine Lx_q (i := 3) rfl rfl _ (fun v41 hv42 => R_move (v := (.bool (decide (((k : Nat) : Int) < ((((rdNum (openSt b 2) 1000).1) : Nat) : Int))))) rfl ⟨rfl, Gr.refl _ _⟩) ?_
 refine Lx_qg (i := 4) true (decide (((k : Nat) : Int) < ((((rdNum (openSt b 2) 1000).1) : Nat) : Int))) rfl rfl rfl rfl rfl (decide (((k : Nat) : Int) < ((((rdNum (openSt b 2) 1000).1) : Nat) : Int))) ga_t _ (fun hA v43 hv44 => R_fieldAddr (off := 1) (oo := 1) Tryz.underlying110 rfl rfl Tryz.sizeOf4 rfl rfl ⟨rfl, Gr.refl _ _⟩) ?_
 refine Lx_qg (i := 5) true (decide (((k : Nat) : Int) < ((((rdNum (openSt b 2) 1000).1) : Nat) : Int))) rfl rfl rfl rfl rfl (decide (((k : Nat) : Int) < ((((rdNum (openSt b 2) 1000).1) : Nat) : Int))) ga_t _ (fun hA v45 hv46 => R_load1 (v := (.bool x9.bad)) Tryz.isAgg4 (gv_t hA) ((boxR_at ((H34.ext hv46).getOwn 1 rfl)).chunks 1 1 1 1 _ rfl rfl rfl) ⟨rfl, Gr.refl _ _⟩) ?_
 refine Lx_qg (i := 6) true (decide (((k : Nat) : Int) < ((((rdNum (openSt b 2) 1000).1) : Nat) : Int))) rfl rfl rfl rfl rfl (decide (((k : Nat) : Int) < ((((rdNum (openSt b 2) 1000).1) : Nat) : Int))) ga_t _ (fun hA v47 hv48 => R_not (gv_t hA) ⟨rfl, Gr.refl _ _⟩) ?_
 refine Lx_q (i := 7) rfl rfl _ (fun v49 hv50 => R_pick (t := (decide (((k : Nat) : Int) < ((((rdNum (openSt b 2) 1000).1) : Nat) : Int)))) (v := (.bool ((decide (((k : Nat) : Int) < ((((rdNum (openSt b 2) 1000).1) : Nat) : Int))) && (!x9.bad)))) rfl pk_and ⟨rfl, Gr.refl _ _⟩) ?_
 refine Lx_nil (fun w51 hw52 => ?_)
 have H53 := H34.ext hw52
 refine Then_n ?_
 refine W_cond (t := ((decide (((k : Nat) : Int) < ((((rdNum (openSt b 2) 1000).1) : Nat) : Int))) && (!x9.bad))) rfl (fun hc54 => ?_) (fun hc54 => ?_)
 ·have hc54 : ((((k : Nat) : Int) < ((((rdNum (openSt b 2) 1000).1) : Nat) : Int)) ∧ x9.bad = false) := (And.imp (fun h => (of_decide_eq_true h)) (fun h => (notT h)) (andT hc54))
  refine W_skip (Then_n ?_)
  exfalso; omega
 ·have hc54 : (¬ (((k : Nat) : Int) < ((((rdNum (openSt b 2) 1000).1) : Nat) : Int)) ∨ x9.bad = true) := (Or.imp (fun h => (of_decide_eq_false h)) (fun h => (notF h)) (andF hc54))
  refine W_exit (Then_x (Then_x (Blk_x (Then_n (W_seq (W_seq ?_))))))
  refine W_rg [(0, .q 0), (1, .q 0), (2, .q 0), (3, .q 0), (4, .q 0), (5, .q 0), (6, .q 0), (7, .q 0)] (by kernel_rfl) ?_
  refine Lx_q (i := 0) rfl rfl _ (fun v55 hv56 => R_loadA (cs := [[(slV x9.bh x9.b)], [(.bool x9.bad)]]) Tryz.isAgg110 Tryz.sizeOf110 rfl rfl ((boxR_at ((H53.ext hv56).getOwn 1 rfl)).chunks 0 2 0 0 _ rfl rfl rfl) ⟨rfl, Gr.refl _ _⟩) ?_
  refine Lx_q (i := 1) rfl rfl (.bool false) (fun v57 hv58 => R_callL (vs := [(aggOf (rdCh x9))]) ref04_DirNo_c75 rfl rfl ((ref02_Done x9 (Old w) ((rdNum (openSt b 2) 1000).2) v57 ((H53.ext hv58).sl 0 rfl) ((H53.ext hv58).imm _ (List.mem_of_getElem? (i := 0) rfl)).2 hr12).ret (fun _ _ h => ⟨h.1.trans (congrArg Value.bool (by rw [hq]; rfl)), h.2⟩))) ?_
  refine Lx_q (i := 2) rfl rfl _ (fun v59 hv60 => R_not rfl ⟨rfl, Gr.refl _ _⟩) ?_
  refine Lx_q (i := 3) rfl rfl _ (fun v61 hv62 => R_move (v := (.bool true)) rfl ⟨rfl, Gr.refl _ _⟩) ?_
  refine Lx_qg (i := 4) true true rfl rfl rfl rfl rfl false rfl undef (fun hA => (nomatch hA)) ?_
  refine Lx_qg (i := 5) true true rfl rfl rfl rfl rfl false rfl undef (fun hA => (nomatch hA)) ?_
  refine Lx_qg (i := 6) true true rfl rfl rfl rfl rfl false rfl undef (fun hA => (nomatch hA)) ?_
  refine Lx_q (i := 7) rfl rfl _ (fun v63 hv64 => R_pick (t := true) (v := (.bool true)) rfl rfl ⟨rfl, Gr.refl _ _⟩) ?_
  refine Lx_nil (fun w65 hw66 => ?_)
  have H67 := H53.ext hw66
  refine Then_n ?_
  refine W_cond_t rfl ?_
  refine W_seq (W_reg ?_)
  refine O_v rfl (R_assign (v := (.slice none 0 0)) rfl ?_)
  refine O_v rfl (R_assign (v := (.bool false)) rfl ?_)
  refine O_nil (Then_n (W_ret (Then_r ?_)))
  refine ret_2 (v := (.slice none 0 0)) (v' := (.bool false)) Tryz.results32 rfl rfl ?_
  exact ⟨rfl, H67.gr⟩

end Go.Proofs.YthjdhfoeckfmbaaGreat
namespace Go.Proofs.YthjdhfoeckfmbaaGreat
open Go
set_option maxRecDepth 100000
set_option linter.unusedVariables false
set_option linter.unusedSimpArgs false
set_option linter.unusedSectionVars false
variable [DD]
set_option maxHeartbeats 1000000 in
theorem ref03_Name (s : ByteArray) (w : World) (hl : s.size ≤ 9223372036854775807) :
    Calls Tryz.prog 71 #[(.string s)] w (Ret fun v w' => v = (.bool (nameOk s)) ∧ Ext w w') := by
 refine calls_W Tryz.func71 rfl Tryz.ntmps71 rfl ?_
 have H0 := Ctx.start w nob
 refine W_seq (W_reg ?_)
 refine O_v rfl (R_assign (v := (.bool false)) rfl ?_)
 refine O_nil (Then_n (W_seq (W_seq (W_reg ?_))))
 refine O_v rfl (R_assign (v := (.int .i64 0)) rfl ?_)
 refine O_nil (Then_n (W_block ?_))
 refine W_loop (fun m1 e2 w3 => ∃ (k : Nat), m1 = s.size - k ∧ (k ≤ s.size) ∧ (∀ j, j < k → badByte (sbyte s j) = false) ∧ ∃ eb4, e2 = envL [(0, (.string s)), (3, (.int .i64 ((k : Nat) : Int)))] eb4 ∧ Ctx w nob w3 [] []) _ ⟨0, rfl, (by omega), (all_zero _), _, envL_self ⟨rfl, rfl, trivial⟩, H0⟩ ?_
 rintro m1 _ w3 ⟨k, rfl, hk, hn, eb4, rfl, H5⟩
 refine W_seq (W_seq (W_reg ?_))
 refine O_v rfl (R_move (v := (.int .i64 ((k : Nat) : Int))) rfl ?_)
 refine O_v rfl (R_move (v := (.string s)) rfl ?_)
 refine O_v rfl (R_len_string Tryz.underlying9 rfl ?_)
 refine O_v rfl (R_cmp (a := ((k : Nat) : Int)) (b := ((s.size : Nat) : Int)) (r := (decide (((k : Nat) : Int) < ((s.size : Nat) : Int)))) rfl rfl rfl ?_)
 refine O_nil (Then_n ?_)
 refine W_cond (t := (decide (((k : Nat) : Int) < ((s.size : Nat) : Int)))) rfl (fun hc6 => ?_) (fun hc6 => ?_)
 ·have hc6 : (((k : Nat) : Int) < ((s.size : Nat) : Int)) := (of_decide_eq_true hc6)
  refine W_skip (Then_n (W_seq (W_block (W_seq ?_))))
  refine W_rg [(0, .q 0), (1, .q 0), (2, .q 0), (3, .q 0), (4, .q 0), (5, .q 0), (6, .q 0), (7, .q 0), (8, .q 0), (9, .q 0), (10, .q 0), (11, .q 0), (12, .q 0), (13, .q 0), (14, .q 0), (15, .q 0)] (by kernel_rfl) ?_
  refine Lx_q (i := 0) rfl rfl _ (fun v7 hv8 => R_move (v := (.string s)) rfl ⟨rfl, Gr.refl _ _⟩) ?_
  refine Lx_q (i := 1) rfl rfl _ (fun v9 hv10 => R_move (v := (.int .i64 ((k : Nat) : Int))) rfl ⟨rfl, Gr.refl _ _⟩) ?_
  refine Lx_q (i := 2) rfl rfl _ (fun v11 hv12 => R_index_s (s := s) (k := k) Tryz.underlying9 rfl rfl rfl (by omega) ⟨rfl, Gr.refl _ _⟩) ?_
  refine Lx_q (i := 3) rfl rfl _ (fun v13 hv14 => R_cmp (a := ((sbyte s k).toNat : Int)) (b := 0) (r := (decide (((sbyte s k).toNat : Int) = 0))) rfl rfl rfl ⟨rfl, Gr.refl _ _⟩) ?_
  refine Lx_q (i := 4) rfl rfl _ (fun v15 hv16 => R_move (v := (.bool (decide (((sbyte s k).toNat : Int) = 0)))) rfl ⟨rfl, Gr.refl _ _⟩) ?_
  refine Lx_qg (i := 5) true (decide (((sbyte s k).toNat : Int) = 0)) rfl rfl rfl rfl rfl (!(decide (((sbyte s k).toNat : Int) = 0))) ga_f _ (fun hA v17 hv18 => R_move (v := (.string s)) rfl ⟨rfl, Gr.refl _ _⟩) ?_
  refine Lx_qg (i := 6) true (decide (((sbyte s k).toNat : Int) = 0)) rfl rfl rfl rfl rfl (!(decide (((sbyte s k).toNat : Int) = 0))) ga_f _ (fun hA v19 hv20 => R_move (v := (.int .i64 ((k : Nat) : Int))) rfl ⟨rfl, Gr.refl _ _⟩) ?_
  refine Lx_qg (i := 7) true (decide (((sbyte s k).toNat : Int) = 0)) rfl rfl rfl rfl rfl (!(decide (((sbyte s k).toNat : Int) = 0))) ga_f _ (fun hA v21 hv22 => by
        have hP : ¬ (((sbyte s k).toNat : Int) = 0) := (of_decide_eq_false (notT hA))
        exact R_index_s (s := s) (k := k) Tryz.underlying9 (gv_t hA) (gv_t hA) rfl (by omega) ⟨rfl, Gr.refl _ _⟩) ?_
  refine Lx_qg (i := 8) true (decide (((sbyte s k).toNat : Int) = 0)) rfl rfl rfl rfl rfl (!(decide (((sbyte s k).toNat : Int) = 0))) ga_f _ (fun hA v23 hv24 => R_cmp (a := ((sbyte s k).toNat : Int)) (b := 47) (r := (decide (((sbyte s k).toNat : Int) = 47))) (gv_t hA) rfl rfl ⟨rfl, Gr.refl _ _⟩) ?_
  refine Lx_q (i := 9) rfl rfl _ (fun v25 hv26 => R_pick (t := (decide (((sbyte s k).toNat : Int) = 0))) (v := (.bool ((decide (((sbyte s k).toNat : Int) = 0)) || (decide (((sbyte s k).toNat : Int) = 47))))) rfl pk_or ⟨rfl, Gr.refl _ _⟩) ?_
  refine Lx_q (i := 10) rfl rfl _ (fun v27 hv28 => R_move (v := (.bool ((decide (((sbyte s k).toNat : Int) = 0)) || (decide (((sbyte s k).toNat : Int) = 47))))) rfl ⟨rfl, Gr.refl _ _⟩) ?_
  refine Lx_qg (i := 11) true ((decide (((sbyte s k).toNat : Int) = 0)) || (decide (((sbyte s k).toNat : Int) = 47))) rfl rfl rfl rfl rfl (!((decide (((sbyte s k).toNat : Int) = 0)) || (decide (((sbyte s k).toNat : Int) = 47)))) ga_f _ (fun hA v29 hv30 => R_move (v := (.string s)) rfl ⟨rfl, Gr.refl _ _⟩) ?_
  refine Lx_qg (i := 12) true ((decide (((sbyte s k).toNat : Int) = 0)) || (decide (((sbyte s k).toNat : Int) = 47))) rfl rfl rfl rfl rfl (!((decide (((sbyte s k).toNat : Int) = 0)) || (decide (((sbyte s k).toNat : Int) = 47)))) ga_f _ (fun hA v31 hv32 => R_move (v := (.int .i64 ((k : Nat) : Int))) rfl ⟨rfl, Gr.refl _ _⟩) ?_
  refine Lx_qg (i := 13) true ((decide (((sbyte s k).toNat : Int) = 0)) || (decide (((sbyte s k).toNat : Int) = 47))) rfl rfl rfl rfl rfl (!((decide (((sbyte s k).toNat : Int) = 0)) || (decide (((sbyte s k).toNat : Int) = 47)))) ga_f _ (fun hA v33 hv34 => by
        have hP : (¬ (((sbyte s k).toNat : Int) = 0) ∧ ¬ (((sbyte s k).toNat : Int) = 47)) := (And.imp (fun h => (of_decide_eq_false h)) (fun h => (of_decide_eq_false h)) (orF (notT hA)))
        exact R_index_s (s := s) (k := k) Tryz.underlying9 (gv_t hA) (gv_t hA) rfl (by omega) ⟨rfl, Gr.refl _ _⟩) ?_
  refine Lx_qg (i := 14) true ((decide (((sbyte s k).toNat : Int) = 0)) || (decide (((sbyte s k).toNat : Int) = 47))) rfl rfl rfl rfl rfl (!((decide (((sbyte s k).toNat : Int) = 0)) || (decide (((sbyte s k).toNat : Int) = 47)))) ga_f _ (fun hA v35 hv36 => R_cmp (a := ((sbyte s k).toNat : Int)) (b := 10) (r := (decide (((sbyte s k).toNat : Int) = 10))) (gv_t hA) rfl rfl ⟨rfl, Gr.refl _ _⟩) ?_
  refine Lx_q (i := 15) rfl rfl _ (fun v37 hv38 => R_pick (t := ((decide (((sbyte s k).toNat : Int) = 0)) || (decide (((sbyte s k).toNat : Int) = 47)))) (v := (.bool (((decide (((sbyte s k).toNat : Int) = 0)) || (decide (((sbyte s k).toNat : Int) = 47))) || (decide (((sbyte s k).toNat : Int) = 10))))) rfl pk_or ⟨rfl, Gr.refl _ _⟩) ?_
  refine Lx_nil (fun w39 hw40 => ?_)
  have H41 := H5.ext hw40
  refine Then_n ?_
  refine W_cond (t := (((decide (((sbyte s k).toNat : Int) = 0)) || (decide (((sbyte s k).toNat : Int) = 47))) || (decide (((sbyte s k).toNat : Int) = 10)))) rfl (fun hc42 => ?_) (fun hc42 => ?_)
  ·have hc42 : (((((sbyte s k).toNat : Int) = 0) ∨ (((sbyte s k).toNat : Int) = 47)) ∨ (((sbyte s k).toNat : Int) = 10)) := (Or.imp (fun h => (Or.imp (fun h => (of_decide_eq_true h)) (fun h => (of_decide_eq_true h)) (orT h))) (fun h => (of_decide_eq_true h)) (orT hc42))
   refine W_seq (W_reg ?_)
   refine O_v rfl (R_assign (v := (.bool false)) rfl ?_)
   refine O_nil (Then_n (W_ret (Blk_r (Then_r (Then_r (Blk_r (Then_r ?_)))))))
   refine ret_1 (v := (.bool false)) Tryz.results71 rfl ?_
   exact ⟨(nameOk_bad (k := k) (by omega) (by assumption)), H41.gr⟩
  ·have hc42 : ((¬ (((sbyte s k).toNat : Int) = 0) ∧ ¬ (((sbyte s k).toNat : Int) = 47)) ∧ ¬ (((sbyte s k).toNat : Int) = 10)) := (And.imp (fun h => (And.imp (fun h => (of_decide_eq_false h)) (fun h => (of_decide_eq_false h)) (orF h))) (fun h => (of_decide_eq_false h)) (orF hc42))
   refine W_skip (Blk_n (Then_n (W_reg ?_)))
   refine O_v rfl (R_move (v := (.int .i64 ((k : Nat) : Int))) rfl ?_)
   refine O_v rfl (R_arith (a := ((k : Nat) : Int)) (b := 1) (r0 := ((k : Nat) : Int) + 1) (r := ((k + 1 : Nat) : Int)) rfl rfl rfl (wrapN _ (by omega)) ?_)
   refine O_v rfl (R_assign (v := (.int .i64 ((k + 1 : Nat) : Int))) rfl ?_)
   refine O_nil (Then_n ?_)
   refine ⟨_, ?_, (k + 1), rfl, (by omega), (all_succ hn (badByte_f (by assumption))), _, envL_self ⟨rfl, rfl, trivial⟩, H41⟩
   omega
 ·have hc6 : ¬ (((k : Nat) : Int) < ((s.size : Nat) : Int)) := (of_decide_eq_false hc6)
  refine W_exit (Then_x (Then_x (Blk_x (Then_n (W_seq ?_)))))
  refine W_rg [(0, .q 0), (1, .q 0), (2, .q 0), (3, .q 0), (4, .q 0), (5, .q 0), (6, .q 0), (7, .q 0), (8, .q 0), (9, .q 0), (10, .q 0), (11, .q 0), (12, .q 0), (13, .q 0), (14, .q 0), (15, .q 0)] (by kernel_rfl) ?_
  refine Lx_q (i := 0) rfl rfl _ (fun v43 hv44 => R_move (v := (.string s)) rfl ⟨rfl, Gr.refl _ _⟩) ?_
  refine Lx_q (i := 1) rfl rfl _ (fun v45 hv46 => R_cmpS (a := s) (b := ByteArray.empty) (r := (!(decide (s = ByteArray.empty)))) rfl rfl rfl ⟨rfl, Gr.refl _ _⟩) ?_
  refine Lx_q (i := 2) rfl rfl _ (fun v47 hv48 => R_move (v := (.bool (!(decide (s = ByteArray.empty))))) rfl ⟨rfl, Gr.refl _ _⟩) ?_
  refine Lx_qg (i := 3) true (!(decide (s = ByteArray.empty))) rfl rfl rfl rfl rfl (!(decide (s = ByteArray.empty))) ga_t _ (fun hA v49 hv50 => R_move (v := (.string s)) rfl ⟨rfl, Gr.refl _ _⟩) ?_
  refine Lx_qg (i := 4) true (!(decide (s = ByteArray.empty))) rfl rfl rfl rfl rfl (!(decide (s = ByteArray.empty))) ga_t _ (fun hA v51 hv52 => R_len_string Tryz.underlying9 (gv_t hA) ⟨rfl, Gr.refl _ _⟩) ?_
  refine Lx_qg (i := 5) true (!(decide (s = ByteArray.empty))) rfl rfl rfl rfl rfl (!(decide (s = ByteArray.empty))) ga_t _ (fun hA v53 hv54 => R_cmp (a := ((s.size : Nat) : Int)) (b := 60) (r := (decide (((s.size : Nat) : Int) ≤ 60))) (gv_t hA) rfl rfl ⟨rfl, Gr.refl _ _⟩) ?_
  refine Lx_q (i := 6) rfl rfl _ (fun v55 hv56 => R_pick (t := (!(decide (s = ByteArray.empty)))) (v := (.bool ((!(decide (s = ByteArray.empty))) && (decide (((s.size : Nat) : Int) ≤ 60))))) rfl pk_and ⟨rfl, Gr.refl _ _⟩) ?_
  refine Lx_q (i := 7) rfl rfl _ (fun v57 hv58 => R_move (v := (.bool ((!(decide (s = ByteArray.empty))) && (decide (((s.size : Nat) : Int) ≤ 60))))) rfl ⟨rfl, Gr.refl _ _⟩) ?_
  refine Lx_qg (i := 8) true ((!(decide (s = ByteArray.empty))) && (decide (((s.size : Nat) : Int) ≤ 60))) rfl rfl rfl rfl rfl ((!(decide (s = ByteArray.empty))) && (decide (((s.size : Nat) : Int) ≤ 60))) ga_t _ (fun hA v59 hv60 => R_move (v := (.string s)) rfl ⟨rfl, Gr.refl _ _⟩) ?_
  refine Lx_qg (i := 9) true ((!(decide (s = ByteArray.empty))) && (decide (((s.size : Nat) : Int) ≤ 60))) rfl rfl rfl rfl rfl ((!(decide (s = ByteArray.empty))) && (decide (((s.size : Nat) : Int) ≤ 60))) ga_t _ (fun hA v61 hv62 => R_cmpS (a := s) (b := (⟨#[46]⟩ : ByteArray)) (r := (!(decide (s = (⟨#[46]⟩ : ByteArray))))) (gv_t hA) rfl rfl ⟨rfl, Gr.refl _ _⟩) ?_
  refine Lx_q (i := 10) rfl rfl _ (fun v63 hv64 => R_pick (t := ((!(decide (s = ByteArray.empty))) && (decide (((s.size : Nat) : Int) ≤ 60)))) (v := (.bool (((!(decide (s = ByteArray.empty))) && (decide (((s.size : Nat) : Int) ≤ 60))) && (!(decide (s = (⟨#[46]⟩ : ByteArray))))))) rfl pk_and ⟨rfl, Gr.refl _ _⟩) ?_
  refine Lx_q (i := 11) rfl rfl _ (fun v65 hv66 => R_move (v := (.bool (((!(decide (s = ByteArray.empty))) && (decide (((s.size : Nat) : Int) ≤ 60))) && (!(decide (s = (⟨#[46]⟩ : ByteArray))))))) rfl ⟨rfl, Gr.refl _ _⟩) ?_
  refine Lx_qg (i := 12) true (((!(decide (s = ByteArray.empty))) && (decide (((s.size : Nat) : Int) ≤ 60))) && (!(decide (s = (⟨#[46]⟩ : ByteArray))))) rfl rfl rfl rfl rfl (((!(decide (s = ByteArray.empty))) && (decide (((s.size : Nat) : Int) ≤ 60))) && (!(decide (s = (⟨#[46]⟩ : ByteArray))))) ga_t _ (fun hA v67 hv68 => R_move (v := (.string s)) rfl ⟨rfl, Gr.refl _ _⟩) ?_
  refine Lx_qg (i := 13) true (((!(decide (s = ByteArray.empty))) && (decide (((s.size : Nat) : Int) ≤ 60))) && (!(decide (s = (⟨#[46]⟩ : ByteArray))))) rfl rfl rfl rfl rfl (((!(decide (s = ByteArray.empty))) && (decide (((s.size : Nat) : Int) ≤ 60))) && (!(decide (s = (⟨#[46]⟩ : ByteArray))))) ga_t _ (fun hA v69 hv70 => R_cmpS (a := s) (b := (⟨#[46, 46]⟩ : ByteArray)) (r := (!(decide (s = (⟨#[46, 46]⟩ : ByteArray))))) (gv_t hA) rfl rfl ⟨rfl, Gr.refl _ _⟩) ?_
  refine Lx_q (i := 14) rfl rfl _ (fun v71 hv72 => R_pick (t := (((!(decide (s = ByteArray.empty))) && (decide (((s.size : Nat) : Int) ≤ 60))) && (!(decide (s = (⟨#[46]⟩ : ByteArray)))))) (v := (.bool ((((!(decide (s = ByteArray.empty))) && (decide (((s.size : Nat) : Int) ≤ 60))) && (!(decide (s = (⟨#[46]⟩ : ByteArray))))) && (!(decide (s = (⟨#[46, 46]⟩ : ByteArray))))))) rfl pk_and ⟨rfl, Gr.refl _ _⟩) ?_
  refine Lx_q (i := 15) rfl rfl _ (fun v73 hv74 => R_assign (v := (.bool ((((!(decide (s = ByteArray.empty))) && (decide (((s.size : Nat) : Int) ≤ 60))) && (!(decide (s = (⟨#[46]⟩ : ByteArray))))) && (!(decide (s = (⟨#[46, 46]⟩ : ByteArray))))))) rfl ⟨rfl, Gr.refl _ _⟩) ?_
  refine Lx_nil (fun w75 hw76 => ?_)
  have H77 := H5.ext hw76
  refine Then_n (W_ret ?_)
  refine ret_1 (v := (.bool ((((!(decide (s = ByteArray.empty))) && (decide (((s.size : Nat) : Int) ≤ 60))) && (!(decide (s = (⟨#[46]⟩ : ByteArray))))) && (!(decide (s = (⟨#[46, 46]⟩ : ByteArray))))))) Tryz.results71 rfl ?_
  exact ⟨(nameOk_good (by rwa [show s.size = k from by omega])), H77.gr⟩

end Go.Proofs.YthjdhfoeckfmbaaGreat
namespace Go.Proofs.YthjdhfoeckfmbaaGreat
open Go
set_option maxRecDepth 100000
set_option linter.unusedVariables false
set_option linter.unusedSimpArgs false
set_option linter.unusedSectionVars false
variable [DD]
set_option maxHeartbeats 1000000 in
theorem ref04_zero (id : ID) (w : World) :
    Calls Tryz.prog 60 #[(aggOf (idCh id))] w (Ret fun v w' => v = (.bool (decide (id = zeroId))) ∧ Ext w w') := by
 refine calls_W Tryz.func60 rfl Tryz.ntmps60 rfl ?_
 have H0 := Ctx.start w nob
 refine W_seq (W_reg ?_)
 refine O_v rfl (C_box H0 [(idCells id)] rfl ?_)
 intro b1 w2 hb3 hx4 H5
 refine O_v rfl (R_assign (v := (.bool false)) rfl ?_)
 refine O_nil (Then_n (W_seq (W_reg ?_)))
 refine O_v rfl (R_loadA (cs := [(idCells id)]) Tryz.isAgg44 Tryz.sizeOf44 rfl rfl ((boxR_at (H5.getOwn 0 rfl)).chunks 0 1 0 0 _ rfl rfl rfl) ?_)
 refine O_v rfl (R_buildL (vs := []) (v := aggOf [(idCells zeroId)]) rfl (fun _ => by kernel_rfl) ?_)
 refine O_v rfl (R_eqv (a := id) (b := zeroId) eqv_ID44 rfl Tryz.eqGuardType44 rfl rfl ?_)
 refine O_v rfl (R_assign (v := (.bool (decide (id = zeroId)))) rfl ?_)
 refine O_nil (Then_n (W_ret ?_))
 refine ret_1 (v := (.bool (decide (id = zeroId)))) Tryz.results60 rfl ?_
 exact ⟨rfl, H5.gr⟩

end Go.Proofs.YthjdhfoeckfmbaaGreat
namespace Go.Proofs.YthjdhfoeckfmbaaGreat
open Go
set_option maxRecDepth 100000
set_option linter.unusedVariables false
set_option linter.unusedSimpArgs false
set_option linter.unusedSectionVars false
variable [DD]
theorem ref04_RightLabel_c60 : callable Tryz.prog 60 = true := by kernel_rfl
theorem ref04_RightLabel_c71 : callable Tryz.prog 71 = true := by kernel_rfl
set_option maxHeartbeats 1000000 in
theorem ref04_RightLabel (l : Label) (w : World) (hl : l.name.size ≤ 9223372036854775807) :
    Calls Tryz.prog 29 #[(aggOf (labelCh l))] w (Ret fun v w' => v = (.bool (labelOk l)) ∧ Ext w w') := by
 refine calls_W Tryz.func29 rfl Tryz.ntmps29 rfl ?_
 have H0 := Ctx.start w nob
 refine W_seq (W_reg ?_)
 refine O_v rfl (C_box H0 [(idCells l.target), [(.string l.name)], [(.string l.msg)]] rfl ?_)
 intro b1 w2 hb3 hx4 H5
 refine O_v rfl (R_assign (v := (.bool false)) rfl ?_)
 refine O_nil (Then_n (W_seq ?_))
 refine W_rg [(0, .q 0), (1, .q 0), (2, .q 0), (3, .q 0), (4, .q 0), (5, .q 0), (6, .q 0), (7, .q 0), (8, .q 0), (9, .q 0), (10, .q 0), (11, .q 0), (12, .q 0), (13, .q 0), (14, .q 0), (15, .q 0)] (by kernel_rfl) ?_
 refine Lx_q (i := 0) rfl rfl _ (fun v6 hv7 => R_fieldAddr (off := 0) (oo := 0) Tryz.underlying55 rfl rfl Tryz.sizeOf45 rfl rfl ⟨rfl, Gr.refl _ _⟩) ?_
 refine Lx_q (i := 1) rfl rfl _ (fun v8 hv9 => R_loadA (cs := [(idCells l.target)]) Tryz.isAgg45 Tryz.sizeOf45 rfl rfl ((boxR_at ((H5.ext hv9).getOwn 0 rfl)).chunks 0 1 0 0 _ rfl rfl rfl) ⟨rfl, Gr.refl _ _⟩) ?_
 refine Lx_q (i := 2) rfl rfl (.bool (decide (l.target = zeroId))) (fun v10 hv11 => R_callL (vs := [(aggOf (idCh l.target))]) ref04_RightLabel_c60 rfl rfl (ref04_zero l.target v10 )) ?_
 refine Lx_q (i := 3) rfl rfl _ (fun v12 hv13 => R_not rfl ⟨rfl, Gr.refl _ _⟩) ?_
 refine Lx_q (i := 4) rfl rfl _ (fun v14 hv15 => R_move (v := (.bool (!(decide (l.target = zeroId))))) rfl ⟨rfl, Gr.refl _ _⟩) ?_
 refine Lx_qg (i := 5) true (!(decide (l.target = zeroId))) rfl rfl rfl rfl rfl (!(decide (l.target = zeroId))) ga_t _ (fun hA v16 hv17 => R_fieldAddr (off := 32) (oo := 32) Tryz.underlying55 rfl rfl Tryz.sizeOf9 rfl rfl ⟨rfl, Gr.refl _ _⟩) ?_
 refine Lx_qg (i := 6) true (!(decide (l.target = zeroId))) rfl rfl rfl rfl rfl (!(decide (l.target = zeroId))) ga_t _ (fun hA v18 hv19 => R_load1 (v := (.string l.name)) Tryz.isAgg9 (gv_t hA) ((boxR_at ((H5.ext hv19).getOwn 0 rfl)).chunks 1 1 32 32 _ rfl rfl rfl) ⟨rfl, Gr.refl _ _⟩) ?_
 refine Lx_qg (i := 7) true (!(decide (l.target = zeroId))) rfl rfl rfl rfl rfl (!(decide (l.target = zeroId))) ga_t (.bool (nameOk l.name)) (fun hA v20 hv21 => R_callL (vs := [(.string l.name)]) ref04_RightLabel_c71 rfl (lst1 (gv_t hA)) (ref03_Name l.name v20 hl)) ?_
 refine Lx_q (i := 8) rfl rfl _ (fun v22 hv23 => R_pick (t := (!(decide (l.target = zeroId)))) (v := (.bool ((!(decide (l.target = zeroId))) && (nameOk l.name)))) rfl pk_and ⟨rfl, Gr.refl _ _⟩) ?_
 refine Lx_q (i := 9) rfl rfl _ (fun v24 hv25 => R_move (v := (.bool ((!(decide (l.target = zeroId))) && (nameOk l.name)))) rfl ⟨rfl, Gr.refl _ _⟩) ?_
 refine Lx_qg (i := 10) true ((!(decide (l.target = zeroId))) && (nameOk l.name)) rfl rfl rfl rfl rfl ((!(decide (l.target = zeroId))) && (nameOk l.name)) ga_t _ (fun hA v26 hv27 => R_fieldAddr (off := 33) (oo := 33) Tryz.underlying55 rfl rfl Tryz.sizeOf9 rfl rfl ⟨rfl, Gr.refl _ _⟩) ?_
 refine Lx_qg (i := 11) true ((!(decide (l.target = zeroId))) && (nameOk l.name)) rfl rfl rfl rfl rfl ((!(decide (l.target = zeroId))) && (nameOk l.name)) ga_t _ (fun hA v28 hv29 => R_load1 (v := (.string l.msg)) Tryz.isAgg9 (gv_t hA) ((boxR_at ((H5.ext hv29).getOwn 0 rfl)).chunks 2 1 33 33 _ rfl rfl rfl) ⟨rfl, Gr.refl _ _⟩) ?_
 refine Lx_qg (i := 12) true ((!(decide (l.target = zeroId))) && (nameOk l.name)) rfl rfl rfl rfl rfl ((!(decide (l.target = zeroId))) && (nameOk l.name)) ga_t _ (fun hA v30 hv31 => R_len_string Tryz.underlying9 (gv_t hA) ⟨rfl, Gr.refl _ _⟩) ?_
 refine Lx_qg (i := 13) true ((!(decide (l.target = zeroId))) && (nameOk l.name)) rfl rfl rfl rfl rfl ((!(decide (l.target = zeroId))) && (nameOk l.name)) ga_t _ (fun hA v32 hv33 => R_cmp (a := ((l.msg.size : Nat) : Int)) (b := 200) (r := (decide (((l.msg.size : Nat) : Int) ≤ 200))) (gv_t hA) rfl rfl ⟨rfl, Gr.refl _ _⟩) ?_
 refine Lx_q (i := 14) rfl rfl _ (fun v34 hv35 => R_pick (t := ((!(decide (l.target = zeroId))) && (nameOk l.name))) (v := (.bool (((!(decide (l.target = zeroId))) && (nameOk l.name)) && (decide (((l.msg.size : Nat) : Int) ≤ 200))))) rfl pk_and ⟨rfl, Gr.refl _ _⟩) ?_
 refine Lx_q (i := 15) rfl rfl _ (fun v36 hv37 => R_assign (v := (.bool (((!(decide (l.target = zeroId))) && (nameOk l.name)) && (decide (((l.msg.size : Nat) : Int) ≤ 200))))) rfl ⟨rfl, Gr.refl _ _⟩) ?_
 refine Lx_nil (fun w38 hw39 => ?_)
 have H40 := H5.ext hw39
 refine Then_n (W_ret ?_)
 refine ret_1 (v := (.bool (((!(decide (l.target = zeroId))) && (nameOk l.name)) && (decide (((l.msg.size : Nat) : Int) ≤ 200))))) Tryz.results29 rfl ?_
 exact ⟨label_eq, H40.gr⟩

end Go.Proofs.YthjdhfoeckfmbaaGreat
namespace Go.Proofs.YthjdhfoeckfmbaaGreat
open Go
set_option maxRecDepth 100000
set_option linter.unusedVariables false
set_option linter.unusedSimpArgs false
set_option linter.unusedSectionVars false
variable [DD]
theorem ref04_Label_c29 : callable Tryz.prog 29 = true := by kernel_rfl
theorem ref04_Label_c73 : callable Tryz.prog 73 = true := by kernel_rfl
theorem ref04_Label_c75 : callable Tryz.prog 75 = true := by kernel_rfl
theorem ref04_Label_c76 : callable Tryz.prog 76 = true := by kernel_rfl
theorem ref04_Label_c78 : callable Tryz.prog 78 = true := by kernel_rfl
set_option maxHeartbeats 1000000 in
theorem ref04_Label (hb : SlH) (b : List UInt8) (w : World) (Sb : Sl (Old w) encB 1 hb b w) :
    Calls Tryz.prog 34 #[(slV hb b)] w (Ret fun v w' => v = .tuple #[(aggOf (labelCh ((labelOf b).1))), (.bool (decide ((labelOf b).2 = 0)))] ∧ Ext w w') := by
 refine calls_W Tryz.func34 rfl Tryz.ntmps34 rfl ?_
 have H0 := Ctx.start w nob
 have H1 := H0.addSl _ Sb (fun b hb => ⟨hb, fun _ ho => (nomatch ho)⟩)
 have LSb := Sb.len
 refine W_seq (W_reg ?_)
 refine O_v rfl (C_alloc H1 [(idCells zeroId), [(.string ByteArray.empty)], [(.string ByteArray.empty)]] Tryz.zeroValue55 ?_)
 intro b2 w3 hb4 hx5 H6
 refine O_v rfl (R_assign (v := (.bool false)) rfl ?_)
 refine O_nil (Then_n (W_seq (W_reg ?_)))
 refine O_v rfl (R_move (v := (slV hb b)) rfl ?_)
 refine O_v rfl (R_callL (vs := [(slV hb b), (.int .u8 4)]) ref04_Label_c73 rfl rfl ((ref04_open hb b (Old w) 4 w3 (H6.sl 0 rfl) (H6.imm _ (List.mem_of_getElem? (i := 0) rfl)).2).ret ?_))
 rintro _ w8 ⟨x7, rfl, hx9, hr10, hs11⟩
 have H12 := H6.ext hx9
 have H13 := H12.immOf 0 rfl (slI (Old w) encB 1 x7.bh x7.b) (fun _ h => h) (fun _ => hs11)
 refine O_v rfl (R_callL (vs := [(aggOf (rdCh x7))]) ref04_Label_c76 rfl rfl ((ref02_GetId x7 (Old w) (openSt b 4) w8 (H13.sl 0 rfl) (H13.imm _ (List.mem_of_getElem? (i := 0) rfl)).2 hr10).ret ?_))
 rintro _ w15 ⟨x14, rfl, hx16, hr17, hs18⟩
 have H19 := H13.ext hx16
 have H20 := H19.immOf 0 rfl (slI (Old w) encB 1 x14.bh x14.b) (fun _ h => h) (fun _ => hs18)
 refine O_v rfl (R_move (v := (.tuple #[(aggOf (idCh ((rdId (openSt b 4)).1))), (aggOf (rdCh x14))])) rfl ?_)
 refine O_v rfl (R_extract (v := (aggOf (idCh ((rdId (openSt b 4)).1)))) rfl rfl ?_)
 refine O_v rfl (R_extract (v := (aggOf (rdCh x14))) rfl rfl ?_)
 refine O_v rfl (C_alloc H20 [(idCells zeroId)] Tryz.zeroValue44 ?_)
 intro b21 w22 hb23 hx24 H25
 refine O_v rfl (C_alloc H25 [[(.slice none 0 0)], [(.bool false)]] Tryz.zeroValue110 ?_)
 intro b26 w27 hb28 hx29 H30
 refine O_u (C_storeA H30 1 rfl 0 (sub := [(idCells ((rdId (openSt b 4)).1))]) [(idCells ((rdId (openSt b 4)).1))] Tryz.sizeOf44 rfl rfl rfl rfl ⟨[(idCells zeroId)], [], rfl, rfl, rfl⟩ rfl ?_)
 intro w31 hg32 H33
 refine O_u (C_storeA H33 0 rfl 0 (sub := [[(slV x14.bh x14.b)], [(.bool x14.bad)]]) [[(slV x14.bh x14.b)], [(.bool x14.bad)]] Tryz.sizeOf110 rfl rfl rfl rfl ⟨[[(.slice none 0 0)], [(.bool false)]], [], rfl, rfl, rfl⟩ rfl ?_)
 intro w34 hg35 H36
 refine O_nil (Then_n (W_seq (W_reg ?_)))
 refine O_v rfl (R_loadA (cs := [[(slV x14.bh x14.b)], [(.bool x14.bad)]]) Tryz.isAgg110 Tryz.sizeOf110 rfl rfl ((boxR_at (H36.getOwn 0 rfl)).chunks 0 2 0 0 _ rfl rfl rfl) ?_)
 refine O_v rfl (R_callL (vs := [(aggOf (rdCh x14)), (.int .i64 60)]) ref04_Label_c78 rfl rfl ((ref02_GetText x14 (Old w) ((rdId (openSt b 4)).2) 60 w34 (H36.sl 0 rfl) (H36.imm _ (List.mem_of_getElem? (i := 0) rfl)).2 hr17).ret ?_))
 rintro _ w38 ⟨x37, rfl, hx39, hr40, hs41⟩
 have H42 := H36.ext hx39
 have H43 := H42.immOf 0 rfl (slI (Old w) encB 1 x37.bh x37.b) (fun _ h => h) (fun _ => hs41)
 refine O_v rfl (R_move (v := (.tuple #[(.string ((rdText ((rdId (openSt b 4)).2) 60).1)), (aggOf (rdCh x37))])) rfl ?_)
 refine O_v rfl (R_extract (v := (.string ((rdText ((rdId (openSt b 4)).2) 60).1))) rfl rfl ?_)
 refine O_v rfl (R_extract (v := (aggOf (rdCh x37))) rfl rfl ?_)
 refine O_v rfl (C_alloc H43 [[(.slice none 0 0)], [(.bool false)]] Tryz.zeroValue110 ?_)
 intro b44 w45 hb46 hx47 H48
 refine O_v rfl (R_assign (v := (.string ((rdText ((rdId (openSt b 4)).2) 60).1))) rfl ?_)
 refine O_u (C_storeA H48 0 rfl 0 (sub := [[(slV x37.bh x37.b)], [(.bool x37.bad)]]) [[(slV x37.bh x37.b)], [(.bool x37.bad)]] Tryz.sizeOf110 rfl rfl rfl rfl ⟨[[(.slice none 0 0)], [(.bool false)]], [], rfl, rfl, rfl⟩ rfl ?_)
 intro w49 hg50 H51
 refine O_nil (Then_n (W_seq (W_reg ?_)))
 refine O_v rfl (R_loadA (cs := [[(slV x37.bh x37.b)], [(.bool x37.bad)]]) Tryz.isAgg110 Tryz.sizeOf110 rfl rfl ((boxR_at (H51.getOwn 0 rfl)).chunks 0 2 0 0 _ rfl rfl rfl) ?_)
 refine O_v rfl (R_callL (vs := [(aggOf (rdCh x37)), (.int .i64 200)]) ref04_Label_c78 rfl rfl ((ref02_GetText x37 (Old w) ((rdText ((rdId (openSt b 4)).2) 60).2) 200 w49 (H51.sl 0 rfl) (H51.imm _ (List.mem_of_getElem? (i := 0) rfl)).2 hr40).ret ?_))
 rintro _ w53 ⟨x52, rfl, hx54, hr55, hs56⟩
 have H57 := H51.ext hx54
 have H58 := H57.immOf 0 rfl (slI (Old w) encB 1 x52.bh x52.b) (fun _ h => h) (fun _ => hs56)
 refine O_v rfl (R_move (v := (.tuple #[(.string ((rdText ((rdText ((rdId (openSt b 4)).2) 60).2) 200).1)), (aggOf (rdCh x52))])) rfl ?_)
 refine O_v rfl (R_extract (v := (.string ((rdText ((rdText ((rdId (openSt b 4)).2) 60).2) 200).1))) rfl rfl ?_)
 refine O_v rfl (R_extract (v := (aggOf (rdCh x52))) rfl rfl ?_)
 refine O_v rfl (C_alloc H58 [[(.slice none 0 0)], [(.bool false)]] Tryz.zeroValue110 ?_)
 intro b59 w60 hb61 hx62 H63
 refine O_v rfl (R_assign (v := (.string ((rdText ((rdText ((rdId (openSt b 4)).2) 60).2) 200).1))) rfl ?_)
 refine O_u (C_storeA H63 0 rfl 0 (sub := [[(slV x52.bh x52.b)], [(.bool x52.bad)]]) [[(slV x52.bh x52.b)], [(.bool x52.bad)]] Tryz.sizeOf110 rfl rfl rfl rfl ⟨[[(.slice none 0 0)], [(.bool false)]], [], rfl, rfl, rfl⟩ rfl ?_)
 intro w64 hg65 H66
 refine O_nil (Then_n (W_seq (W_reg ?_)))
 refine O_v rfl (R_loadA (cs := [(idCells ((rdId (openSt b 4)).1))]) Tryz.isAgg44 Tryz.sizeOf44 rfl rfl ((boxR_at (H66.getOwn 3 rfl)).chunks 0 1 0 0 _ rfl rfl rfl) ?_)
 refine O_v rfl (R_move (v := (.string ((rdText ((rdId (openSt b 4)).2) 60).1))) rfl ?_)
 refine O_v rfl (R_move (v := (.string ((rdText ((rdText ((rdId (openSt b 4)).2) 60).2) 200).1))) rfl ?_)
 refine O_v rfl (R_buildL (vs := [(0, (aggOf (idCh ((rdId (openSt b 4)).1)))), (1, (.string ((rdText ((rdId (openSt b 4)).2) 60).1))), (2, (.string ((rdText ((rdText ((rdId (openSt b 4)).2) 60).2) 200).1)))]) (v := aggOf [(idCells ((rdId (openSt b 4)).1)), [(.string ((rdText ((rdId (openSt b 4)).2) 60).1))], [(.string ((rdText ((rdText ((rdId (openSt b 4)).2) 60).2) 200).1))]]) rfl (fun _ => by kernel_rfl) ?_)
 refine O_v rfl (C_alloc H66 [(idCells zeroId), [(.string ByteArray.empty)], [(.string ByteArray.empty)]] Tryz.zeroValue55 ?_)
 intro b67 w68 hb69 hx70 H71
 refine O_u (C_storeA H71 0 rfl 0 (sub := [(idCells ((rdId (openSt b 4)).1)), [(.string ((rdText ((rdId (openSt b 4)).2) 60).1))], [(.string ((rdText ((rdText ((rdId (openSt b 4)).2) 60).2) 200).1))]]) [(idCells ((rdId (openSt b 4)).1)), [(.string ((rdText ((rdId (openSt b 4)).2) 60).1))], [(.string ((rdText ((rdText ((rdId (openSt b 4)).2) 60).2) 200).1))]] Tryz.sizeOf55 rfl rfl rfl rfl ⟨[(idCells zeroId), [(.string ByteArray.empty)], [(.string ByteArray.empty)]], [], rfl, rfl, rfl⟩ rfl ?_)
 intro w72 hg73 H74
 refine O_nil (Then_n (W_seq (W_seq ?_)))
 refine W_rg [(0, .q 0), (1, .q 0), (2, .q 0), (3, .q 0), (4, .q 0), (5, .q 0), (6, .q 0), (7, .q 0)] (by kernel_rfl) ?_
 refine Lx_q (i := 0) rfl rfl _ (fun v75 hv76 => R_loadA (cs := [[(slV x52.bh x52.b)], [(.bool x52.bad)]]) Tryz.isAgg110 Tryz.sizeOf110 rfl rfl ((boxR_at ((H74.ext hv76).getOwn 1 rfl)).chunks 0 2 0 0 _ rfl rfl rfl) ⟨rfl, Gr.refl _ _⟩) ?_
 refine Lx_q (i := 1) rfl rfl (.bool (rdDone ((rdText ((rdText ((rdId (openSt b 4)).2) 60).2) 200).2))) (fun v77 hv78 => R_callL (vs := [(aggOf (rdCh x52))]) ref04_Label_c75 rfl rfl (ref02_Done x52 (Old w) ((rdText ((rdText ((rdId (openSt b 4)).2) 60).2) 200).2) v77 ((H74.ext hv78).sl 0 rfl) ((H74.ext hv78).imm _ (List.mem_of_getElem? (i := 0) rfl)).2 hr55)) ?_
 refine Lx_q (i := 2) rfl rfl _ (fun v79 hv80 => R_not rfl ⟨rfl, Gr.refl _ _⟩) ?_
 refine Lx_q (i := 3) rfl rfl _ (fun v81 hv82 => R_move (v := (.bool (!(rdDone ((rdText ((rdText ((rdId (openSt b 4)).2) 60).2) 200).2))))) rfl ⟨rfl, Gr.refl _ _⟩) ?_
 refine Lx_qg (i := 4) true (!(rdDone ((rdText ((rdText ((rdId (openSt b 4)).2) 60).2) 200).2))) rfl rfl rfl rfl rfl (!(!(rdDone ((rdText ((rdText ((rdId (openSt b 4)).2) 60).2) 200).2)))) ga_f _ (fun hA v83 hv84 => R_loadA (cs := [(idCells ((rdId (openSt b 4)).1)), [(.string ((rdText ((rdId (openSt b 4)).2) 60).1))], [(.string ((rdText ((rdText ((rdId (openSt b 4)).2) 60).2) 200).1))]]) Tryz.isAgg55 Tryz.sizeOf55 rfl rfl ((boxR_at ((H74.ext hv84).getOwn 0 rfl)).chunks 0 3 0 0 _ rfl rfl rfl) ⟨rfl, Gr.refl _ _⟩) ?_
 refine Lx_qg (i := 5) true (!(rdDone ((rdText ((rdText ((rdId (openSt b 4)).2) 60).2) 200).2))) rfl rfl rfl rfl rfl (!(!(rdDone ((rdText ((rdText ((rdId (openSt b 4)).2) 60).2) 200).2)))) ga_f (.bool (labelOk ({ target := (rdId (openSt b 4)).1, name := (rdText ((rdId (openSt b 4)).2) 60).1, msg := (rdText ((rdText ((rdId (openSt b 4)).2) 60).2) 200).1 } : Label))) (fun hA v85 hv86 => R_callL (vs := [(aggOf [(idCells ((rdId (openSt b 4)).1)), [(.string ((rdText ((rdId (openSt b 4)).2) 60).1))], [(.string ((rdText ((rdText ((rdId (openSt b 4)).2) 60).2) 200).1))]])]) ref04_Label_c29 rfl (lst1 (gv_t hA)) (ref04_RightLabel ({ target := (rdId (openSt b 4)).1, name := (rdText ((rdId (openSt b 4)).2) 60).1, msg := (rdText ((rdText ((rdId (openSt b 4)).2) 60).2) 200).1 } : Label) v85 (rdText_size _ (by decide)))) ?_
 refine Lx_qg (i := 6) true (!(rdDone ((rdText ((rdText ((rdId (openSt b 4)).2) 60).2) 200).2))) rfl rfl rfl rfl rfl (!(!(rdDone ((rdText ((rdText ((rdId (openSt b 4)).2) 60).2) 200).2)))) ga_f _ (fun hA v87 hv88 => R_not (gv_t hA) ⟨rfl, Gr.refl _ _⟩) ?_
 refine Lx_q (i := 7) rfl rfl _ (fun v89 hv90 => R_pick (t := (!(rdDone ((rdText ((rdText ((rdId (openSt b 4)).2) 60).2) 200).2)))) (v := (.bool ((!(rdDone ((rdText ((rdText ((rdId (openSt b 4)).2) 60).2) 200).2))) || (!(labelOk ({ target := (rdId (openSt b 4)).1, name := (rdText ((rdId (openSt b 4)).2) 60).1, msg := (rdText ((rdText ((rdId (openSt b 4)).2) 60).2) 200).1 } : Label)))))) rfl pk_or ⟨rfl, Gr.refl _ _⟩) ?_
 refine Lx_nil (fun w91 hw92 => ?_)
 have H93 := H74.ext hw92
 refine Then_n ?_
 refine W_cond (t := ((!(rdDone ((rdText ((rdText ((rdId (openSt b 4)).2) 60).2) 200).2))) || (!(labelOk ({ target := (rdId (openSt b 4)).1, name := (rdText ((rdId (openSt b 4)).2) 60).1, msg := (rdText ((rdText ((rdId (openSt b 4)).2) 60).2) 200).1 } : Label))))) rfl (fun hc94 => ?_) (fun hc94 => ?_)
 ·have hc94 : ((rdDone ((rdText ((rdText ((rdId (openSt b 4)).2) 60).2) 200).2)) = false ∨ (labelOk ({ target := (rdId (openSt b 4)).1, name := (rdText ((rdId (openSt b 4)).2) 60).1, msg := (rdText ((rdText ((rdId (openSt b 4)).2) 60).2) 200).1 } : Label)) = false) := (Or.imp (fun h => (notT h)) (fun h => (notT h)) (orT hc94))
  refine W_seq (W_reg ?_)
  refine O_v rfl (R_buildL (vs := []) (v := aggOf [(idCells zeroId), [(.string ByteArray.empty)], [(.string ByteArray.empty)]]) rfl (fun _ => by kernel_rfl) ?_)
  refine O_u (C_storeA H93 5 rfl 0 (sub := [(idCells zeroId), [(.string ByteArray.empty)], [(.string ByteArray.empty)]]) [(idCells zeroId), [(.string ByteArray.empty)], [(.string ByteArray.empty)]] Tryz.sizeOf55 rfl rfl rfl rfl ⟨[(idCells zeroId), [(.string ByteArray.empty)], [(.string ByteArray.empty)]], [], rfl, rfl, rfl⟩ rfl ?_)
  intro w95 hg96 H97
  refine O_v rfl (R_assign (v := (.bool false)) rfl ?_)
  refine O_nil (Then_n (W_ret (Then_r ?_)))
  refine ret_ct (v := (.bool false)) Tryz.results34 (inMem (cs := [(idCells zeroId), [(.string ByteArray.empty)], [(.string ByteArray.empty)]]) rfl Tryz.isAgg55 Tryz.sizeOf55 rfl (boxR_at (H97.getOwn 5 rfl))) rfl ?_
  exact ⟨(labelR_f (by assumption)), H97.gr⟩
 ·have hc94 : ((rdDone ((rdText ((rdText ((rdId (openSt b 4)).2) 60).2) 200).2)) = true ∧ (labelOk ({ target := (rdId (openSt b 4)).1, name := (rdText ((rdId (openSt b 4)).2) 60).1, msg := (rdText ((rdText ((rdId (openSt b 4)).2) 60).2) 200).1 } : Label)) = true) := (And.imp (fun h => (notF h)) (fun h => (notF h)) (orF hc94))
  refine W_skip (Then_n (W_seq (W_reg ?_)))
  refine O_v rfl (R_loadA (cs := [(idCells ((rdId (openSt b 4)).1)), [(.string ((rdText ((rdId (openSt b 4)).2) 60).1))], [(.string ((rdText ((rdText ((rdId (openSt b 4)).2) 60).2) 200).1))]]) Tryz.isAgg55 Tryz.sizeOf55 rfl rfl ((boxR_at (H93.getOwn 0 rfl)).chunks 0 3 0 0 _ rfl rfl rfl) ?_)
  refine O_u (C_storeA H93 5 rfl 0 (sub := [(idCells ((rdId (openSt b 4)).1)), [(.string ((rdText ((rdId (openSt b 4)).2) 60).1))], [(.string ((rdText ((rdText ((rdId (openSt b 4)).2) 60).2) 200).1))]]) [(idCells ((rdId (openSt b 4)).1)), [(.string ((rdText ((rdId (openSt b 4)).2) 60).1))], [(.string ((rdText ((rdText ((rdId (openSt b 4)).2) 60).2) 200).1))]] Tryz.sizeOf55 rfl rfl rfl rfl ⟨[(idCells zeroId), [(.string ByteArray.empty)], [(.string ByteArray.empty)]], [], rfl, rfl, rfl⟩ rfl ?_)
  intro w98 hg99 H100
  refine O_v rfl (R_assign (v := (.bool true)) rfl ?_)
  refine O_nil (Then_n (W_ret ?_))
  refine ret_ct (v := (.bool true)) Tryz.results34 (inMem (cs := [(idCells ((rdId (openSt b 4)).1)), [(.string ((rdText ((rdId (openSt b 4)).2) 60).1))], [(.string ((rdText ((rdText ((rdId (openSt b 4)).2) 60).2) 200).1))]]) rfl Tryz.isAgg55 Tryz.sizeOf55 rfl (boxR_at (H100.getOwn 5 rfl))) rfl ?_
  exact ⟨(labelR_t (by assumption)), H100.gr⟩

end Go.Proofs.YthjdhfoeckfmbaaGreat
namespace Go.Proofs.YthjdhfoeckfmbaaGreat
open Go
set_option maxRecDepth 100000
set_option linter.unusedVariables false
set_option linter.unusedSimpArgs false
set_option linter.unusedSectionVars false
variable [DD]
set_option maxHeartbeats 1000000 in
theorem ref04_Rise (hids : SlH) (ids : List ID) (id : ID) (w : World) (Sids : Sl (Old w) idCh 32 hids ids w) (hz : ids.length = 0) :
    Calls Tryz.prog 95 #[(slV hids ids), (aggOf (idCh id))] w (Ret fun v w' => ∃ h, v = slV h ([id]) ∧ Ext w w' ∧ OwnS w.heap.size 44 32 idCh h ([id]) w') := by
 refine calls_W Tryz.func95 rfl Tryz.ntmps95 rfl ?_
 have H0 := Ctx.start w nob
 have H1 := H0.addSl _ Sids (fun b hb => ⟨hb, fun _ ho => (nomatch ho)⟩)
 have LSids := Sids.len
 refine W_seq (W_reg ?_)
 refine O_v rfl (C_box H1 [(idCells id)] rfl ?_)
 intro b2 w3 hb4 hx5 H6
 refine O_v rfl (R_assign (v := (.slice none 0 0)) rfl ?_)
 refine O_nil (Then_n (W_seq (W_reg ?_)))
 refine O_v rfl (C_buildSliceL H6 (enc := idCh) (val := idV) ([] : List ID) Tryz.underlying41 Tryz.sizeOf44 Tryz.zeroValue44 rfl (by decide) (fun _ => rfl) (fun _ => rfl) rfl rfl (by decide) ?_)
 intro b7 w8 hb9 hx10 H11
 refine O_v rfl (R_assign (v := (slV ⟨some ⟨b7, 0, none⟩, b7, 0, 0⟩ ([] : List ID))) rfl ?_)
 refine O_nil (Then_n (W_seq (W_reg ?_)))
 refine O_v rfl (R_assign (v := (.bool false)) rfl ?_)
 refine O_nil (Then_n (W_seq (W_seq (W_reg ?_))))
 refine O_v rfl (R_assign (v := (.int .i64 0)) rfl ?_)
 refine O_nil (Then_n (W_block ?_))
 refine W_loop (fun m13 e14 w15 => ∃ (k : Nat), ∃ (acc : List ID), ∃ (h12 : SlH), m13 = 0 ∧ (acc = []) ∧ ∃ eb16, e14 = envL [(0, (slV hids ids)), (3, (.pointer (some ⟨b2, 0, none⟩))), (4, (.slice none 0 0)), (5, (slV h12 acc)), (6, (.bool false)), (7, (.int .i64 ((k : Nat) : Int)))] eb16 ∧ Ctx w nob w15 [rowR 44 32 idCh h12 acc, boxR b2 44 [(idCells id)]] [slI (Old w) idCh 32 hids ids]) _ ⟨0, [], ⟨some ⟨b7, 0, none⟩, b7, 0, 0⟩, rfl, rfl, _, envL_self ⟨rfl, rfl, rfl, rfl, rfl, rfl, trivial⟩, H11⟩ ?_
 rintro m13 _ w15 ⟨k, acc, h12, rfl, hacc, eb16, rfl, H17⟩
 refine W_seq (W_seq (W_reg ?_))
 refine O_v rfl (R_move (v := (.int .i64 ((k : Nat) : Int))) rfl ?_)
 refine O_v rfl (R_move (v := (slV hids ids)) rfl ?_)
 refine O_v rfl (R_len_slice (a := hids.a) (n := ids.length) (c := hids.c) Tryz.underlying41 rfl ?_)
 refine O_v rfl (R_cmp (a := ((k : Nat) : Int)) (b := ((ids.length : Nat) : Int)) (r := (decide (((k : Nat) : Int) < ((ids.length : Nat) : Int)))) rfl rfl rfl ?_)
 refine O_nil (Then_n ?_)
 refine W_cond (t := (decide (((k : Nat) : Int) < ((ids.length : Nat) : Int)))) rfl (fun hc18 => ?_) (fun hc18 => ?_)
 ·have hc18 : (((k : Nat) : Int) < ((ids.length : Nat) : Int)) := (of_decide_eq_true hc18)
  refine W_skip (Then_n ?_)
  exfalso; omega
 ·have hc18 : ¬ (((k : Nat) : Int) < ((ids.length : Nat) : Int)) := (of_decide_eq_false hc18)
  refine W_exit (Then_x (Then_x (Blk_x (Then_n (W_seq (W_seq (W_reg ?_)))))))
  refine O_v rfl (R_move (v := (.bool false)) rfl ?_)
  refine O_v rfl (R_not rfl ?_)
  refine O_nil (Then_n ?_)
  refine W_cond_t rfl ?_
  refine W_reg ?_
  refine O_v rfl (R_move (v := (slV h12 acc)) rfl ?_)
  refine O_v rfl (R_loadA (cs := [(idCells id)]) Tryz.isAgg44 Tryz.sizeOf44 rfl rfl ((boxR_at (H17.getOwn 1 rfl)).chunks 0 1 0 0 _ rfl rfl rfl) ?_)
  refine O_v rfl (C_buildSliceL H17 (enc := idCh) (val := idV) ([id] : List ID) Tryz.underlying41 Tryz.sizeOf44 Tryz.zeroValue44 rfl (by decide) (fun _ => rfl) (fun _ => rfl) rfl rfl (by decide) ?_)
  intro b19 w20 hb21 hx22 H23
  refine O_v rfl (C_append H23 1 rfl (bytes := 32) (l := acc) (ys := ([id] : List ID)) Tryz.underlying41 rfl rfl rfl rfl rfl (by decide) rfl rfl (OwnS.sl (H23.getOwn 0 rfl) (fun _ => rfl)) (fun _ => rfl) (fun _ => rfl) (by rw [hacc]; simp) (by decide) ?_)
  intro h24 w25 hg26 H27
  refine O_v rfl (R_assign (v := (slV h24 (acc ++ ([id] : List ID)))) rfl ?_)
  refine O_nil (Then_n (W_seq (W_reg ?_)))
  refine O_v rfl (R_move (v := (slV h24 (acc ++ ([id] : List ID)))) rfl ?_)
  refine O_v rfl (R_assign (v := (slV h24 (acc ++ ([id] : List ID)))) rfl ?_)
  refine O_nil (Then_n (W_ret ?_))
  refine ret_1 (v := (slV h24 (acc ++ ([id] : List ID)))) Tryz.results95 rfl ?_
  have hE : acc ++ ([id] : List ID) = [id] := (by rw [hacc]; rfl)
  refine ⟨h24, ?_, H27.gr, ?_⟩
  · exact congrArg (fun l => slV h24 l) hE
  · have hO := H27.retRow 1 rfl
    exact hE ▸ hO

end Go.Proofs.YthjdhfoeckfmbaaGreat
namespace Go.Proofs.YthjdhfoeckfmbaaGreat
open Go
set_option maxRecDepth 100000
set_option linter.unusedVariables false
set_option linter.unusedSimpArgs false
set_option linter.unusedSectionVars false
variable [DD]
theorem ref04_Put_c60 : callable Tryz.prog 60 = true := by kernel_rfl
theorem ref04_Put_c95 : callable Tryz.prog 95 = true := by kernel_rfl
set_option maxHeartbeats 1000000 in
theorem ref04_Put (hids : SlH) (ids : List ID) (id : ID) (w : World) (Sids : Sl (Old w) idCh 32 hids ids w) (hz : ids.length = 0) :
    Calls Tryz.prog 57 #[(slV hids ids), (aggOf (idCh id))] w (Ret fun v w' => ∃ h, v = slV h (putOne id) ∧ Ext w w' ∧ OwnS w.heap.size 44 32 idCh h (putOne id) w') := by
 refine calls_W Tryz.func57 rfl Tryz.ntmps57 rfl ?_
 have H0 := Ctx.start w nob
 have H1 := H0.addSl _ Sids (fun b hb => ⟨hb, fun _ ho => (nomatch ho)⟩)
 have LSids := Sids.len
 refine W_seq (W_reg ?_)
 refine O_v rfl (C_box H1 [(idCells id)] rfl ?_)
 intro b2 w3 hb4 hx5 H6
 refine O_v rfl (R_assign (v := (.slice none 0 0)) rfl ?_)
 refine O_nil (Then_n (W_seq (W_seq (W_reg ?_))))
 refine O_v rfl (R_loadA (cs := [(idCells id)]) Tryz.isAgg44 Tryz.sizeOf44 rfl rfl ((boxR_at (H6.getOwn 0 rfl)).chunks 0 1 0 0 _ rfl rfl rfl) ?_)
 refine O_v rfl (R_callL (vs := [(aggOf (idCh id))]) ref04_Put_c60 rfl rfl ((ref04_zero id w3 ).ret ?_))
 rintro _ w7 ⟨rfl, hx8⟩
 have H9 := H6.ext hx8
 refine O_nil (Then_n ?_)
 refine W_cond (t := (decide (id = zeroId))) rfl (fun hc10 => ?_) (fun hc10 => ?_)
 ·have hc10 : (id = zeroId) := (of_decide_eq_true hc10)
  refine W_seq (W_reg ?_)
  refine O_v rfl (C_buildSliceL H9 (enc := idCh) (val := idV) ([] : List ID) Tryz.underlying41 Tryz.sizeOf44 Tryz.zeroValue44 rfl (by decide) (fun _ => rfl) (fun _ => rfl) rfl rfl (by decide) ?_)
  intro b11 w12 hb13 hx14 H15
  refine O_v rfl (R_move (v := (slV hids ids)) rfl ?_)
  refine O_v rfl (C_append H15 0 rfl (bytes := 32) (l := ([] : List ID)) (ys := ids) Tryz.underlying41 rfl rfl rfl rfl rfl (by decide) rfl rfl (H15.sl 0 rfl) (fun _ => rfl) (fun _ => rfl) (by simp; omega) (by decide) ?_)
  intro h16 w17 hg18 H19
  refine O_v rfl (R_assign (v := (slV h16 (([] : List ID) ++ ids))) rfl ?_)
  refine O_nil (Then_n (W_ret (Then_r ?_)))
  refine ret_1 (v := (slV h16 (([] : List ID) ++ ids))) Tryz.results57 rfl ?_
  have hE : ([] : List ID) ++ ids = putOne id := (putOne_z (by assumption) (List.length_eq_zero_iff.1 hz))
  refine ⟨h16, ?_, H19.gr, ?_⟩
  · exact congrArg (fun l => slV h16 l) hE
  · have hO := H19.retRow 0 rfl
    exact hE ▸ hO
 ·have hc10 : ¬ (id = zeroId) := (of_decide_eq_false hc10)
  refine W_skip (Then_n (W_seq (W_reg ?_)))
  refine O_v rfl (R_move (v := (slV hids ids)) rfl ?_)
  refine O_v rfl (R_loadA (cs := [(idCells id)]) Tryz.isAgg44 Tryz.sizeOf44 rfl rfl ((boxR_at (H9.getOwn 0 rfl)).chunks 0 1 0 0 _ rfl rfl rfl) ?_)
  refine O_v rfl (R_callL (vs := [(slV hids ids), (aggOf (idCh id))]) ref04_Put_c95 rfl rfl ((ref04_Rise hids ids id w7 (H9.slOld 0 rfl) (by omega)).ret ?_))
  rintro _ w21 ⟨h20, rfl, hx22, ho23⟩
  have H24 := H9.addRow hx22 ho23
  refine O_v rfl (R_assign (v := (slV h20 [id])) rfl ?_)
  refine O_nil (Then_n (W_ret ?_))
  refine ret_1 (v := (slV h20 [id])) Tryz.results57 rfl ?_
  have hE : [id] = putOne id := (putOne_n (by assumption))
  refine ⟨h20, ?_, H24.gr, ?_⟩
  · exact congrArg (fun l => slV h20 l) hE
  · have hO := H24.retRow 0 rfl
    exact hE ▸ hO

end Go.Proofs.YthjdhfoeckfmbaaGreat
namespace Go.Proofs.YthjdhfoeckfmbaaGreat
open Go
set_option maxRecDepth 100000
set_option linter.unusedVariables false
set_option linter.unusedSimpArgs false
set_option linter.unusedSectionVars false
variable [DD]
theorem ref04_LinksTag_c32 : callable Tryz.prog 32 = true := by kernel_rfl
theorem ref04_LinksTag_c33 : callable Tryz.prog 33 = true := by kernel_rfl
theorem ref04_LinksTag_c34 : callable Tryz.prog 34 = true := by kernel_rfl
theorem ref04_LinksTag_c57 : callable Tryz.prog 57 = true := by kernel_rfl
set_option maxHeartbeats 1000000 in
theorem ref04_LinksTag (hb : SlH) (b : List UInt8) (w : World) (Sb : Sl (Old w) encB 1 hb b w) (hq2 : openSt b 2 = ([], true)) (hq3 : openSt b 3 = ([], true)) :
    Calls Tryz.prog 22 #[(slV hb b)] w (Ret fun v w' => ∃ h, v = slV h (linksTag b) ∧ Ext w w' ∧ OwnS w.heap.size 44 32 idCh h (linksTag b) w') := by
 refine calls_W Tryz.func22 rfl Tryz.ntmps22 rfl ?_
 have H0 := Ctx.start w nob
 have H1 := H0.addSl _ Sb (fun b hb => ⟨hb, fun _ ho => (nomatch ho)⟩)
 have LSb := Sb.len
 refine W_seq (W_reg ?_)
 refine O_v rfl (R_assign (v := (.slice none 0 0)) rfl ?_)
 refine O_nil (Then_n (W_seq (W_reg ?_)))
 refine O_v rfl (C_buildSliceL H1 (enc := idCh) (val := idV) ([] : List ID) Tryz.underlying41 Tryz.sizeOf44 Tryz.zeroValue44 rfl (by decide) (fun _ => rfl) (fun _ => rfl) rfl rfl (by decide) ?_)
 intro b2 w3 hb4 hx5 H6
 refine O_v rfl (R_assign (v := (slV ⟨some ⟨b2, 0, none⟩, b2, 0, 0⟩ ([] : List ID))) rfl ?_)
 refine O_nil (Then_n (W_seq (W_reg ?_)))
 refine O_v rfl (R_move (v := (slV hb b)) rfl ?_)
 refine O_v rfl (R_callL (vs := [(slV hb b)]) ref04_LinksTag_c32 rfl rfl ((ref04_DirNo hb b w3 (H6.slOld 0 rfl) hq2).ret ?_))
 rintro _ w7 ⟨rfl, hx8⟩
 have H9 := H6.ext hx8
 refine O_v rfl (R_move (v := (.tuple #[(.slice none 0 0), (.bool false)])) rfl ?_)
 refine O_v rfl (R_extract (v := (.slice none 0 0)) rfl rfl ?_)
 refine O_v rfl (R_extract (v := (.bool false)) rfl rfl ?_)
 refine O_v rfl (R_assign (v := (.slice none 0 0)) rfl ?_)
 refine O_v rfl (R_assign (v := (.bool false)) rfl ?_)
 refine O_nil (Then_n (W_seq (W_seq (W_reg ?_))))
 refine O_v rfl (R_assign (v := (.int .i64 0)) rfl ?_)
 refine O_nil (Then_n (W_block ?_))
 refine W_loop (fun m11 e12 w13 => ∃ (k : Nat), ∃ (acc : List ID), ∃ (h10 : SlH), m11 = 0 ∧ (acc = []) ∧ ∃ eb14, e12 = envL [(0, (slV hb b)), (2, (.slice none 0 0)), (3, (slV h10 acc)), (4, (.slice none 0 0)), (6, (.int .i64 ((k : Nat) : Int)))] eb14 ∧ Ctx w nob w13 [rowR 44 32 idCh h10 acc] [slI (Old w) encB 1 hb b]) _ ⟨0, [], ⟨some ⟨b2, 0, none⟩, b2, 0, 0⟩, rfl, rfl, _, envL_self ⟨rfl, rfl, rfl, rfl, rfl, trivial⟩, H9⟩ ?_
 rintro m11 _ w13 ⟨k, acc, h10, rfl, hacc, eb14, rfl, H15⟩
 refine W_seq (W_seq (W_reg ?_))
 refine O_v rfl (R_move (v := (.int .i64 ((k : Nat) : Int))) rfl ?_)
 refine O_v rfl (R_move (v := (.slice none 0 0)) rfl ?_)
 refine O_v rfl (R_len_slice (a := none) (n := 0) (c := 0) Tryz.underlying31 rfl ?_)
 refine O_v rfl (R_cmp (a := ((k : Nat) : Int)) (b := ((0 : Nat) : Int)) (r := (decide (((k : Nat) : Int) < ((0 : Nat) : Int)))) rfl rfl rfl ?_)
 refine O_nil (Then_n ?_)
 refine W_cond (t := (decide (((k : Nat) : Int) < ((0 : Nat) : Int)))) rfl (fun hc16 => ?_) (fun hc16 => ?_)
 ·have hc16 : (((k : Nat) : Int) < ((0 : Nat) : Int)) := (of_decide_eq_true hc16)
  refine W_skip (Then_n ?_)
  exfalso; omega
 ·have hc16 : ¬ (((k : Nat) : Int) < ((0 : Nat) : Int)) := (of_decide_eq_false hc16)
  refine W_exit (Then_x (Then_x (Blk_x (Then_n (W_seq (W_reg ?_))))))
  refine O_v rfl (R_move (v := (slV hb b)) rfl ?_)
  refine O_v rfl (R_callL (vs := [(slV hb b)]) ref04_LinksTag_c33 rfl rfl ((ref04_ChangeNo hb b w13 (H15.slOld 0 rfl) hq3).ret ?_))
  rintro _ w17 ⟨rfl, hx18⟩
  have H19 := H15.ext hx18
  refine O_v rfl (R_move (v := (.tuple #[(aggOf [[(.slice none 0 0)], [(.int .i64 0)], [(.int .i64 0)], [(.slice none 0 0)], (idCells zeroId), [(.string ByteArray.empty)]]), (.bool false)])) rfl ?_)
  refine O_v rfl (R_extract (v := (aggOf [[(.slice none 0 0)], [(.int .i64 0)], [(.int .i64 0)], [(.slice none 0 0)], (idCells zeroId), [(.string ByteArray.empty)]])) rfl rfl ?_)
  refine O_v rfl (R_extract (v := (.bool false)) rfl rfl ?_)
  refine O_v rfl (C_alloc H19 [[(.slice none 0 0)], [(.int .i64 0)], [(.int .i64 0)], [(.slice none 0 0)], (idCells zeroId), [(.string ByteArray.empty)]] Tryz.zeroValue47 ?_)
  intro b20 w21 hb22 hx23 H24
  refine O_u (C_storeA H24 0 rfl 0 (sub := [[(.slice none 0 0)], [(.int .i64 0)], [(.int .i64 0)], [(.slice none 0 0)], (idCells zeroId), [(.string ByteArray.empty)]]) [[(.slice none 0 0)], [(.int .i64 0)], [(.int .i64 0)], [(.slice none 0 0)], (idCells zeroId), [(.string ByteArray.empty)]] Tryz.sizeOf47 rfl rfl rfl rfl ⟨[[(.slice none 0 0)], [(.int .i64 0)], [(.int .i64 0)], [(.slice none 0 0)], (idCells zeroId), [(.string ByteArray.empty)]], [], rfl, rfl, rfl⟩ rfl ?_)
  intro w25 hg26 H27
  refine O_v rfl (R_assign (v := (.bool false)) rfl ?_)
  refine O_nil (Then_n (W_seq (W_seq (W_reg ?_))))
  refine O_v rfl (R_move (v := (.bool false)) rfl ?_)
  refine O_nil (Then_n ?_)
  refine W_cond_f rfl ?_
  refine W_skip (Then_n (W_seq (W_reg ?_)))
  refine O_v rfl (R_move (v := (slV hb b)) rfl ?_)
  refine O_v rfl (R_callL (vs := [(slV hb b)]) ref04_LinksTag_c34 rfl rfl ((ref04_Label hb b w25 (H27.slOld 0 rfl)).ret ?_))
  rintro _ w28 ⟨rfl, hx29⟩
  have H30 := H27.ext hx29
  refine O_v rfl (R_move (v := (.tuple #[(aggOf (labelCh ((labelOf b).1))), (.bool (decide ((labelOf b).2 = 0)))])) rfl ?_)
  refine O_v rfl (R_extract (v := (aggOf (labelCh ((labelOf b).1)))) rfl rfl ?_)
  refine O_v rfl (R_extract (v := (.bool (decide ((labelOf b).2 = 0)))) rfl rfl ?_)
  refine O_v rfl (C_alloc H30 [(idCells zeroId), [(.string ByteArray.empty)], [(.string ByteArray.empty)]] Tryz.zeroValue55 ?_)
  intro b31 w32 hb33 hx34 H35
  refine O_u (C_storeA H35 0 rfl 0 (sub := [(idCells (((labelOf b).1).target)), [(.string (((labelOf b).1).name))], [(.string (((labelOf b).1).msg))]]) [(idCells (((labelOf b).1).target)), [(.string (((labelOf b).1).name))], [(.string (((labelOf b).1).msg))]] Tryz.sizeOf55 rfl rfl rfl rfl ⟨[(idCells zeroId), [(.string ByteArray.empty)], [(.string ByteArray.empty)]], [], rfl, rfl, rfl⟩ rfl ?_)
  intro w36 hg37 H38
  refine O_v rfl (R_assign (v := (.bool (decide ((labelOf b).2 = 0)))) rfl ?_)
  refine O_nil (Then_n (W_seq (W_seq (W_reg ?_))))
  refine O_v rfl (R_move (v := (.bool (decide ((labelOf b).2 = 0)))) rfl ?_)
  refine O_nil (Then_n ?_)
  refine W_cond (t := (decide ((labelOf b).2 = 0))) rfl (fun hc39 => ?_) (fun hc39 => ?_)
  ·have hc39 : ((labelOf b).2 = 0) := (of_decide_eq_true hc39)
   refine W_reg ?_
   refine O_v rfl (R_move (v := (slV h10 acc)) rfl ?_)
   refine O_v rfl (R_fieldAddr (off := 0) (oo := 0) Tryz.underlying55 rfl rfl Tryz.sizeOf45 rfl rfl ?_)
   refine O_v rfl (R_loadA (cs := [(idCells (((labelOf b).1).target))]) Tryz.isAgg45 Tryz.sizeOf45 rfl rfl ((boxR_at (H38.getOwn 0 rfl)).chunks 0 1 0 0 _ rfl rfl rfl) ?_)
   refine O_v rfl (R_callL (vs := [(slV h10 acc), (aggOf (idCh (((labelOf b).1).target)))]) ref04_LinksTag_c57 rfl rfl ((ref04_Put h10 acc (((labelOf b).1).target) w36 (H38.rowSl 2 rfl (fun _ => rfl)) (by rw [hacc]; rfl)).ret ?_))
   rintro _ w41 ⟨h40, rfl, hx42, ho43⟩
   have H44 := H38.addRow hx42 ho43
   refine O_v rfl (R_assign (v := (slV h40 (putOne (((labelOf b).1).target)))) rfl ?_)
   refine O_nil (Then_n (W_seq (W_reg ?_)))
   refine O_v rfl (R_move (v := (slV h40 (putOne (((labelOf b).1).target)))) rfl ?_)
   refine O_v rfl (R_assign (v := (slV h40 (putOne (((labelOf b).1).target)))) rfl ?_)
   refine O_nil (Then_n (W_ret ?_))
   refine ret_1 (v := (slV h40 (putOne (((labelOf b).1).target)))) Tryz.results22 rfl ?_
   have hE : putOne (((labelOf b).1).target) = linksTag b := (linksTag_y (by assumption))
   refine ⟨h40, ?_, H44.gr, ?_⟩
   · exact congrArg (fun l => slV h40 l) hE
   · have hO := H44.retRow 0 rfl
     exact hE ▸ hO
  ·have hc39 : ¬ ((labelOf b).2 = 0) := (of_decide_eq_false hc39)
   refine W_skip (Then_n (W_seq (W_reg ?_)))
   refine O_v rfl (R_move (v := (slV h10 acc)) rfl ?_)
   refine O_v rfl (R_assign (v := (slV h10 acc)) rfl ?_)
   refine O_nil (Then_n (W_ret ?_))
   refine ret_1 (v := (slV h10 acc)) Tryz.results22 rfl ?_
   have hE : acc = linksTag b := (linksTag_n hacc (by assumption))
   refine ⟨h10, ?_, H38.gr, ?_⟩
   · exact congrArg (fun l => slV h10 l) hE
   · have hO := H38.retRow 2 rfl
     exact hE ▸ hO

end Go.Proofs.YthjdhfoeckfmbaaGreat
namespace Go.Proofs.YthjdhfoeckfmbaaGreat
open Go
set_option maxRecDepth 100000
set_option linter.unusedVariables false
set_option linter.unusedSimpArgs false
set_option linter.unusedSectionVars false
variable [DD]
set_option maxHeartbeats 1000000 in
theorem ref01_Join (ha : SlH) (a : List UInt8) (hb : SlH) (b : List UInt8) (w : World) (Sa : Sl (Old w) encB 1 ha a w) (Sb : Sl (Old w) encB 1 hb b w) (hl : a.length + b.length ≤ 70368744177664) :
    Calls Tryz.prog 13 #[(slV ha a), (slV hb b)] w (Ret fun v w' => ∃ h, v = slV h (a ++ b) ∧ Ext w w' ∧ OwnS w.heap.size 5 1 encB h (a ++ b) w') := by
 refine calls_W Tryz.func13 rfl Tryz.ntmps13 rfl ?_
 have H0 := Ctx.start w nob
 have H1 := H0.addSl _ Sa (fun b hb => ⟨hb, fun _ ho => (nomatch ho)⟩)
 have LSa := Sa.len
 have H2 := H1.addSl _ Sb (fun b hb => ⟨hb, fun _ ho => (nomatch ho)⟩)
 have LSb := Sb.len
 refine W_seq (W_reg ?_)
 refine O_v rfl (R_assign (v := (.slice none 0 0)) rfl ?_)
 refine O_nil (Then_n (W_seq (W_reg ?_)))
 refine O_v rfl (C_buildSliceL H2 (enc := encB) (val := byteV) ([] : List UInt8) Tryz.underlying22 Tryz.sizeOf5 Tryz.zeroValue5 rfl (by decide) (fun _ => rfl) (fun _ => rfl) rfl rfl (by decide) ?_)
 intro b3 w4 hb5 hx6 H7
 refine O_v rfl (R_assign (v := (slV ⟨some ⟨b3, 0, none⟩, b3, 0, 0⟩ ([] : List UInt8))) rfl ?_)
 refine O_nil (Then_n (W_seq (W_seq (W_reg ?_))))
 refine O_v rfl (R_assign (v := (.int .i64 0)) rfl ?_)
 refine O_nil (Then_n (W_block ?_))
 refine W_loop (fun m9 e10 w11 => ∃ (k : Nat), ∃ (acc : List UInt8), ∃ (h8 : SlH), m9 = a.length - k ∧ (k ≤ a.length) ∧ (acc = a.take k) ∧ (acc.length ≤ k) ∧ ∃ eb12, e10 = envL [(0, (slV ha a)), (1, (slV hb b)), (4, (.slice none 0 0)), (5, (slV h8 acc)), (6, (.int .i64 ((k : Nat) : Int)))] eb12 ∧ Ctx w nob w11 [rowR 5 1 encB h8 acc] [slI (Old w) encB 1 hb b, slI (Old w) encB 1 ha a]) _ ⟨0, [], ⟨some ⟨b3, 0, none⟩, b3, 0, 0⟩, rfl, (by omega), rfl, (Nat.zero_le _), _, envL_self ⟨rfl, rfl, rfl, rfl, rfl, trivial⟩, H7⟩ ?_
 rintro m9 _ w11 ⟨k, acc, h8, rfl, hk, hac, hal, eb12, rfl, H13⟩
 refine W_seq (W_seq (W_reg ?_))
 refine O_v rfl (R_move (v := (.int .i64 ((k : Nat) : Int))) rfl ?_)
 refine O_v rfl (R_move (v := (slV ha a)) rfl ?_)
 refine O_v rfl (R_len_slice (a := ha.a) (n := a.length) (c := ha.c) Tryz.underlying22 rfl ?_)
 refine O_v rfl (R_cmp (a := ((k : Nat) : Int)) (b := ((a.length : Nat) : Int)) (r := (decide (((k : Nat) : Int) < ((a.length : Nat) : Int)))) rfl rfl rfl ?_)
 refine O_nil (Then_n ?_)
 refine W_cond (t := (decide (((k : Nat) : Int) < ((a.length : Nat) : Int)))) rfl (fun hc14 => ?_) (fun hc14 => ?_)
 ·have hc14 : (((k : Nat) : Int) < ((a.length : Nat) : Int)) := (of_decide_eq_true hc14)
  refine W_skip (Then_n (W_seq (W_block (W_reg ?_))))
  refine O_v rfl (R_move (v := (slV h8 acc)) rfl ?_)
  refine O_v rfl (R_move (v := (slV ha a)) rfl ?_)
  refine O_v rfl (R_move (v := (.int .i64 ((k : Nat) : Int))) rfl ?_)
  refine O_v rfl (R_index_pure (H13.sl 1 rfl) (n := a.length) rfl (j := ((k : Nat) : Int)) (oo := (ha.o + k * 1)) Tryz.underlying22 Tryz.sizeOf5 rfl rfl (by omega) (by omega) rfl ?_)
  refine O_v rfl (R_load1 (v := (.int .u8 ((nth a k).toNat : Int))) Tryz.isAgg5 rfl ((Sl.elem (H13.sl 1 rfl) (i := k) (by omega) rfl).chunks 0 1 0 (ha.o + k * 1) _ rfl rfl rfl) ?_)
  refine O_v rfl (C_buildSliceL H13 (enc := encB) (val := byteV) ([(nth a k)] : List UInt8) Tryz.underlying22 Tryz.sizeOf5 Tryz.zeroValue5 rfl (by decide) (fun _ => rfl) (fun _ => rfl) rfl rfl (by decide) ?_)
  intro b15 w16 hb17 hx18 H19
  refine O_v rfl (C_append H19 1 rfl (bytes := 1) (l := acc) (ys := ([(nth a k)] : List UInt8)) Tryz.underlying22 rfl rfl rfl rfl rfl (by decide) rfl rfl (OwnS.sl (H19.getOwn 0 rfl) (fun _ => rfl)) (fun _ => rfl) (fun _ => rfl) (by simp only [List.length_append, List.length_cons, List.length_nil]; omega) (by decide) ?_)
  intro h20 w21 hg22 H23
  refine O_v rfl (R_assign (v := (slV h20 (acc ++ ([(nth a k)] : List UInt8)))) rfl ?_)
  refine O_nil (Blk_n (Then_n (W_reg ?_)))
  refine O_v rfl (R_move (v := (.int .i64 ((k : Nat) : Int))) rfl ?_)
  refine O_v rfl (R_arith (a := ((k : Nat) : Int)) (b := 1) (r0 := ((k : Nat) : Int) + 1) (r := ((k + 1 : Nat) : Int)) rfl rfl rfl (wrapN _ (by omega)) ?_)
  refine O_v rfl (R_assign (v := (.int .i64 ((k + 1 : Nat) : Int))) rfl ?_)
  refine O_nil (Then_n ?_)
  have H24 := H23.sub (B' := [rowR 5 1 encB h20 (acc ++ ([(nth a k)] : List UInt8))]) (I' := [slI (Old w) encB 1 hb b, slI (Old w) encB 1 ha a]) (List.Sublist.cons _ (List.Sublist.cons_cons _ List.Sublist.slnil)) (List.forall_mem_cons.2 ⟨List.mem_of_getElem? (i := 0) rfl, List.forall_mem_cons.2 ⟨List.mem_of_getElem? (i := 1) rfl, fun _ h => (nomatch h)⟩⟩)
  refine ⟨_, ?_, (k + 1), (acc ++ ([(nth a k)] : List UInt8)), h20, rfl, (by omega), (by rw [hac]; exact (take_snoc (by omega)).symm), (by simp only [List.length_append, List.length_cons, List.length_nil]; omega), _, envL_self ⟨rfl, rfl, rfl, rfl, rfl, trivial⟩, H24⟩
  omega
 ·have hc14 : ¬ (((k : Nat) : Int) < ((a.length : Nat) : Int)) := (of_decide_eq_false hc14)
  refine W_exit (Then_x (Then_x (Blk_x (Then_n (W_seq (W_seq (W_reg ?_)))))))
  refine O_v rfl (R_assign (v := (.int .i64 0)) rfl ?_)
  refine O_nil (Then_n (W_block ?_))
  refine W_loop (fun m26 e27 w28 => ∃ (j : Nat), ∃ (acc2 : List UInt8), ∃ (h25 : SlH), m26 = b.length - j ∧ (j ≤ b.length) ∧ (acc2 = a ++ b.take j) ∧ (acc2.length ≤ a.length + j) ∧ ∃ eb29, e27 = envL [(1, (slV hb b)), (4, (.slice none 0 0)), (5, (slV h25 acc2)), (7, (.int .i64 ((j : Nat) : Int)))] eb29 ∧ Ctx w nob w28 [rowR 5 1 encB h25 acc2] [slI (Old w) encB 1 hb b, slI (Old w) encB 1 ha a]) _ ⟨0, acc, h8, rfl, (by omega), (by rw [hac, List.take_of_length_le (by omega), List.take_zero, List.append_nil]), (by omega), _, envL_self ⟨rfl, rfl, rfl, rfl, trivial⟩, H13⟩ ?_
  rintro m26 _ w28 ⟨j, acc2, h25, rfl, hj, hac2, hal2, eb29, rfl, H30⟩
  refine W_seq (W_seq (W_reg ?_))
  refine O_v rfl (R_move (v := (.int .i64 ((j : Nat) : Int))) rfl ?_)
  refine O_v rfl (R_move (v := (slV hb b)) rfl ?_)
  refine O_v rfl (R_len_slice (a := hb.a) (n := b.length) (c := hb.c) Tryz.underlying22 rfl ?_)
  refine O_v rfl (R_cmp (a := ((j : Nat) : Int)) (b := ((b.length : Nat) : Int)) (r := (decide (((j : Nat) : Int) < ((b.length : Nat) : Int)))) rfl rfl rfl ?_)
  refine O_nil (Then_n ?_)
  refine W_cond (t := (decide (((j : Nat) : Int) < ((b.length : Nat) : Int)))) rfl (fun hc31 => ?_) (fun hc31 => ?_)
  ·have hc31 : (((j : Nat) : Int) < ((b.length : Nat) : Int)) := (of_decide_eq_true hc31)
   refine W_skip (Then_n (W_seq (W_block (W_reg ?_))))
   refine O_v rfl (R_move (v := (slV h25 acc2)) rfl ?_)
   refine O_v rfl (R_move (v := (slV hb b)) rfl ?_)
   refine O_v rfl (R_move (v := (.int .i64 ((j : Nat) : Int))) rfl ?_)
   refine O_v rfl (R_index_pure (H30.sl 0 rfl) (n := b.length) rfl (j := ((j : Nat) : Int)) (oo := (hb.o + j * 1)) Tryz.underlying22 Tryz.sizeOf5 rfl rfl (by omega) (by omega) rfl ?_)
   refine O_v rfl (R_load1 (v := (.int .u8 ((nth b j).toNat : Int))) Tryz.isAgg5 rfl ((Sl.elem (H30.sl 0 rfl) (i := j) (by omega) rfl).chunks 0 1 0 (hb.o + j * 1) _ rfl rfl rfl) ?_)
   refine O_v rfl (C_buildSliceL H30 (enc := encB) (val := byteV) ([(nth b j)] : List UInt8) Tryz.underlying22 Tryz.sizeOf5 Tryz.zeroValue5 rfl (by decide) (fun _ => rfl) (fun _ => rfl) rfl rfl (by decide) ?_)
   intro b32 w33 hb34 hx35 H36
   refine O_v rfl (C_append H36 1 rfl (bytes := 1) (l := acc2) (ys := ([(nth b j)] : List UInt8)) Tryz.underlying22 rfl rfl rfl rfl rfl (by decide) rfl rfl (OwnS.sl (H36.getOwn 0 rfl) (fun _ => rfl)) (fun _ => rfl) (fun _ => rfl) (by simp only [List.length_append, List.length_cons, List.length_nil]; omega) (by decide) ?_)
   intro h37 w38 hg39 H40
   refine O_v rfl (R_assign (v := (slV h37 (acc2 ++ ([(nth b j)] : List UInt8)))) rfl ?_)
   refine O_nil (Blk_n (Then_n (W_reg ?_)))
   refine O_v rfl (R_move (v := (.int .i64 ((j : Nat) : Int))) rfl ?_)
   refine O_v rfl (R_arith (a := ((j : Nat) : Int)) (b := 1) (r0 := ((j : Nat) : Int) + 1) (r := ((j + 1 : Nat) : Int)) rfl rfl rfl (wrapN _ (by omega)) ?_)
   refine O_v rfl (R_assign (v := (.int .i64 ((j + 1 : Nat) : Int))) rfl ?_)
   refine O_nil (Then_n ?_)
   have H41 := H40.sub (B' := [rowR 5 1 encB h37 (acc2 ++ ([(nth b j)] : List UInt8))]) (I' := [slI (Old w) encB 1 hb b, slI (Old w) encB 1 ha a]) (List.Sublist.cons _ (List.Sublist.cons_cons _ List.Sublist.slnil)) (List.forall_mem_cons.2 ⟨List.mem_of_getElem? (i := 0) rfl, List.forall_mem_cons.2 ⟨List.mem_of_getElem? (i := 1) rfl, fun _ h => (nomatch h)⟩⟩)
   refine ⟨_, ?_, (j + 1), (acc2 ++ ([(nth b j)] : List UInt8)), h37, rfl, (by omega), (by rw [hac2, List.append_assoc]; exact congrArg _ (take_snoc (by omega)).symm), (by simp only [List.length_append, List.length_cons, List.length_nil]; omega), _, envL_self ⟨rfl, rfl, rfl, rfl, trivial⟩, H41⟩
   omega
  ·have hc31 : ¬ (((j : Nat) : Int) < ((b.length : Nat) : Int)) := (of_decide_eq_false hc31)
   refine W_exit (Then_x (Then_x (Blk_x (Then_n (W_seq (W_reg ?_))))))
   refine O_v rfl (R_move (v := (slV h25 acc2)) rfl ?_)
   refine O_v rfl (R_assign (v := (slV h25 acc2)) rfl ?_)
   refine O_nil (Then_n (W_ret ?_))
   refine ret_1 (v := (slV h25 acc2)) Tryz.results13 rfl ?_
   have hE : acc2 = a ++ b := (by rw [hac2, List.take_of_length_le (by omega)])
   refine ⟨h25, ?_, H30.gr, ?_⟩
   · exact congrArg (fun l => slV h25 l) hE
   · have hO := H30.retRow 0 rfl
     exact hE ▸ hO

end Go.Proofs.YthjdhfoeckfmbaaGreat
namespace Go.Proofs.YthjdhfoeckfmbaaGreat
open Go
set_option maxRecDepth 100000
set_option linter.unusedVariables false
set_option linter.unusedSimpArgs false
set_option linter.unusedSectionVars false
variable [DD]
set_option maxHeartbeats 1000000 in
theorem ref02_Id (id : ID) (w : World) :
    Calls Tryz.prog 66 #[(aggOf (idCh id))] w (Ret fun v w' => ∃ h, v = slV h (idList id) ∧ Ext w w' ∧ OwnS w.heap.size 5 1 encB h (idList id) w') := by
 refine calls_W Tryz.func66 rfl Tryz.ntmps66 rfl ?_
 have H0 := Ctx.start w nob
 refine W_seq (W_reg ?_)
 refine O_v rfl (C_box H0 [(idCells id)] rfl ?_)
 intro b1 w2 hb3 hx4 H5
 refine O_v rfl (R_assign (v := (.slice none 0 0)) rfl ?_)
 refine O_nil (Then_n (W_seq (W_reg ?_)))
 refine O_v rfl (C_buildSliceL H5 (enc := encB) (val := byteV) ([] : List UInt8) Tryz.underlying22 Tryz.sizeOf5 Tryz.zeroValue5 rfl (by decide) (fun _ => rfl) (fun _ => rfl) rfl rfl (by decide) ?_)
 intro b6 w7 hb8 hx9 H10
 refine O_v rfl (R_assign (v := (slV ⟨some ⟨b6, 0, none⟩, b6, 0, 0⟩ ([] : List UInt8))) rfl ?_)
 refine O_nil (Then_n (W_seq (W_seq (W_reg ?_))))
 refine O_v rfl (R_assign (v := (.int .i64 0)) rfl ?_)
 refine O_nil (Then_n (W_block ?_))
 refine W_loop (fun m12 e13 w14 => ∃ (k : Nat), ∃ (acc : List UInt8), ∃ (h11 : SlH), m12 = 32 - k ∧ (k ≤ 32) ∧ (acc = (idList id).take k) ∧ (acc.length ≤ k) ∧ ∃ eb15, e13 = envL [(1, (.pointer (some ⟨b1, 0, none⟩))), (2, (.slice none 0 0)), (3, (slV h11 acc)), (4, (.int .i64 ((k : Nat) : Int)))] eb15 ∧ Ctx w nob w14 [rowR 5 1 encB h11 acc, boxR b1 44 [(idCells id)]] []) _ ⟨0, [], ⟨some ⟨b6, 0, none⟩, b6, 0, 0⟩, rfl, (by omega), rfl, (Nat.zero_le _), _, envL_self ⟨rfl, rfl, rfl, rfl, trivial⟩, H10⟩ ?_
 rintro m12 _ w14 ⟨k, acc, h11, rfl, hk, hac, hal, eb15, rfl, H16⟩
 refine W_seq (W_seq (W_reg ?_))
 refine O_v rfl (R_move (v := (.int .i64 ((k : Nat) : Int))) rfl ?_)
 refine O_v rfl (R_cmp (a := ((k : Nat) : Int)) (b := 32) (r := (decide (((k : Nat) : Int) < 32))) rfl rfl rfl ?_)
 refine O_nil (Then_n ?_)
 refine W_cond (t := (decide (((k : Nat) : Int) < 32))) rfl (fun hc17 => ?_) (fun hc17 => ?_)
 ·have hc17 : (((k : Nat) : Int) < 32) := (of_decide_eq_true hc17)
  refine W_skip (Then_n (W_seq (W_block (W_reg ?_))))
  refine O_v rfl (R_move (v := (slV h11 acc)) rfl ?_)
  refine O_v rfl (R_move (v := (.int .i64 ((k : Nat) : Int))) rfl ?_)
  refine O_v rfl (R_index_array (n := 32) (k := 1) (o := 0) (oo := (0 + k * 1)) (j := ((k : Nat) : Int)) Tryz.underlying44 Tryz.sizeOf5 rfl rfl (by omega) (by omega) rfl ?_)
  refine O_v rfl (R_load1 (v := (.int .u8 ((nth (idList id) k).toNat : Int))) Tryz.isAgg5 rfl ((Sl.elem (Sl_box (H16.getOwn 1 rfl)) (i := k) (by rw [idList_len]; omega) rfl).chunks 0 1 0 (0 + k * 1) _ rfl rfl rfl) ?_)
  refine O_v rfl (C_buildSliceL H16 (enc := encB) (val := byteV) ([(nth (idList id) k)] : List UInt8) Tryz.underlying22 Tryz.sizeOf5 Tryz.zeroValue5 rfl (by decide) (fun _ => rfl) (fun _ => rfl) rfl rfl (by decide) ?_)
  intro b18 w19 hb20 hx21 H22
  refine O_v rfl (C_append H22 1 rfl (bytes := 1) (l := acc) (ys := ([(nth (idList id) k)] : List UInt8)) Tryz.underlying22 rfl rfl rfl rfl rfl (by decide) rfl rfl (OwnS.sl (H22.getOwn 0 rfl) (fun _ => rfl)) (fun _ => rfl) (fun _ => rfl) (by simp only [List.length_append, List.length_cons, List.length_nil]; omega) (by decide) ?_)
  intro h23 w24 hg25 H26
  refine O_v rfl (R_assign (v := (slV h23 (acc ++ ([(nth (idList id) k)] : List UInt8)))) rfl ?_)
  refine O_nil (Blk_n (Then_n (W_reg ?_)))
  refine O_v rfl (R_move (v := (.int .i64 ((k : Nat) : Int))) rfl ?_)
  refine O_v rfl (R_arith (a := ((k : Nat) : Int)) (b := 1) (r0 := ((k : Nat) : Int) + 1) (r := ((k + 1 : Nat) : Int)) rfl rfl rfl (wrapN _ (by omega)) ?_)
  refine O_v rfl (R_assign (v := (.int .i64 ((k + 1 : Nat) : Int))) rfl ?_)
  refine O_nil (Then_n ?_)
  have H27 := H26.sub (B' := [rowR 5 1 encB h23 (acc ++ ([(nth (idList id) k)] : List UInt8)), boxR b1 44 [(idCells id)]]) (I' := []) (List.Sublist.cons _ (List.Sublist.cons_cons _ (List.Sublist.cons_cons _ List.Sublist.slnil))) (fun _ h => (nomatch h))
  refine ⟨_, ?_, (k + 1), (acc ++ ([(nth (idList id) k)] : List UInt8)), h23, rfl, (by omega), (by rw [hac]; exact (take_snoc (by rw [idList_len]; omega)).symm), (by simp only [List.length_append, List.length_cons, List.length_nil]; omega), _, envL_self ⟨rfl, rfl, rfl, rfl, trivial⟩, H27⟩
  omega
 ·have hc17 : ¬ (((k : Nat) : Int) < 32) := (of_decide_eq_false hc17)
  refine W_exit (Then_x (Then_x (Blk_x (Then_n (W_seq (W_reg ?_))))))
  refine O_v rfl (R_move (v := (slV h11 acc)) rfl ?_)
  refine O_v rfl (R_assign (v := (slV h11 acc)) rfl ?_)
  refine O_nil (Then_n (W_ret ?_))
  refine ret_1 (v := (slV h11 acc)) Tryz.results66 rfl ?_
  have hE : acc = idList id := (by rw [hac, List.take_of_length_le (by rw [idList_len]; omega)])
  refine ⟨h11, ?_, H16.gr, ?_⟩
  · exact congrArg (fun l => slV h11 l) hE
  · have hO := H16.retRow 0 rfl
    exact hE ▸ hO

end Go.Proofs.YthjdhfoeckfmbaaGreat
namespace Go.Proofs.YthjdhfoeckfmbaaGreat
open Go
set_option maxRecDepth 100000
set_option linter.unusedVariables false
set_option linter.unusedSimpArgs false
set_option linter.unusedSectionVars false
variable [DD]
set_option maxHeartbeats 1000000 in
theorem ref02_Num (n : Int) (w : World) :
    Calls Tryz.prog 90 #[(.int .i64 n)] w (Ret fun v w' => ∃ h, v = slV h (numB n) ∧ Ext w w' ∧ OwnS w.heap.size 5 1 encB h (numB n) w') := by
 refine calls_W Tryz.func90 rfl Tryz.ntmps90 rfl ?_
 have H0 := Ctx.start w nob
 refine W_seq (W_reg ?_)
 refine O_v rfl (R_assign (v := (.slice none 0 0)) rfl ?_)
 refine O_nil (Then_n (W_seq (W_seq (W_reg ?_))))
 refine O_v rfl (R_move (v := (.int .i64 n)) rfl ?_)
 refine O_v rfl (R_cmp (a := n) (b := 0) (r := (decide (n < 0))) rfl rfl rfl ?_)
 refine O_nil (Then_n ?_)
 refine W_cond (t := (decide (n < 0))) rfl (fun hc1 => ?_) (fun hc1 => ?_)
 ·have hc1 : (n < 0) := (of_decide_eq_true hc1)
  refine W_reg ?_
  refine O_v rfl (R_assign (v := (.int .i64 0)) rfl ?_)
  refine O_nil (Then_n (W_seq (W_seq (W_reg ?_))))
  refine O_v rfl (R_move (v := (.int .i64 0)) rfl ?_)
  refine O_v rfl (R_cmp (a := 0) (b := 4611686018427387904) (r := (decide ((4611686018427387904 : Int) < 0))) rfl rfl rfl ?_)
  refine O_nil (Then_n ?_)
  refine W_cond (t := (decide ((4611686018427387904 : Int) < 0))) rfl (fun hc2 => ?_) (fun hc2 => ?_)
  ·have hc2 : ((4611686018427387904 : Int) < 0) := (of_decide_eq_true hc2)
   refine W_reg ?_
   refine O_v rfl (R_assign (v := (.int .i64 4611686018427387904)) rfl ?_)
   refine O_nil (Then_n (W_seq (W_reg ?_)))
   refine O_v rfl (C_buildSliceL H0 (enc := encB) (val := byteV) ([] : List UInt8) Tryz.underlying22 Tryz.sizeOf5 Tryz.zeroValue5 rfl (by decide) (fun _ => rfl) (fun _ => rfl) rfl rfl (by decide) ?_)
   intro b3 w4 hb5 hx6 H7
   refine O_v rfl (R_assign (v := (slV ⟨some ⟨b3, 0, none⟩, b3, 0, 0⟩ ([] : List UInt8))) rfl ?_)
   refine O_nil (Then_n (W_seq (W_block ?_)))
   refine W_loop (fun m9 e10 w11 => ∃ (u : Nat), ∃ (acc : List UInt8), ∃ (h8 : SlH), m9 = u + 1 ∧ (acc ++ numGo u = ([] : List UInt8) ++ numB n) ∧ (u ≤ 4611686018427387904) ∧ (acc.length + (numGo u).length ≤ 9) ∧ ∃ eb12, e10 = envL [(0, (.int .i64 ((u : Nat) : Int))), (2, (.slice none 0 0)), (3, (slV h8 acc))] eb12 ∧ Ctx w nob w11 [rowR 5 1 encB h8 acc] []) _ ⟨4611686018427387904, [], ⟨some ⟨b3, 0, none⟩, b3, 0, 0⟩, rfl, (rnum_start (by unfold numClamp; omega)), (by omega), (rnum_len (by omega)), _, envL_self ⟨(congrArg (Value.int .i64) (by omega)), rfl, rfl, trivial⟩, H7⟩ ?_
   rintro m9 _ w11 ⟨u, acc, h8, rfl, hac, hu, hal, eb12, rfl, H13⟩
   refine W_seq (W_seq (W_reg ?_))
   refine O_v rfl (R_move (v := (.int .i64 ((u : Nat) : Int))) rfl ?_)
   refine O_v rfl (R_cmp (a := ((u : Nat) : Int)) (b := 128) (r := (decide (128 ≤ ((u : Nat) : Int)))) rfl rfl rfl ?_)
   refine O_nil (Then_n ?_)
   refine W_cond (t := (decide (128 ≤ ((u : Nat) : Int)))) rfl (fun hc14 => ?_) (fun hc14 => ?_)
   ·have hc14 : (128 ≤ ((u : Nat) : Int)) := (of_decide_eq_true hc14)
    refine W_skip (Then_n (W_block (W_seq (W_reg ?_))))
    refine O_v rfl (R_move (v := (slV h8 acc)) rfl ?_)
    refine O_v rfl (R_move (v := (.int .i64 ((u : Nat) : Int))) rfl ?_)
    refine O_v rfl (R_rem (a := ((u : Nat) : Int)) (b := ((128 : Nat) : Int)) (r := (((u % 128) : Nat) : Int)) rfl rfl (by decide) (tmod_nat _ _) ?_)
    refine O_v rfl (R_arith (a := (((u % 128) : Nat) : Int)) (b := 128) (r0 := (((u % 128) : Nat) : Int) + 128) (r := (((u % 128 + 128) : Nat) : Int)) rfl rfl rfl (by rw [w64 _ (by omega)]; omega) ?_)
    refine O_v rfl (R_conv_int (a := (((u % 128 + 128) : Nat) : Int)) (r := ((UInt8.ofNat (u % 128 + 128)).toNat : Int)) Tryz.underlying2 Tryz.underlying5 rfl (conv_u8 _) ?_)
    refine O_v rfl (C_buildSliceL H13 (enc := encB) (val := byteV) ([(UInt8.ofNat (u % 128 + 128))] : List UInt8) Tryz.underlying22 Tryz.sizeOf5 Tryz.zeroValue5 rfl (by decide) (fun _ => rfl) (fun _ => rfl) rfl rfl (by decide) ?_)
    intro b15 w16 hb17 hx18 H19
    refine O_v rfl (C_append H19 1 rfl (bytes := 1) (l := acc) (ys := ([(UInt8.ofNat (u % 128 + 128))] : List UInt8)) Tryz.underlying22 rfl rfl rfl rfl rfl (by decide) rfl rfl (OwnS.sl (H19.getOwn 0 rfl) (fun _ => rfl)) (fun _ => rfl) (fun _ => rfl) (by have := numGo_len1 u; simp only [List.length_append, List.length_cons, List.length_nil]; omega) (by decide) ?_)
    intro h20 w21 hg22 H23
    refine O_v rfl (R_assign (v := (slV h20 (acc ++ ([(UInt8.ofNat (u % 128 + 128))] : List UInt8)))) rfl ?_)
    refine O_nil (Then_n (W_reg ?_))
    refine O_v rfl (R_move (v := (.int .i64 ((u : Nat) : Int))) rfl ?_)
    refine O_v rfl (R_quo (a := ((u : Nat) : Int)) (b := 128) (r := ((((u : Nat) : Int) : Int).tdiv 128)) rfl rfl (by decide) (w64 _ (by have h1 : ((u : Nat) : Int).tdiv 128 = ((u / 128 : Nat) : Int) := rfl; omega)) ?_)
    refine O_v rfl (R_assign (v := (.int .i64 ((((u : Nat) : Int) : Int).tdiv 128))) rfl ?_)
    refine O_nil (Blk_n (Then_n ?_))
    have H24 := H23.sub (B' := [rowR 5 1 encB h20 (acc ++ ([(UInt8.ofNat (u % 128 + 128))] : List UInt8))]) (I' := []) (List.Sublist.cons _ (List.Sublist.cons_cons _ List.Sublist.slnil)) (fun _ h => (nomatch h))
    refine ⟨_, ?_, (u / 128), (acc ++ ([(UInt8.ofNat (u % 128 + 128))] : List UInt8)), h20, rfl, (rnum_step hac (by omega)), (by omega), (rnum_room hal (by omega)), _, envL_self ⟨rfl, rfl, rfl, trivial⟩, H24⟩
    omega
   ·have hc14 : ¬ (128 ≤ ((u : Nat) : Int)) := (of_decide_eq_false hc14)
    refine W_exit (Then_x (Then_x (Blk_x (Then_n (W_seq (W_reg ?_))))))
    refine O_v rfl (R_move (v := (slV h8 acc)) rfl ?_)
    refine O_v rfl (R_move (v := (.int .i64 ((u : Nat) : Int))) rfl ?_)
    refine O_v rfl (R_conv_int (a := ((u : Nat) : Int)) (r := ((UInt8.ofNat u).toNat : Int)) Tryz.underlying2 Tryz.underlying5 rfl (conv_u8 _) ?_)
    refine O_v rfl (C_buildSliceL H13 (enc := encB) (val := byteV) ([(UInt8.ofNat u)] : List UInt8) Tryz.underlying22 Tryz.sizeOf5 Tryz.zeroValue5 rfl (by decide) (fun _ => rfl) (fun _ => rfl) rfl rfl (by decide) ?_)
    intro b25 w26 hb27 hx28 H29
    refine O_v rfl (C_append H29 1 rfl (bytes := 1) (l := acc) (ys := ([(UInt8.ofNat u)] : List UInt8)) Tryz.underlying22 rfl rfl rfl rfl rfl (by decide) rfl rfl (OwnS.sl (H29.getOwn 0 rfl) (fun _ => rfl)) (fun _ => rfl) (fun _ => rfl) (by have := numGo_len1 u; simp only [List.length_append, List.length_cons, List.length_nil]; omega) (by decide) ?_)
    intro h30 w31 hg32 H33
    refine O_v rfl (R_assign (v := (slV h30 (acc ++ ([(UInt8.ofNat u)] : List UInt8)))) rfl ?_)
    refine O_nil (Then_n (W_ret ?_))
    refine ret_1 (v := (slV h30 (acc ++ ([(UInt8.ofNat u)] : List UInt8)))) Tryz.results90 rfl ?_
    have hE : acc ++ ([(UInt8.ofNat u)] : List UInt8) = numB n := (num_end hac (by omega))
    refine ⟨h30, ?_, H33.gr, ?_⟩
    · exact congrArg (fun l => slV h30 l) hE
    · have hO := H33.retRow 1 rfl
      exact hE ▸ hO
  ·have hc2 : ¬ ((4611686018427387904 : Int) < 0) := (of_decide_eq_false hc2)
   refine W_skip (Then_n (W_seq (W_reg ?_)))
   refine O_v rfl (C_buildSliceL H0 (enc := encB) (val := byteV) ([] : List UInt8) Tryz.underlying22 Tryz.sizeOf5 Tryz.zeroValue5 rfl (by decide) (fun _ => rfl) (fun _ => rfl) rfl rfl (by decide) ?_)
   intro b34 w35 hb36 hx37 H38
   refine O_v rfl (R_assign (v := (slV ⟨some ⟨b34, 0, none⟩, b34, 0, 0⟩ ([] : List UInt8))) rfl ?_)
   refine O_nil (Then_n (W_seq (W_block ?_)))
   refine W_loop (fun m40 e41 w42 => ∃ (u : Nat), ∃ (acc : List UInt8), ∃ (h39 : SlH), m40 = u + 1 ∧ (acc ++ numGo u = ([] : List UInt8) ++ numB n) ∧ (u ≤ 4611686018427387904) ∧ (acc.length + (numGo u).length ≤ 9) ∧ ∃ eb43, e41 = envL [(0, (.int .i64 ((u : Nat) : Int))), (2, (.slice none 0 0)), (3, (slV h39 acc))] eb43 ∧ Ctx w nob w42 [rowR 5 1 encB h39 acc] []) _ ⟨0, [], ⟨some ⟨b34, 0, none⟩, b34, 0, 0⟩, rfl, (rnum_start (by unfold numClamp; omega)), (by omega), (rnum_len (by omega)), _, envL_self ⟨(congrArg (Value.int .i64) (by omega)), rfl, rfl, trivial⟩, H38⟩ ?_
   rintro m40 _ w42 ⟨u, acc, h39, rfl, hac, hu, hal, eb43, rfl, H44⟩
   refine W_seq (W_seq (W_reg ?_))
   refine O_v rfl (R_move (v := (.int .i64 ((u : Nat) : Int))) rfl ?_)
   refine O_v rfl (R_cmp (a := ((u : Nat) : Int)) (b := 128) (r := (decide (128 ≤ ((u : Nat) : Int)))) rfl rfl rfl ?_)
   refine O_nil (Then_n ?_)
   refine W_cond (t := (decide (128 ≤ ((u : Nat) : Int)))) rfl (fun hc45 => ?_) (fun hc45 => ?_)
   ·have hc45 : (128 ≤ ((u : Nat) : Int)) := (of_decide_eq_true hc45)
    refine W_skip (Then_n (W_block (W_seq (W_reg ?_))))
    refine O_v rfl (R_move (v := (slV h39 acc)) rfl ?_)
    refine O_v rfl (R_move (v := (.int .i64 ((u : Nat) : Int))) rfl ?_)
    refine O_v rfl (R_rem (a := ((u : Nat) : Int)) (b := ((128 : Nat) : Int)) (r := (((u % 128) : Nat) : Int)) rfl rfl (by decide) (tmod_nat _ _) ?_)
    refine O_v rfl (R_arith (a := (((u % 128) : Nat) : Int)) (b := 128) (r0 := (((u % 128) : Nat) : Int) + 128) (r := (((u % 128 + 128) : Nat) : Int)) rfl rfl rfl (by rw [w64 _ (by omega)]; omega) ?_)
    refine O_v rfl (R_conv_int (a := (((u % 128 + 128) : Nat) : Int)) (r := ((UInt8.ofNat (u % 128 + 128)).toNat : Int)) Tryz.underlying2 Tryz.underlying5 rfl (conv_u8 _) ?_)
    refine O_v rfl (C_buildSliceL H44 (enc := encB) (val := byteV) ([(UInt8.ofNat (u % 128 + 128))] : List UInt8) Tryz.underlying22 Tryz.sizeOf5 Tryz.zeroValue5 rfl (by decide) (fun _ => rfl) (fun _ => rfl) rfl rfl (by decide) ?_)
    intro b46 w47 hb48 hx49 H50
    refine O_v rfl (C_append H50 1 rfl (bytes := 1) (l := acc) (ys := ([(UInt8.ofNat (u % 128 + 128))] : List UInt8)) Tryz.underlying22 rfl rfl rfl rfl rfl (by decide) rfl rfl (OwnS.sl (H50.getOwn 0 rfl) (fun _ => rfl)) (fun _ => rfl) (fun _ => rfl) (by have := numGo_len1 u; simp only [List.length_append, List.length_cons, List.length_nil]; omega) (by decide) ?_)
    intro h51 w52 hg53 H54
    refine O_v rfl (R_assign (v := (slV h51 (acc ++ ([(UInt8.ofNat (u % 128 + 128))] : List UInt8)))) rfl ?_)
    refine O_nil (Then_n (W_reg ?_))
    refine O_v rfl (R_move (v := (.int .i64 ((u : Nat) : Int))) rfl ?_)
    refine O_v rfl (R_quo (a := ((u : Nat) : Int)) (b := 128) (r := ((((u : Nat) : Int) : Int).tdiv 128)) rfl rfl (by decide) (w64 _ (by have h1 : ((u : Nat) : Int).tdiv 128 = ((u / 128 : Nat) : Int) := rfl; omega)) ?_)
    refine O_v rfl (R_assign (v := (.int .i64 ((((u : Nat) : Int) : Int).tdiv 128))) rfl ?_)
    refine O_nil (Blk_n (Then_n ?_))
    have H55 := H54.sub (B' := [rowR 5 1 encB h51 (acc ++ ([(UInt8.ofNat (u % 128 + 128))] : List UInt8))]) (I' := []) (List.Sublist.cons _ (List.Sublist.cons_cons _ List.Sublist.slnil)) (fun _ h => (nomatch h))
    refine ⟨_, ?_, (u / 128), (acc ++ ([(UInt8.ofNat (u % 128 + 128))] : List UInt8)), h51, rfl, (rnum_step hac (by omega)), (by omega), (rnum_room hal (by omega)), _, envL_self ⟨rfl, rfl, rfl, trivial⟩, H55⟩
    omega
   ·have hc45 : ¬ (128 ≤ ((u : Nat) : Int)) := (of_decide_eq_false hc45)
    refine W_exit (Then_x (Then_x (Blk_x (Then_n (W_seq (W_reg ?_))))))
    refine O_v rfl (R_move (v := (slV h39 acc)) rfl ?_)
    refine O_v rfl (R_move (v := (.int .i64 ((u : Nat) : Int))) rfl ?_)
    refine O_v rfl (R_conv_int (a := ((u : Nat) : Int)) (r := ((UInt8.ofNat u).toNat : Int)) Tryz.underlying2 Tryz.underlying5 rfl (conv_u8 _) ?_)
    refine O_v rfl (C_buildSliceL H44 (enc := encB) (val := byteV) ([(UInt8.ofNat u)] : List UInt8) Tryz.underlying22 Tryz.sizeOf5 Tryz.zeroValue5 rfl (by decide) (fun _ => rfl) (fun _ => rfl) rfl rfl (by decide) ?_)
    intro b56 w57 hb58 hx59 H60
    refine O_v rfl (C_append H60 1 rfl (bytes := 1) (l := acc) (ys := ([(UInt8.ofNat u)] : List UInt8)) Tryz.underlying22 rfl rfl rfl rfl rfl (by decide) rfl rfl (OwnS.sl (H60.getOwn 0 rfl) (fun _ => rfl)) (fun _ => rfl) (fun _ => rfl) (by have := numGo_len1 u; simp only [List.length_append, List.length_cons, List.length_nil]; omega) (by decide) ?_)
    intro h61 w62 hg63 H64
    refine O_v rfl (R_assign (v := (slV h61 (acc ++ ([(UInt8.ofNat u)] : List UInt8)))) rfl ?_)
    refine O_nil (Then_n (W_ret ?_))
    refine ret_1 (v := (slV h61 (acc ++ ([(UInt8.ofNat u)] : List UInt8)))) Tryz.results90 rfl ?_
    have hE : acc ++ ([(UInt8.ofNat u)] : List UInt8) = numB n := (num_end hac (by omega))
    refine ⟨h61, ?_, H64.gr, ?_⟩
    · exact congrArg (fun l => slV h61 l) hE
    · have hO := H64.retRow 1 rfl
      exact hE ▸ hO
 ·have hc1 : ¬ (n < 0) := (of_decide_eq_false hc1)
  refine W_skip (Then_n (W_seq (W_seq (W_reg ?_))))
  refine O_v rfl (R_move (v := (.int .i64 n)) rfl ?_)
  refine O_v rfl (R_cmp (a := n) (b := 4611686018427387904) (r := (decide (4611686018427387904 < n))) rfl rfl rfl ?_)
  refine O_nil (Then_n ?_)
  refine W_cond (t := (decide (4611686018427387904 < n))) rfl (fun hc65 => ?_) (fun hc65 => ?_)
  ·have hc65 : (4611686018427387904 < n) := (of_decide_eq_true hc65)
   refine W_reg ?_
   refine O_v rfl (R_assign (v := (.int .i64 4611686018427387904)) rfl ?_)
   refine O_nil (Then_n (W_seq (W_reg ?_)))
   refine O_v rfl (C_buildSliceL H0 (enc := encB) (val := byteV) ([] : List UInt8) Tryz.underlying22 Tryz.sizeOf5 Tryz.zeroValue5 rfl (by decide) (fun _ => rfl) (fun _ => rfl) rfl rfl (by decide) ?_)
   intro b66 w67 hb68 hx69 H70
   refine O_v rfl (R_assign (v := (slV ⟨some ⟨b66, 0, none⟩, b66, 0, 0⟩ ([] : List UInt8))) rfl ?_)
   refine O_nil (Then_n (W_seq (W_block ?_)))
   refine W_loop (fun m72 e73 w74 => ∃ (u : Nat), ∃ (acc : List UInt8), ∃ (h71 : SlH), m72 = u + 1 ∧ (acc ++ numGo u = ([] : List UInt8) ++ numB n) ∧ (u ≤ 4611686018427387904) ∧ (acc.length + (numGo u).length ≤ 9) ∧ ∃ eb75, e73 = envL [(0, (.int .i64 ((u : Nat) : Int))), (2, (.slice none 0 0)), (3, (slV h71 acc))] eb75 ∧ Ctx w nob w74 [rowR 5 1 encB h71 acc] []) _ ⟨4611686018427387904, [], ⟨some ⟨b66, 0, none⟩, b66, 0, 0⟩, rfl, (rnum_start (by unfold numClamp; omega)), (by omega), (rnum_len (by omega)), _, envL_self ⟨(congrArg (Value.int .i64) (by omega)), rfl, rfl, trivial⟩, H70⟩ ?_
   rintro m72 _ w74 ⟨u, acc, h71, rfl, hac, hu, hal, eb75, rfl, H76⟩
   refine W_seq (W_seq (W_reg ?_))
   refine O_v rfl (R_move (v := (.int .i64 ((u : Nat) : Int))) rfl ?_)
   refine O_v rfl (R_cmp (a := ((u : Nat) : Int)) (b := 128) (r := (decide (128 ≤ ((u : Nat) : Int)))) rfl rfl rfl ?_)
   refine O_nil (Then_n ?_)
   refine W_cond (t := (decide (128 ≤ ((u : Nat) : Int)))) rfl (fun hc77 => ?_) (fun hc77 => ?_)
   ·have hc77 : (128 ≤ ((u : Nat) : Int)) := (of_decide_eq_true hc77)
    refine W_skip (Then_n (W_block (W_seq (W_reg ?_))))
    refine O_v rfl (R_move (v := (slV h71 acc)) rfl ?_)
    refine O_v rfl (R_move (v := (.int .i64 ((u : Nat) : Int))) rfl ?_)
    refine O_v rfl (R_rem (a := ((u : Nat) : Int)) (b := ((128 : Nat) : Int)) (r := (((u % 128) : Nat) : Int)) rfl rfl (by decide) (tmod_nat _ _) ?_)
    refine O_v rfl (R_arith (a := (((u % 128) : Nat) : Int)) (b := 128) (r0 := (((u % 128) : Nat) : Int) + 128) (r := (((u % 128 + 128) : Nat) : Int)) rfl rfl rfl (by rw [w64 _ (by omega)]; omega) ?_)
    refine O_v rfl (R_conv_int (a := (((u % 128 + 128) : Nat) : Int)) (r := ((UInt8.ofNat (u % 128 + 128)).toNat : Int)) Tryz.underlying2 Tryz.underlying5 rfl (conv_u8 _) ?_)
    refine O_v rfl (C_buildSliceL H76 (enc := encB) (val := byteV) ([(UInt8.ofNat (u % 128 + 128))] : List UInt8) Tryz.underlying22 Tryz.sizeOf5 Tryz.zeroValue5 rfl (by decide) (fun _ => rfl) (fun _ => rfl) rfl rfl (by decide) ?_)
    intro b78 w79 hb80 hx81 H82
    refine O_v rfl (C_append H82 1 rfl (bytes := 1) (l := acc) (ys := ([(UInt8.ofNat (u % 128 + 128))] : List UInt8)) Tryz.underlying22 rfl rfl rfl rfl rfl (by decide) rfl rfl (OwnS.sl (H82.getOwn 0 rfl) (fun _ => rfl)) (fun _ => rfl) (fun _ => rfl) (by have := numGo_len1 u; simp only [List.length_append, List.length_cons, List.length_nil]; omega) (by decide) ?_)
    intro h83 w84 hg85 H86
    refine O_v rfl (R_assign (v := (slV h83 (acc ++ ([(UInt8.ofNat (u % 128 + 128))] : List UInt8)))) rfl ?_)
    refine O_nil (Then_n (W_reg ?_))
    refine O_v rfl (R_move (v := (.int .i64 ((u : Nat) : Int))) rfl ?_)
    refine O_v rfl (R_quo (a := ((u : Nat) : Int)) (b := 128) (r := ((((u : Nat) : Int) : Int).tdiv 128)) rfl rfl (by decide) (w64 _ (by have h1 : ((u : Nat) : Int).tdiv 128 = ((u / 128 : Nat) : Int) := rfl; omega)) ?_)
    refine O_v rfl (R_assign (v := (.int .i64 ((((u : Nat) : Int) : Int).tdiv 128))) rfl ?_)
    refine O_nil (Blk_n (Then_n ?_))
    have H87 := H86.sub (B' := [rowR 5 1 encB h83 (acc ++ ([(UInt8.ofNat (u % 128 + 128))] : List UInt8))]) (I' := []) (List.Sublist.cons _ (List.Sublist.cons_cons _ List.Sublist.slnil)) (fun _ h => (nomatch h))
    refine ⟨_, ?_, (u / 128), (acc ++ ([(UInt8.ofNat (u % 128 + 128))] : List UInt8)), h83, rfl, (rnum_step hac (by omega)), (by omega), (rnum_room hal (by omega)), _, envL_self ⟨rfl, rfl, rfl, trivial⟩, H87⟩
    omega
   ·have hc77 : ¬ (128 ≤ ((u : Nat) : Int)) := (of_decide_eq_false hc77)
    refine W_exit (Then_x (Then_x (Blk_x (Then_n (W_seq (W_reg ?_))))))
    refine O_v rfl (R_move (v := (slV h71 acc)) rfl ?_)
    refine O_v rfl (R_move (v := (.int .i64 ((u : Nat) : Int))) rfl ?_)
    refine O_v rfl (R_conv_int (a := ((u : Nat) : Int)) (r := ((UInt8.ofNat u).toNat : Int)) Tryz.underlying2 Tryz.underlying5 rfl (conv_u8 _) ?_)
    refine O_v rfl (C_buildSliceL H76 (enc := encB) (val := byteV) ([(UInt8.ofNat u)] : List UInt8) Tryz.underlying22 Tryz.sizeOf5 Tryz.zeroValue5 rfl (by decide) (fun _ => rfl) (fun _ => rfl) rfl rfl (by decide) ?_)
    intro b88 w89 hb90 hx91 H92
    refine O_v rfl (C_append H92 1 rfl (bytes := 1) (l := acc) (ys := ([(UInt8.ofNat u)] : List UInt8)) Tryz.underlying22 rfl rfl rfl rfl rfl (by decide) rfl rfl (OwnS.sl (H92.getOwn 0 rfl) (fun _ => rfl)) (fun _ => rfl) (fun _ => rfl) (by have := numGo_len1 u; simp only [List.length_append, List.length_cons, List.length_nil]; omega) (by decide) ?_)
    intro h93 w94 hg95 H96
    refine O_v rfl (R_assign (v := (slV h93 (acc ++ ([(UInt8.ofNat u)] : List UInt8)))) rfl ?_)
    refine O_nil (Then_n (W_ret ?_))
    refine ret_1 (v := (slV h93 (acc ++ ([(UInt8.ofNat u)] : List UInt8)))) Tryz.results90 rfl ?_
    have hE : acc ++ ([(UInt8.ofNat u)] : List UInt8) = numB n := (num_end hac (by omega))
    refine ⟨h93, ?_, H96.gr, ?_⟩
    · exact congrArg (fun l => slV h93 l) hE
    · have hO := H96.retRow 1 rfl
      exact hE ▸ hO
  ·have hc65 : ¬ (4611686018427387904 < n) := (of_decide_eq_false hc65)
   refine W_skip (Then_n (W_seq (W_reg ?_)))
   refine O_v rfl (C_buildSliceL H0 (enc := encB) (val := byteV) ([] : List UInt8) Tryz.underlying22 Tryz.sizeOf5 Tryz.zeroValue5 rfl (by decide) (fun _ => rfl) (fun _ => rfl) rfl rfl (by decide) ?_)
   intro b97 w98 hb99 hx100 H101
   refine O_v rfl (R_assign (v := (slV ⟨some ⟨b97, 0, none⟩, b97, 0, 0⟩ ([] : List UInt8))) rfl ?_)
   refine O_nil (Then_n (W_seq (W_block ?_)))
   refine W_loop (fun m103 e104 w105 => ∃ (u : Nat), ∃ (acc : List UInt8), ∃ (h102 : SlH), m103 = u + 1 ∧ (acc ++ numGo u = ([] : List UInt8) ++ numB n) ∧ (u ≤ 4611686018427387904) ∧ (acc.length + (numGo u).length ≤ 9) ∧ ∃ eb106, e104 = envL [(0, (.int .i64 ((u : Nat) : Int))), (2, (.slice none 0 0)), (3, (slV h102 acc))] eb106 ∧ Ctx w nob w105 [rowR 5 1 encB h102 acc] []) _ ⟨n.toNat, [], ⟨some ⟨b97, 0, none⟩, b97, 0, 0⟩, rfl, (rnum_start (by unfold numClamp; omega)), (by omega), (rnum_len (by omega)), _, envL_self ⟨(congrArg (Value.int .i64) (by omega)), rfl, rfl, trivial⟩, H101⟩ ?_
   rintro m103 _ w105 ⟨u, acc, h102, rfl, hac, hu, hal, eb106, rfl, H107⟩
   refine W_seq (W_seq (W_reg ?_))
   refine O_v rfl (R_move (v := (.int .i64 ((u : Nat) : Int))) rfl ?_)
   refine O_v rfl (R_cmp (a := ((u : Nat) : Int)) (b := 128) (r := (decide (128 ≤ ((u : Nat) : Int)))) rfl rfl rfl ?_)
   refine O_nil (Then_n ?_)
   refine W_cond (t := (decide (128 ≤ ((u : Nat) : Int)))) rfl (fun hc108 => ?_) (fun hc108 => ?_)
   ·have hc108 : (128 ≤ ((u : Nat) : Int)) := (of_decide_eq_true hc108)
    refine W_skip (Then_n (W_block (W_seq (W_reg ?_))))
    refine O_v rfl (R_move (v := (slV h102 acc)) rfl ?_)
    refine O_v rfl (R_move (v := (.int .i64 ((u : Nat) : Int))) rfl ?_)
    refine O_v rfl (R_rem (a := ((u : Nat) : Int)) (b := ((128 : Nat) : Int)) (r := (((u % 128) : Nat) : Int)) rfl rfl (by decide) (tmod_nat _ _) ?_)
    refine O_v rfl (R_arith (a := (((u % 128) : Nat) : Int)) (b := 128) (r0 := (((u % 128) : Nat) : Int) + 128) (r := (((u % 128 + 128) : Nat) : Int)) rfl rfl rfl (by rw [w64 _ (by omega)]; omega) ?_)
    refine O_v rfl (R_conv_int (a := (((u % 128 + 128) : Nat) : Int)) (r := ((UInt8.ofNat (u % 128 + 128)).toNat : Int)) Tryz.underlying2 Tryz.underlying5 rfl (conv_u8 _) ?_)
    refine O_v rfl (C_buildSliceL H107 (enc := encB) (val := byteV) ([(UInt8.ofNat (u % 128 + 128))] : List UInt8) Tryz.underlying22 Tryz.sizeOf5 Tryz.zeroValue5 rfl (by decide) (fun _ => rfl) (fun _ => rfl) rfl rfl (by decide) ?_)
    intro b109 w110 hb111 hx112 H113
    refine O_v rfl (C_append H113 1 rfl (bytes := 1) (l := acc) (ys := ([(UInt8.ofNat (u % 128 + 128))] : List UInt8)) Tryz.underlying22 rfl rfl rfl rfl rfl (by decide) rfl rfl (OwnS.sl (H113.getOwn 0 rfl) (fun _ => rfl)) (fun _ => rfl) (fun _ => rfl) (by have := numGo_len1 u; simp only [List.length_append, List.length_cons, List.length_nil]; omega) (by decide) ?_)
    intro h114 w115 hg116 H117
    refine O_v rfl (R_assign (v := (slV h114 (acc ++ ([(UInt8.ofNat (u % 128 + 128))] : List UInt8)))) rfl ?_)
    refine O_nil (Then_n (W_reg ?_))
    refine O_v rfl (R_move (v := (.int .i64 ((u : Nat) : Int))) rfl ?_)
    refine O_v rfl (R_quo (a := ((u : Nat) : Int)) (b := 128) (r := ((((u : Nat) : Int) : Int).tdiv 128)) rfl rfl (by decide) (w64 _ (by have h1 : ((u : Nat) : Int).tdiv 128 = ((u / 128 : Nat) : Int) := rfl; omega)) ?_)
    refine O_v rfl (R_assign (v := (.int .i64 ((((u : Nat) : Int) : Int).tdiv 128))) rfl ?_)
    refine O_nil (Blk_n (Then_n ?_))
    have H118 := H117.sub (B' := [rowR 5 1 encB h114 (acc ++ ([(UInt8.ofNat (u % 128 + 128))] : List UInt8))]) (I' := []) (List.Sublist.cons _ (List.Sublist.cons_cons _ List.Sublist.slnil)) (fun _ h => (nomatch h))
    refine ⟨_, ?_, (u / 128), (acc ++ ([(UInt8.ofNat (u % 128 + 128))] : List UInt8)), h114, rfl, (rnum_step hac (by omega)), (by omega), (rnum_room hal (by omega)), _, envL_self ⟨rfl, rfl, rfl, trivial⟩, H118⟩
    omega
   ·have hc108 : ¬ (128 ≤ ((u : Nat) : Int)) := (of_decide_eq_false hc108)
    refine W_exit (Then_x (Then_x (Blk_x (Then_n (W_seq (W_reg ?_))))))
    refine O_v rfl (R_move (v := (slV h102 acc)) rfl ?_)
    refine O_v rfl (R_move (v := (.int .i64 ((u : Nat) : Int))) rfl ?_)
    refine O_v rfl (R_conv_int (a := ((u : Nat) : Int)) (r := ((UInt8.ofNat u).toNat : Int)) Tryz.underlying2 Tryz.underlying5 rfl (conv_u8 _) ?_)
    refine O_v rfl (C_buildSliceL H107 (enc := encB) (val := byteV) ([(UInt8.ofNat u)] : List UInt8) Tryz.underlying22 Tryz.sizeOf5 Tryz.zeroValue5 rfl (by decide) (fun _ => rfl) (fun _ => rfl) rfl rfl (by decide) ?_)
    intro b119 w120 hb121 hx122 H123
    refine O_v rfl (C_append H123 1 rfl (bytes := 1) (l := acc) (ys := ([(UInt8.ofNat u)] : List UInt8)) Tryz.underlying22 rfl rfl rfl rfl rfl (by decide) rfl rfl (OwnS.sl (H123.getOwn 0 rfl) (fun _ => rfl)) (fun _ => rfl) (fun _ => rfl) (by have := numGo_len1 u; simp only [List.length_append, List.length_cons, List.length_nil]; omega) (by decide) ?_)
    intro h124 w125 hg126 H127
    refine O_v rfl (R_assign (v := (slV h124 (acc ++ ([(UInt8.ofNat u)] : List UInt8)))) rfl ?_)
    refine O_nil (Then_n (W_ret ?_))
    refine ret_1 (v := (slV h124 (acc ++ ([(UInt8.ofNat u)] : List UInt8)))) Tryz.results90 rfl ?_
    have hE : acc ++ ([(UInt8.ofNat u)] : List UInt8) = numB n := (num_end hac (by omega))
    refine ⟨h124, ?_, H127.gr, ?_⟩
    · exact congrArg (fun l => slV h124 l) hE
    · have hO := H127.retRow 1 rfl
      exact hE ▸ hO

end Go.Proofs.YthjdhfoeckfmbaaGreat
namespace Go.Proofs.YthjdhfoeckfmbaaGreat
open Go
set_option maxRecDepth 100000
set_option linter.unusedVariables false
set_option linter.unusedSimpArgs false
set_option linter.unusedSectionVars false
variable [DD]
theorem ref02_Text_c13 : callable Tryz.prog 13 = true := by kernel_rfl
theorem ref02_Text_c90 : callable Tryz.prog 90 = true := by kernel_rfl
set_option maxHeartbeats 1000000 in
theorem ref02_Text (s : ByteArray) (w : World) (hl : s.size ≤ 1000000) :
    Calls Tryz.prog 68 #[(.string s)] w (Ret fun v w' => ∃ h, v = slV h (textB s) ∧ Ext w w' ∧ OwnS w.heap.size 5 1 encB h (textB s) w') := by
 refine calls_W Tryz.func68 rfl Tryz.ntmps68 rfl ?_
 have H0 := Ctx.start w nob
 refine W_seq (W_reg ?_)
 refine O_v rfl (R_assign (v := (.slice none 0 0)) rfl ?_)
 refine O_nil (Then_n (W_seq (W_reg ?_)))
 refine O_v rfl (R_move (v := (.string s)) rfl ?_)
 refine O_v rfl (R_len_string Tryz.underlying9 rfl ?_)
 refine O_v rfl (R_callL (vs := [(.int .i64 ((s.size : Nat) : Int))]) ref02_Text_c90 rfl rfl ((ref02_Num ((s.size : Nat) : Int) w ).ret ?_))
 rintro _ w2 ⟨h1, rfl, hx3, ho4⟩
 have H5 := H0.addRow hx3 ho4
 refine O_v rfl (R_move (v := (.string s)) rfl ?_)
 refine O_v rfl (C_convSB H5 (str := s) Tryz.underlying9 Tryz.underlying22 Tryz.underlying5 rfl (by first | decide | omega) ?_)
 intro h6 w7 hx8 H9
 refine O_v rfl (R_callL (vs := [(slV h1 (numB ((s.size : Nat) : Int))), (slV h6 s.data.toList)]) ref02_Text_c13 rfl rfl ((ref01_Join h1 (numB ((s.size : Nat) : Int)) h6 s.data.toList w7 (H9.rowSl 0 rfl (fun _ => rfl)) (H9.slOld 0 rfl) (by have := numB_len ((s.size : Nat) : Int); have := size_data' s; omega)).ret ?_))
 rintro _ w11 ⟨h10, rfl, hx12, ho13⟩
 have H14 := H9.addRow hx12 ho13
 refine O_v rfl (R_assign (v := (slV h10 ((numB ((s.size : Nat) : Int)) ++ s.data.toList))) rfl ?_)
 refine O_nil (Then_n (W_ret ?_))
 refine ret_1 (v := (slV h10 ((numB ((s.size : Nat) : Int)) ++ s.data.toList))) Tryz.results68 rfl ?_
 exact ⟨h10, rfl, H14.gr, H14.retRow 0 rfl⟩

end Go.Proofs.YthjdhfoeckfmbaaGreat
namespace Go.Proofs.YthjdhfoeckfmbaaGreat
open Go
set_option maxRecDepth 100000
set_option linter.unusedVariables false
set_option linter.unusedSimpArgs false
set_option linter.unusedSectionVars false
variable [DD]
theorem ref04_PutLabel_c13 : callable Tryz.prog 13 = true := by kernel_rfl
theorem ref04_PutLabel_c66 : callable Tryz.prog 66 = true := by kernel_rfl
theorem ref04_PutLabel_c68 : callable Tryz.prog 68 = true := by kernel_rfl
set_option maxHeartbeats 1000000 in
theorem ref04_PutLabel (l : Label) (w : World) (hL : labelOk l = true) :
    Calls Tryz.prog 31 #[(aggOf (labelCh l))] w (Ret fun v w' => ∃ h, v = slV h (labelB l) ∧ Ext w w' ∧ OwnS w.heap.size 5 1 encB h (labelB l) w') := by
 refine calls_W Tryz.func31 rfl Tryz.ntmps31 rfl ?_
 have H0 := Ctx.start w nob
 refine W_seq (W_reg ?_)
 refine O_v rfl (C_box H0 [(idCells l.target), [(.string l.name)], [(.string l.msg)]] rfl ?_)
 intro b1 w2 hb3 hx4 H5
 refine O_v rfl (R_assign (v := (.slice none 0 0)) rfl ?_)
 refine O_nil (Then_n (W_seq (W_reg ?_)))
 refine O_v rfl (C_buildSliceL H5 (enc := encB) (val := byteV) ([4] : List UInt8) Tryz.underlying22 Tryz.sizeOf5 Tryz.zeroValue5 rfl (by decide) (fun _ => rfl) (fun _ => rfl) rfl rfl (by decide) ?_)
 intro b6 w7 hb8 hx9 H10
 refine O_v rfl (R_fieldAddr (off := 0) (oo := 0) Tryz.underlying55 rfl rfl Tryz.sizeOf45 rfl rfl ?_)
 refine O_v rfl (R_loadA (cs := [(idCells l.target)]) Tryz.isAgg45 Tryz.sizeOf45 rfl rfl ((boxR_at (H10.getOwn 1 rfl)).chunks 0 1 0 0 _ rfl rfl rfl) ?_)
 refine O_v rfl (R_callL (vs := [(aggOf (idCh l.target))]) ref04_PutLabel_c66 rfl rfl ((ref02_Id l.target w7 ).ret ?_))
 rintro _ w12 ⟨h11, rfl, hx13, ho14⟩
 have H15 := H10.addRow hx13 ho14
 refine O_v rfl (R_callL (vs := [(slV ⟨some ⟨b6, 0, none⟩, b6, 0, 1⟩ ([4] : List UInt8)), (slV h11 (idList l.target))]) ref04_PutLabel_c13 rfl rfl ((ref01_Join ⟨some ⟨b6, 0, none⟩, b6, 0, 1⟩ ([4] : List UInt8) h11 (idList l.target) w12 (H15.rowSl 1 rfl (fun _ => rfl)) (H15.rowSl 0 rfl (fun _ => rfl)) (by have h1 := label_size hL; have h2 := textB_len l.name; have h3 := textB_len l.msg; (try simp only [List.length_append, List.length_cons, List.length_nil, idList_len]); omega)).ret ?_))
 rintro _ w17 ⟨h16, rfl, hx18, ho19⟩
 have H20 := H15.addRow hx18 ho19
 refine O_v rfl (R_assign (v := (slV h16 (([4] : List UInt8) ++ (idList l.target)))) rfl ?_)
 refine O_nil (Then_n (W_seq ?_))
 refine W_rgd TryzMixed [(0, .q 0), (1, .q 0), (2, .q 0), (4, .q 0), (5, .q 0), (3, .c 0), (6, .c 0), (7, .c 0), (8, .c 0), (9, .q 0)] (by kernel_rfl) ?_
 refine Lx_q (i := 0) rfl rfl _ (fun v21 hv22 => R_move (v := (slV h16 (([4] : List UInt8) ++ (idList l.target)))) rfl ⟨rfl, Gr.refl _ _⟩) ?_
 refine Lx_q (i := 1) rfl rfl _ (fun v23 hv24 => R_fieldAddr (off := 32) (oo := 32) Tryz.underlying55 rfl rfl Tryz.sizeOf9 rfl rfl ⟨rfl, Gr.refl _ _⟩) ?_
 refine Lx_q (i := 2) rfl rfl _ (fun v25 hv26 => R_load1 (v := (.string l.name)) Tryz.isAgg9 rfl ((boxR_at ((H20.ext hv26).getOwn 3 rfl)).chunks 1 1 32 32 _ rfl rfl rfl) ⟨rfl, Gr.refl _ _⟩) ?_
 refine Lx_q (i := 4) rfl rfl _ (fun v27 hv28 => R_fieldAddr (off := 33) (oo := 33) Tryz.underlying55 rfl rfl Tryz.sizeOf9 rfl rfl ⟨rfl, Gr.refl _ _⟩) ?_
 refine Lx_q (i := 5) rfl rfl _ (fun v29 hv30 => R_load1 (v := (.string l.msg)) Tryz.isAgg9 rfl ((boxR_at ((H20.ext hv30).getOwn 3 rfl)).chunks 2 1 33 33 _ rfl rfl rfl) ⟨rfl, Gr.refl _ _⟩) ?_
 refine Lx_c (i := 3) rfl rfl (fun w31 hw32 => ?_)
 have H33 := H20.ext hw32
 refine (R_callL (vs := [(.string l.name)]) ref04_PutLabel_c68 rfl rfl ((ref02_Text l.name w31 (by have h1 := label_size hL; omega)).ret ?_))
 rintro _ w35 ⟨h34, rfl, hx36, ho37⟩
 have H38 := H33.addRow hx36 ho37
 refine ⟨GrF.ofExt hx36, ?_⟩
 refine Lx_c (i := 6) rfl rfl (fun w39 hw40 => ?_)
 have H41 := H38.ext hw40
 refine (R_callL (vs := [(.string l.msg)]) ref04_PutLabel_c68 rfl rfl ((ref02_Text l.msg w39 (by have h1 := label_size hL; omega)).ret ?_))
 rintro _ w43 ⟨h42, rfl, hx44, ho45⟩
 have H46 := H41.addRow hx44 ho45
 refine ⟨GrF.ofExt hx44, ?_⟩
 refine Lx_c (i := 7) rfl rfl (fun w47 hw48 => ?_)
 have H49 := H46.ext hw48
 refine (R_callL (vs := [(slV h34 (textB l.name)), (slV h42 (textB l.msg))]) ref04_PutLabel_c13 rfl rfl ((ref01_Join h34 (textB l.name) h42 (textB l.msg) w47 (H49.rowSl 1 rfl (fun _ => rfl)) (H49.rowSl 0 rfl (fun _ => rfl)) (by have h1 := label_size hL; have h2 := textB_len l.name; have h3 := textB_len l.msg; (try simp only [List.length_append, List.length_cons, List.length_nil, idList_len]); omega)).ret ?_))
 rintro _ w51 ⟨h50, rfl, hx52, ho53⟩
 have H54 := H49.addRow hx52 ho53
 refine ⟨GrF.ofExt hx52, ?_⟩
 refine Lx_c (i := 8) rfl rfl (fun w55 hw56 => ?_)
 have H57 := H54.ext hw56
 refine (R_callL (vs := [(slV h16 (([4] : List UInt8) ++ (idList l.target))), (slV h50 ((textB l.name) ++ (textB l.msg)))]) ref04_PutLabel_c13 rfl rfl ((ref01_Join h16 (([4] : List UInt8) ++ (idList l.target)) h50 ((textB l.name) ++ (textB l.msg)) w55 (H57.rowSl 3 rfl (fun _ => rfl)) (H57.rowSl 0 rfl (fun _ => rfl)) (by have h1 := label_size hL; have h2 := textB_len l.name; have h3 := textB_len l.msg; (try simp only [List.length_append, List.length_cons, List.length_nil, idList_len]); omega)).ret ?_))
 rintro _ w59 ⟨h58, rfl, hx60, ho61⟩
 have H62 := H57.addRow hx60 ho61
 refine ⟨GrF.ofExt hx60, ?_⟩
 refine Lx_q (i := 9) rfl rfl _ (fun v63 hv64 => R_assign (v := (slV h58 ((([4] : List UInt8) ++ (idList l.target)) ++ ((textB l.name) ++ (textB l.msg))))) rfl ⟨rfl, Gr.refl _ _⟩) ?_
 refine Lx_nil (fun w65 hw66 => ?_)
 have H67 := H62.ext hw66
 refine Then_n (W_ret ?_)
 refine ret_1 (v := (slV h58 ((([4] : List UInt8) ++ (idList l.target)) ++ ((textB l.name) ++ (textB l.msg))))) Tryz.results31 rfl ?_
 have hE : (([4] : List UInt8) ++ (idList l.target)) ++ ((textB l.name) ++ (textB l.msg)) = labelB l := (by simp only [labelB, List.append_assoc])
 refine ⟨h58, ?_, H67.gr, ?_⟩
 · exact congrArg (fun l => slV h58 l) hE
 · have hO := H67.retRow 0 rfl
   exact hE ▸ hO

end Go.Proofs.YthjdhfoeckfmbaaGreat
namespace Go.Proofs.YthjdhfoeckfmbaaGreat
open Go
set_option maxRecDepth 100000
set_option linter.unusedVariables false
set_option linter.unusedSimpArgs false
set_option linter.unusedSectionVars false
variable [DD]
set_option maxHeartbeats 1000000 in
theorem ref04_SameIDs (ha : SlH) (a : List ID) (hb : SlH) (b : List ID) (w : World) (Sa : Sl (Old w) idCh 32 ha a w) (Sb : Sl (Old w) idCh 32 hb b w) :
    Calls Tryz.prog 20 #[(slV ha a), (slV hb b)] w (Ret fun v w' => v = (.bool (decide (a = b))) ∧ Ext w w') := by
 refine calls_W Tryz.func20 rfl Tryz.ntmps20 rfl ?_
 have H0 := Ctx.start w nob
 have H1 := H0.addSl _ Sa (fun b hb => ⟨hb, fun _ ho => (nomatch ho)⟩)
 have LSa := Sa.len
 have H2 := H1.addSl _ Sb (fun b hb => ⟨hb, fun _ ho => (nomatch ho)⟩)
 have LSb := Sb.len
 refine W_seq (W_reg ?_)
 refine O_v rfl (R_assign (v := (.bool false)) rfl ?_)
 refine O_nil (Then_n (W_seq (W_seq (W_reg ?_))))
 refine O_v rfl (R_move (v := (slV ha a)) rfl ?_)
 refine O_v rfl (R_len_slice (a := ha.a) (n := a.length) (c := ha.c) Tryz.underlying39 rfl ?_)
 refine O_v rfl (R_move (v := (slV hb b)) rfl ?_)
 refine O_v rfl (R_len_slice (a := hb.a) (n := b.length) (c := hb.c) Tryz.underlying41 rfl ?_)
 refine O_v rfl (R_cmp (a := ((a.length : Nat) : Int)) (b := ((b.length : Nat) : Int)) (r := (!(decide (((a.length : Nat) : Int) = ((b.length : Nat) : Int))))) rfl rfl rfl ?_)
 refine O_nil (Then_n ?_)
 refine W_cond (t := (!(decide (((a.length : Nat) : Int) = ((b.length : Nat) : Int))))) rfl (fun hc3 => ?_) (fun hc3 => ?_)
 ·have hc3 : ¬ (((a.length : Nat) : Int) = ((b.length : Nat) : Int)) := (of_decide_eq_false (notT hc3))
  refine W_seq (W_reg ?_)
  refine O_v rfl (R_assign (v := (.bool false)) rfl ?_)
  refine O_nil (Then_n (W_ret (Then_r ?_)))
  refine ret_1 (v := (.bool false)) Tryz.results20 rfl ?_
  exact ⟨(boolF (fun h => by subst h; omega)), H2.gr⟩
 ·have hc3 : (((a.length : Nat) : Int) = ((b.length : Nat) : Int)) := (of_decide_eq_true (notF hc3))
  refine W_skip (Then_n (W_seq (W_seq (W_reg ?_))))
  refine O_v rfl (R_assign (v := (.int .i64 0)) rfl ?_)
  refine O_nil (Then_n (W_block ?_))
  refine W_loop (fun m4 e5 w6 => ∃ (k : Nat), m4 = a.length - k ∧ (k ≤ a.length) ∧ (∀ i, i < k → nth a i = nth b i) ∧ ∃ eb7, e5 = envL [(0, (slV ha a)), (1, (slV hb b)), (5, (.int .i64 ((k : Nat) : Int)))] eb7 ∧ Ctx w nob w6 [] [slI (Old w) idCh 32 hb b, slI (Old w) idCh 32 ha a]) _ ⟨0, rfl, (by omega), (all_zero _), _, envL_self ⟨rfl, rfl, rfl, trivial⟩, H2⟩ ?_
  rintro m4 _ w6 ⟨k, rfl, hk, hn, eb7, rfl, H8⟩
  refine W_seq (W_seq (W_reg ?_))
  refine O_v rfl (R_move (v := (.int .i64 ((k : Nat) : Int))) rfl ?_)
  refine O_v rfl (R_move (v := (slV ha a)) rfl ?_)
  refine O_v rfl (R_len_slice (a := ha.a) (n := a.length) (c := ha.c) Tryz.underlying39 rfl ?_)
  refine O_v rfl (R_cmp (a := ((k : Nat) : Int)) (b := ((a.length : Nat) : Int)) (r := (decide (((k : Nat) : Int) < ((a.length : Nat) : Int)))) rfl rfl rfl ?_)
  refine O_nil (Then_n ?_)
  refine W_cond (t := (decide (((k : Nat) : Int) < ((a.length : Nat) : Int)))) rfl (fun hc9 => ?_) (fun hc9 => ?_)
  ·have hc9 : (((k : Nat) : Int) < ((a.length : Nat) : Int)) := (of_decide_eq_true hc9)
   refine W_skip (Then_n (W_seq (W_block (W_seq ?_))))
   refine W_rgd TryzMixed [(0, .q 0), (1, .q 0), (2, .q 0), (3, .q 0), (4, .q 0), (5, .q 0), (6, .q 0), (7, .q 0), (8, .q 0)] (by kernel_rfl) ?_
   refine Lx_q (i := 0) rfl rfl _ (fun v10 hv11 => R_move (v := (slV ha a)) rfl ⟨rfl, Gr.refl _ _⟩) ?_
   refine Lx_q (i := 1) rfl rfl _ (fun v12 hv13 => R_move (v := (.int .i64 ((k : Nat) : Int))) rfl ⟨rfl, Gr.refl _ _⟩) ?_
   refine Lx_q (i := 2) rfl rfl _ (fun v14 hv15 => R_index_pure (H8.sl 1 rfl) (n := a.length) rfl (j := ((k : Nat) : Int)) (oo := (ha.o + k * 32)) Tryz.underlying39 Tryz.sizeOf45 rfl rfl (by omega) (by omega) rfl ⟨rfl, Gr.refl _ _⟩) ?_
   refine Lx_q (i := 3) rfl rfl _ (fun v16 hv17 => R_loadA (cs := [(idCells (nth a k))]) Tryz.isAgg45 Tryz.sizeOf45 rfl rfl ((Sl.elem ((H8.ext hv17).sl 1 rfl) (i := k) (by omega) rfl).chunks 0 1 0 (ha.o + k * 32) _ rfl rfl rfl) ⟨rfl, Gr.refl _ _⟩) ?_
   refine Lx_q (i := 4) rfl rfl _ (fun v18 hv19 => R_move (v := (slV hb b)) rfl ⟨rfl, Gr.refl _ _⟩) ?_
   refine Lx_q (i := 5) rfl rfl _ (fun v20 hv21 => R_move (v := (.int .i64 ((k : Nat) : Int))) rfl ⟨rfl, Gr.refl _ _⟩) ?_
   refine Lx_q (i := 6) rfl rfl _ (fun v22 hv23 => R_index_pure (H8.sl 0 rfl) (n := b.length) rfl (j := ((k : Nat) : Int)) (oo := (hb.o + k * 32)) Tryz.underlying41 Tryz.sizeOf44 rfl rfl (by omega) (by omega) rfl ⟨rfl, Gr.refl _ _⟩) ?_
   refine Lx_q (i := 7) rfl rfl _ (fun v24 hv25 => R_loadA (cs := [(idCells (nth b k))]) Tryz.isAgg44 Tryz.sizeOf44 rfl rfl ((Sl.elem ((H8.ext hv25).sl 0 rfl) (i := k) (by omega) rfl).chunks 0 1 0 (hb.o + k * 32) _ rfl rfl rfl) ⟨rfl, Gr.refl _ _⟩) ?_
   refine Lx_q (i := 8) rfl rfl _ (fun v26 hv27 => R_nev (a := (nth a k)) (b := (nth b k)) eqv_ID45 rfl Tryz.eqGuardType45 rfl rfl ⟨rfl, Gr.refl _ _⟩) ?_
   refine Lx_nil (fun w28 hw29 => ?_)
   have H30 := H8.ext hw29
   refine Then_n ?_
   refine W_cond (t := (!(decide ((nth a k) = (nth b k))))) rfl (fun hc31 => ?_) (fun hc31 => ?_)
   ·have hc31 : ¬ ((nth a k) = (nth b k)) := (of_decide_eq_false (notT hc31))
    refine W_seq (W_reg ?_)
    refine O_v rfl (R_assign (v := (.bool false)) rfl ?_)
    refine O_nil (Then_n (W_ret (Blk_r (Then_r (Then_r (Blk_r (Then_r ?_)))))))
    refine ret_1 (v := (.bool false)) Tryz.results20 rfl ?_
    exact ⟨(boolF (fun h => by subst h; exact absurd rfl (by assumption))), H30.gr⟩
   ·have hc31 : ((nth a k) = (nth b k)) := (of_decide_eq_true (notF hc31))
    refine W_skip (Blk_n (Then_n (W_reg ?_)))
    refine O_v rfl (R_move (v := (.int .i64 ((k : Nat) : Int))) rfl ?_)
    refine O_v rfl (R_arith (a := ((k : Nat) : Int)) (b := 1) (r0 := ((k : Nat) : Int) + 1) (r := ((k + 1 : Nat) : Int)) rfl rfl rfl (wrapN _ (by omega)) ?_)
    refine O_v rfl (R_assign (v := (.int .i64 ((k + 1 : Nat) : Int))) rfl ?_)
    refine O_nil (Then_n ?_)
    refine ⟨_, ?_, (k + 1), rfl, (by omega), (all_succ hn (by assumption)), _, envL_self ⟨rfl, rfl, rfl, trivial⟩, H30⟩
    omega
  ·have hc9 : ¬ (((k : Nat) : Int) < ((a.length : Nat) : Int)) := (of_decide_eq_false hc9)
   refine W_exit (Then_x (Then_x (Blk_x (Then_n (W_seq (W_reg ?_))))))
   refine O_v rfl (R_assign (v := (.bool true)) rfl ?_)
   refine O_nil (Then_n (W_ret ?_))
   refine ret_1 (v := (.bool true)) Tryz.results20 rfl ?_
   exact ⟨(boolT (eq_of_nth (by omega) (by rwa [show a.length = k from by omega]))), H8.gr⟩

end Go.Proofs.YthjdhfoeckfmbaaGreat
namespace Go.Proofs.YthjdhfoeckfmbaaGreat
open Go
set_option maxRecDepth 100000
set_option linter.unusedVariables false
set_option linter.unusedSimpArgs false
set_option linter.unusedSectionVars false
theorem law04_ObjLabels_c9 : callable Tryz.prog 9 = true := by kernel_rfl
theorem law04_ObjLabels_c12 : callable Tryz.prog 12 = true := by kernel_rfl
theorem law04_ObjLabels_c14 : callable Tryz.prog 14 = true := by kernel_rfl
theorem law04_ObjLabels_c20 : callable Tryz.prog 20 = true := by kernel_rfl
theorem law04_ObjLabels_c21 : callable Tryz.prog 21 = true := by kernel_rfl
theorem law04_ObjLabels_c22 : callable Tryz.prog 22 = true := by kernel_rfl
theorem law04_ObjLabels_c28 : callable Tryz.prog 28 = true := by kernel_rfl
theorem law04_ObjLabels_c29 : callable Tryz.prog 29 = true := by kernel_rfl
theorem law04_ObjLabels_c30 : callable Tryz.prog 30 = true := by kernel_rfl
theorem law04_ObjLabels_c31 : callable Tryz.prog 31 = true := by kernel_rfl
set_option maxHeartbeats 4000000 in
theorem law04_ObjLabels (l : Label) (w : World) (hn : l.name.size ≤ 9223372036854775807) :
    Calls Tryz.prog 6 #[(aggOf (labelCh l))] w (Ret fun v w' => v = (.bool true) ∧ Ext w w') := by
 refine calls_W Tryz.func6 rfl Tryz.ntmps6 rfl ?_
 have H0 := Ctx.start w nob
 refine W_seq (W_reg ?_)
 refine O_v rfl (C_box H0 [(idCells l.target), [(.string l.name)], [(.string l.msg)]] rfl ?_)
 intro b1 w2 hb3 hx4 H5
 refine O_v rfl (R_assign (v := (.bool false)) rfl ?_)
 refine O_nil (Then_n (W_seq (W_seq (W_reg ?_))))
 refine O_v rfl (R_callL (vs := []) law04_ObjLabels_c9 rfl rfl ((law04_alive  w2 ).ret ?_))
 rintro _ w6 ⟨rfl, hx7⟩
 have H8 := H5.ext hx7
 refine O_v rfl (R_not rfl ?_)
 refine O_nil (Then_n ?_)
 refine W_cond_f rfl ?_
 refine W_skip (Then_n (W_seq (W_reg ?_)))
 refine O_v rfl (R_loadA (cs := [(idCells l.target), [(.string l.name)], [(.string l.msg)]]) Tryz.isAgg55 Tryz.sizeOf55 rfl rfl ((boxR_at (H8.getOwn 0 rfl)).chunks 0 3 0 0 _ rfl rfl rfl) ?_)
 refine O_v rfl (R_callL (vs := [(aggOf (labelCh l))]) law04_ObjLabels_c28 rfl rfl ((obj_PutLabel l w6 ).ret ?_))
 rintro _ w10 ⟨h9, rfl, hx11, ho12⟩
 have H13 := H8.addRow hx11 ho12
 refine O_v rfl (R_move (v := (.tuple #[(slV h9 (putLabelB l)), (.int .i64 (putLabelE l))])) rfl ?_)
 refine O_v rfl (R_extract (v := (slV h9 (putLabelB l))) rfl rfl ?_)
 refine O_v rfl (R_extract (v := (.int .i64 (putLabelE l))) rfl rfl ?_)
 refine O_v rfl (R_assign (v := (slV h9 (putLabelB l))) rfl ?_)
 refine O_v rfl (R_assign (v := (.int .i64 (putLabelE l))) rfl ?_)
 refine O_nil (Then_n (W_seq (W_seq (W_reg ?_))))
 refine O_v rfl (R_loadA (cs := [(idCells l.target), [(.string l.name)], [(.string l.msg)]]) Tryz.isAgg55 Tryz.sizeOf55 rfl rfl ((boxR_at (H13.getOwn 1 rfl)).chunks 0 3 0 0 _ rfl rfl rfl) ?_)
 refine O_v rfl (R_callL (vs := [(aggOf (labelCh l))]) law04_ObjLabels_c29 rfl rfl ((ref04_RightLabel l w10 hn).ret ?_))
 rintro _ w14 ⟨rfl, hx15⟩
 have H16 := H13.ext hx15
 refine O_v rfl (R_not rfl ?_)
 refine O_nil (Then_n ?_)
 refine W_cond (t := (!(labelOk l))) rfl (fun hc17 => ?_) (fun hc17 => ?_)
 ·have hc17 : (labelOk l) = false := (notT hc17)
  refine W_seq (W_reg ?_)
  refine O_v rfl (R_move (v := (.int .i64 (putLabelE l))) rfl ?_)
  refine O_v rfl (R_cmp (a := putLabelE l) (b := 1) (r := (decide (putLabelE l = 1))) rfl rfl rfl ?_)
  refine O_v rfl (R_move (v := (.bool (decide (putLabelE l = 1)))) rfl ?_)
  refine O_g true (decide (putLabelE l = 1)) rfl rfl rfl rfl (decide (putLabelE l = 1)) ga_t (slV h9 (putLabelB l)) (fun hA => R_move (v := (slV h9 (putLabelB l))) rfl ⟨rfl, Gr.refl _ _⟩) (fun w18 hx19 => ?_)
  have H20 := H16.ext hx19
  refine O_g true (decide (putLabelE l = 1)) rfl rfl rfl rfl (decide (putLabelE l = 1)) ga_t (.int .i64 (((putLabelB l).length : Nat) : Int)) (fun hA => R_len_slice (a := h9.a) (n := (putLabelB l).length) (c := h9.c) Tryz.underlying22 (gv_t hA) ⟨rfl, Gr.refl _ _⟩) (fun w21 hx22 => ?_)
  have H23 := H20.ext hx22
  refine O_g true (decide (putLabelE l = 1)) rfl rfl rfl rfl (decide (putLabelE l = 1)) ga_t (.bool (decide ((((putLabelB l).length : Nat) : Int) = 0))) (fun hA => R_cmp (a := (((putLabelB l).length : Nat) : Int)) (b := 0) (r := (decide ((((putLabelB l).length : Nat) : Int) = 0))) (gv_t hA) rfl rfl ⟨rfl, Gr.refl _ _⟩) (fun w24 hx25 => ?_)
  have H26 := H23.ext hx25
  refine O_v rfl (R_pick (t := (decide (putLabelE l = 1))) (v := (.bool ((decide (putLabelE l = 1)) && (decide ((((putLabelB l).length : Nat) : Int) = 0))))) rfl pk_and ?_)
  refine O_v rfl (R_assign (v := (.bool ((decide (putLabelE l = 1)) && (decide ((((putLabelB l).length : Nat) : Int) = 0))))) rfl ?_)
  refine O_nil (Then_n (W_ret (Then_r ?_)))
  refine ret_1 (v := (.bool ((decide (putLabelE l = 1)) && (decide ((((putLabelB l).length : Nat) : Int) = 0))))) Tryz.results6 rfl ?_
  exact ⟨(labels_no (by assumption)), H26.gr⟩
 ·have hc17 : (labelOk l) = true := (notF hc17)
  have hL := hc17
  obtain ⟨hp, hll⟩ := labB_len hL
  refine W_skip (Then_n (W_seq (W_reg ?_)))
  refine O_v rfl (R_move (v := (slV h9 (putLabelB l))) rfl ?_)
  refine O_v rfl (R_callL (vs := [(slV h9 (putLabelB l))]) law04_ObjLabels_c30 rfl rfl ((obj_Label h9 (putLabelB l) w14 (H16.rowSl 0 rfl (fun _ => rfl)) (by omega)).ret ?_))
  rintro _ w27 ⟨rfl, hx28⟩
  have H29 := H16.ext hx28
  refine O_v rfl (R_move (v := (.tuple #[(aggOf (labelCh ((labelOf (putLabelB l)).1))), (.int .i64 ((labelOf (putLabelB l)).2))])) rfl ?_)
  refine O_v rfl (R_extract (v := (aggOf (labelCh ((labelOf (putLabelB l)).1)))) rfl rfl ?_)
  refine O_v rfl (R_extract (v := (.int .i64 ((labelOf (putLabelB l)).2))) rfl rfl ?_)
  refine O_v rfl (C_alloc H29 [(idCells zeroId), [(.string ByteArray.empty)], [(.string ByteArray.empty)]] Tryz.zeroValue55 ?_)
  intro b30 w31 hb32 hx33 H34
  refine O_u (C_storeA H34 0 rfl 0 (sub := [(idCells (((labelOf (putLabelB l)).1).target)), [(.string (((labelOf (putLabelB l)).1).name))], [(.string (((labelOf (putLabelB l)).1).msg))]]) [(idCells (((labelOf (putLabelB l)).1).target)), [(.string (((labelOf (putLabelB l)).1).name))], [(.string (((labelOf (putLabelB l)).1).msg))]] Tryz.sizeOf55 rfl rfl rfl rfl ⟨[(idCells zeroId), [(.string ByteArray.empty)], [(.string ByteArray.empty)]], [], rfl, rfl, rfl⟩ rfl ?_)
  intro w35 hg36 H37
  refine O_v rfl (R_assign (v := (.int .i64 ((labelOf (putLabelB l)).2))) rfl ?_)
  refine O_nil (Then_n (W_seq (W_reg ?_)))
  refine O_v rfl (R_move (v := (.int .i64 (putLabelE l))) rfl ?_)
  refine O_k rfl (.bool true) (R_cmp (a := putLabelE l) (b := 0) (r := (decide (putLabelE l = 0))) rfl rfl rfl ⟨(boolK (decide_eq_true (if_pos hL))), Gr.refl _ _⟩) (fun w38 hx39 => ?_)
  have H40 := H37.ext hx39
  refine O_v rfl (R_move (v := (.bool true)) rfl ?_)
  refine O_vT rfl rfl rfl rfl (R_move (v := (slV h9 (putLabelB l))) rfl ?_)
  refine O_vT rfl rfl rfl rfl (R_loadA (cs := [(idCells l.target), [(.string l.name)], [(.string l.msg)]]) Tryz.isAgg55 Tryz.sizeOf55 rfl rfl ((boxR_at (H40.getOwn 2 rfl)).chunks 0 3 0 0 _ rfl rfl rfl) ?_)
  refine O_vT rfl rfl rfl rfl (R_callL (vs := [(aggOf (labelCh l))]) law04_ObjLabels_c31 rfl rfl ((ref04_PutLabel l w38 hL).ret ?_))
  rintro _ w42 ⟨h41, rfl, hx43, ho44⟩
  have H45 := H40.addRow hx43 ho44
  refine O_kT rfl rfl rfl rfl (.bool true) (R_callL (vs := [(slV h9 (putLabelB l)), (slV h41 (labelB l))]) law04_ObjLabels_c12 rfl rfl ((ref01_SameBytes h9 (putLabelB l) h41 (labelB l) w42 (H45.rowSl 2 rfl (fun _ => rfl)) (H45.rowSl 0 rfl (fun _ => rfl))).ret (fun _ _ h => ⟨h.1.trans (boolK (decide_eq_true (if_pos hL))), h.2⟩))) (fun w46 hx47 => ?_)
  have H48 := H45.ext hx47
  refine O_v rfl (R_pick (t := true) (v := (.bool true)) rfl rfl ?_)
  refine O_v rfl (R_move (v := (.bool true)) rfl ?_)
  refine O_vT rfl rfl rfl rfl (R_move (v := (.int .i64 ((labelOf (putLabelB l)).2))) rfl ?_)
  refine O_kT rfl rfl rfl rfl (.bool true) (R_cmp (a := (labelOf (putLabelB l)).2) (b := 0) (r := (decide ((labelOf (putLabelB l)).2 = 0))) rfl rfl rfl ⟨(boolK (decide_eq_true (congrArg Prod.snd (lab_of hL)))), Gr.refl _ _⟩) (fun w49 hx50 => ?_)
  have H51 := H48.ext hx50
  refine O_v rfl (R_pick (t := true) (v := (.bool true)) rfl rfl ?_)
  refine O_v rfl (R_move (v := (.bool true)) rfl ?_)
  refine O_vT rfl rfl rfl rfl (R_loadA (cs := [(idCells (((labelOf (putLabelB l)).1).target)), [(.string (((labelOf (putLabelB l)).1).name))], [(.string (((labelOf (putLabelB l)).1).msg))]]) Tryz.isAgg55 Tryz.sizeOf55 rfl rfl ((boxR_at (H51.getOwn 1 rfl)).chunks 0 3 0 0 _ rfl rfl rfl) ?_)
  refine O_vT rfl rfl rfl rfl (R_loadA (cs := [(idCells l.target), [(.string l.name)], [(.string l.msg)]]) Tryz.isAgg55 Tryz.sizeOf55 rfl rfl ((boxR_at (H51.getOwn 3 rfl)).chunks 0 3 0 0 _ rfl rfl rfl) ?_)
  refine O_kT rfl rfl rfl rfl (.bool true) (R_eqv (a := ((labelOf (putLabelB l)).1)) (b := l) eqv_Label55 rfl Tryz.eqGuardType55 rfl rfl ⟨(boolK (decide_eq_true (congrArg Prod.fst (lab_of hL)))), Gr.refl _ _⟩) (fun w52 hx53 => ?_)
  have H54 := H51.ext hx53
  refine O_v rfl (R_pick (t := true) (v := (.bool true)) rfl rfl ?_)
  refine O_v rfl (R_move (v := (.bool true)) rfl ?_)
  refine O_vT rfl rfl rfl rfl (R_move (v := (slV h9 (putLabelB l))) rfl ?_)
  refine O_kT rfl rfl rfl rfl (.int .i64 (kindOf (putLabelB l))) (R_callL (vs := [(slV h9 (putLabelB l))]) law04_ObjLabels_c14 rfl rfl (obj_Kind h9 (putLabelB l) w52 (H54.rowSl 2 rfl (fun _ => rfl)) (by omega))) (fun w55 hx56 => ?_)
  have H57 := H54.ext hx56
  refine O_kT rfl rfl rfl rfl (.bool true) (R_cmp (a := kindOf (putLabelB l)) (b := 4) (r := (decide (kindOf (putLabelB l) = 4))) rfl rfl rfl ⟨(boolK (decide_eq_true (lab_kindOf hL))), Gr.refl _ _⟩) (fun w58 hx59 => ?_)
  have H60 := H57.ext hx59
  refine O_v rfl (R_pick (t := true) (v := (.bool true)) rfl rfl ?_)
  refine O_v rfl (R_move (v := (.bool true)) rfl ?_)
  refine O_vT rfl rfl rfl rfl (R_move (v := (slV h9 (putLabelB l))) rfl ?_)
  refine O_vT rfl rfl rfl rfl (R_callL (vs := [(slV h9 (putLabelB l))]) law04_ObjLabels_c21 rfl rfl ((obj_Links h9 (putLabelB l) w58 (H60.rowSl 2 rfl (fun _ => rfl)) (by omega) (lab_raw1 hL)).ret ?_))
  rintro _ w63 ⟨h61, S62, rfl, hx64, hS65, hv66⟩
  have H67 := H60.addImm hx64 (slI S62 idCh 32 h61 (links1 (putLabelB l))) hv66 hS65
  refine O_vT rfl rfl rfl rfl (R_move (v := (slV h9 (putLabelB l))) rfl ?_)
  refine O_vT rfl rfl rfl rfl (R_callL (vs := [(slV h9 (putLabelB l))]) law04_ObjLabels_c22 rfl rfl ((ref04_LinksTag h9 (putLabelB l) w63 (H67.rowSl 2 rfl (fun _ => rfl)) (lab_open2 hL) (lab_open3 hL)).ret ?_))
  rintro _ w69 ⟨h68, rfl, hx70, ho71⟩
  have H72 := H67.addRow hx70 ho71
  refine O_kT rfl rfl rfl rfl (.bool true) (R_callL (vs := [(slV h61 (links1 (putLabelB l))), (slV h68 (linksTag (putLabelB l)))]) law04_ObjLabels_c20 rfl rfl ((ref04_SameIDs h61 (links1 (putLabelB l)) h68 (linksTag (putLabelB l)) w69 (H72.slOld 0 rfl) (H72.rowSl 0 rfl (fun _ => rfl))).ret (fun _ _ h => ⟨h.1.trans (boolK (decide_eq_true (lab_links hL))), h.2⟩))) (fun w73 hx74 => ?_)
  have H75 := H72.ext hx74
  refine O_v rfl (R_pick (t := true) (v := (.bool true)) rfl rfl ?_)
  refine O_v rfl (R_assign (v := (.bool true)) rfl ?_)
  refine O_nil (Then_n (W_ret ?_))
  refine ret_1 (v := (.bool true)) Tryz.results6 rfl ?_
  exact ⟨rfl, H75.gr⟩

end Go.Proofs.YthjdhfoeckfmbaaGreat
