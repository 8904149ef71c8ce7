/- Proved: for every input, pollardlaw04.ObjChanges returns true and leaves its argument as it was. No condition. -/
import Derived.Test.YthjdhfoeckfmbaaGreatProg
import Derived.Test.YthjdhfoeckfmbaaGreatX1
namespace Go.Proofs.YthjdhfoeckfmbaaGreat
open Go
set_option maxRecDepth 100000
set_option linter.unusedVariables false
set_option linter.unusedSimpArgs false
set_option linter.unusedSectionVars false
variable [DD]
theorem Reader_Num_c87 : callable Tryz.prog 87 = true := by kernel_rfl
theorem Reader_Num_c88 : callable Tryz.prog 88 = true := by kernel_rfl
set_option maxHeartbeats 4000000 in
theorem Reader_Num (br : Nat) (r : RdS) (Sr : Nat → Prop) (q : List UInt8 × Bool) (most : Int) (w : World) (Qr : RdQ 132 br Sr r w) (Er : r.st = q) :
    Calls Tryz.prog 46 #[(.pointer (some ⟨br, 0, none⟩)), (.int .i64 most)] w (Ret fun v w' => ∃ (r' : RdS), v = (.int .i64 ((((rdNum q most).1) : Nat) : Int)) ∧ Gr (fun c => c = br) w w' ∧ RdQ 132 br Sr r' w' ∧ r'.st = (rdNum q most).2) := by
 refine calls_W Tryz.func46 rfl Tryz.ntmps46 rfl ?_
 have H0 := Qr
 refine W_seq (W_reg ?_)
 refine O_v rfl (R_assign (v := (.int .i64 0)) rfl ?_)
 refine O_nil (Then_n (W_seq (W_reg ?_)))
 refine O_v rfl (R_assign (v := (.int .u64 0)) rfl ?_)
 refine O_nil (Then_n (W_seq (W_seq (W_reg ?_))))
 refine O_v rfl (R_assign (v := (.int .i64 0)) rfl ?_)
 refine O_nil (Then_n (W_block ?_))
 refine W_loop (fun m1 e2 w3 => ∃ (k : Nat), ∃ (u : Nat), ∃ (rr : RdS), ∃ (rq : List UInt8 × Bool), m1 = 9 - k ∧ (k ≤ 9) ∧ (u < 2 ^ (7 * k)) ∧ (rr.st = rq) ∧ (rdNumGo most (9 - k) k u rq = rdNum q most) ∧ ∃ eb4, e2 = envL [(0, (.pointer (some ⟨br, 0, none⟩))), (1, (.int .i64 most)), (5, (.int .u64 ((u : Nat) : Int))), (6, (.int .i64 ((7 * k : Nat) : Int)))] eb4 ∧ Ctx w (fun c => c = br) w3 [boxR br 132 [[(slV rr.bh rr.b)], [(.bool rr.bad)]]] [slI Sr encB 1 rr.bh rr.b]) _ ⟨0, 0, r, q, rfl, (by omega), (Nat.one_pos), Er, rfl, _, envL_self ⟨rfl, rfl, rfl, rfl, trivial⟩, H0⟩ ?_
 rintro m1 _ w3 ⟨k, u, rr, rq, rfl, hk, hu, hrr, hgo, eb4, rfl, H5⟩
 refine W_seq (W_seq (W_reg ?_))
 refine O_v rfl (R_move (v := (.int .i64 ((7 * k : Nat) : Int))) rfl ?_)
 refine O_v rfl (R_cmp (a := ((7 * k : Nat) : Int)) (b := 63) (r := (decide (((7 * k : Nat) : Int) < 63))) rfl rfl rfl ?_)
 refine O_nil (Then_n ?_)
 refine W_cond (t := (decide (((7 * k : Nat) : Int) < 63))) rfl (fun hc6 => ?_) (fun hc6 => ?_)
 ·have hc6 : (((7 * k : Nat) : Int) < 63) := (of_decide_eq_true hc6)
  refine W_skip (Then_n (W_seq (W_block (W_seq (W_reg ?_)))))
  refine O_v rfl (R_move (v := (.pointer (some ⟨br, 0, none⟩))) rfl ?_)
  refine O_v rfl (R_callL (vs := [(.pointer (some ⟨br, 0, none⟩)), (.int .i64 1)]) Reader_Num_c88 rfl rfl ((Reader_take br rr Sr rq 1 w3 ((H5.pick (B' := [boxR br 132 (rdCh rr)]) (I' := [slI Sr encB 1 rr.bh rr.b]) [0] (by decide) rfl (List.forall_mem_cons.2 ⟨List.mem_of_getElem? (i := 0) rfl, fun _ h => (nomatch h)⟩)).rdStart) hrr).ret ?_))
  rintro _ w8 ⟨r7, h13, rfl, hg9, hQ10, hr11, hv14, hx15⟩
  have H12 := H5.rdUpd (r := rr) 0 0 rfl rfl hg9 hQ10
  have H16 := H12.immOf 0 rfl (slI Sr encB 1 h13 ((rdTake rq 1).1)) (fun _ h => h) (fun _ => hv14)
  refine O_v rfl (R_assign (v := (slV h13 ((rdTake rq 1).1))) rfl ?_)
  refine O_nil (Then_n (W_seq (W_seq (W_reg ?_))))
  refine O_v rfl (R_move (v := (slV h13 ((rdTake rq 1).1))) rfl ?_)
  refine O_v rfl (R_slice_nil (a := h13.a) Tryz.underlying22 rfl rfl ?_)
  refine O_nil (Then_n ?_)
  refine W_cond (t := h13.a.isNone) rfl (fun hc17 => ?_) (fun hc17 => ?_)
  ·have hc17 : h13.a.isNone = true := hc17
   have hlen := take_nil1 ((H16.sl 0 rfl).isNil hc17)
   refine W_seq (W_reg ?_)
   refine O_v rfl (R_assign (v := (.int .i64 0)) rfl ?_)
   refine O_nil (Then_n (W_ret (Then_r (Blk_r (Then_r (Then_r (Blk_r (Then_r ?_))))))))
   refine ret_1 (v := (.int .i64 0)) Tryz.results46 rfl ?_
   have HQ := ((H16.pick (B' := [boxR br 132 (rdCh r7)]) (I' := [slI Sr encB 1 r7.bh r7.b]) [0] (by decide) rfl (List.forall_mem_cons.2 ⟨List.mem_of_getElem? (i := 1) rfl, fun _ h => (nomatch h)⟩)).rdStart)
   exact ⟨r7, (num_nil hgo (by omega) hlen).1, H16.gr, HQ, (hr11.trans (num_nil hgo (by omega) hlen).2)⟩
  ·have hc17 : h13.a.isNone = false := hc17
   have hlen := take_len1 (hx15) (hc17)
   refine W_skip (Then_n (W_seq (W_reg ?_)))
   refine O_v rfl (R_move (v := (.int .u64 ((u : Nat) : Int))) rfl ?_)
   refine O_v rfl (R_move (v := (slV h13 ((rdTake rq 1).1))) rfl ?_)
   refine O_v rfl (R_index_pure (H16.sl 0 rfl) (n := ((rdTake rq 1).1).length) rfl (j := 0) (oo := (h13.o + 0 * 1)) Tryz.underlying22 Tryz.sizeOf5 rfl rfl (by omega) (by omega) rfl ?_)
   refine O_v rfl (R_load1 (v := (.int .u8 ((nth ((rdTake rq 1).1) 0).toNat : Int))) Tryz.isAgg5 rfl ((Sl.elem (H16.sl 0 rfl) (i := 0) (by omega) rfl).chunks 0 1 0 (h13.o + 0 * 1) _ rfl rfl rfl) ?_)
   refine O_v rfl (R_bits (k := .u8) (a := ((nth ((rdTake rq 1).1) 0).toNat : Int)) (b := ((127 : UInt8).toNat : Int)) (r := (((nth ((rdTake rq 1).1) 0) &&& (127 : UInt8)).toNat : Int)) rfl rfl (bit_and8 _ _) ?_)
   refine O_v rfl (R_conv_int (a := (((nth ((rdTake rq 1).1) 0) &&& (127 : UInt8)).toNat : Int)) (r := (((nth ((rdTake rq 1).1) 0) &&& (127 : UInt8)).toNat : Int)) Tryz.underlying5 Tryz.underlying126 rfl (conv_864 _) ?_)
   refine O_v rfl (R_move (v := (.int .i64 ((7 * k : Nat) : Int))) rfl ?_)
   refine O_v rfl (R_shl (a := (((nth ((rdTake rq 1).1) 0) &&& (127 : UInt8)).toNat : Int)) (b := (((7 * k) : Nat) : Int)) (r := ((((nth ((rdTake rq 1).1) 0) &&& (127 : UInt8)).toNat * 2 ^ (7 * k) : Nat) : Int)) rfl rfl (by omega) (shl_nat (by omega) (num_b2 _ (by omega))) ?_)
   refine O_v rfl (R_bits (k := .u64) (a := ((u : Nat) : Int)) (b := ((((nth ((rdTake rq 1).1) 0) &&& (127 : UInt8)).toNat * 2 ^ (7 * k) : Nat) : Int)) (r := ((u ||| (((nth ((rdTake rq 1).1) 0) &&& (127 : UInt8)).toNat * 2 ^ (7 * k)) : Nat) : Int)) rfl rfl (bit_or64 (num_b1 hu (by omega)) (num_b2 _ (by omega))) ?_)
   refine O_v rfl (R_assign (v := (.int .u64 ((u ||| (((nth ((rdTake rq 1).1) 0) &&& (127 : UInt8)).toNat * 2 ^ (7 * k)) : Nat) : Int))) rfl ?_)
   refine O_nil (Then_n (W_seq (W_seq (W_reg ?_))))
   refine O_v rfl (R_move (v := (slV h13 ((rdTake rq 1).1))) rfl ?_)
   refine O_v rfl (R_index_pure (H16.sl 0 rfl) (n := ((rdTake rq 1).1).length) rfl (j := 0) (oo := (h13.o + 0 * 1)) Tryz.underlying22 Tryz.sizeOf5 rfl rfl (by omega) (by omega) rfl ?_)
   refine O_v rfl (R_load1 (v := (.int .u8 ((nth ((rdTake rq 1).1) 0).toNat : Int))) Tryz.isAgg5 rfl ((Sl.elem (H16.sl 0 rfl) (i := 0) (by omega) rfl).chunks 0 1 0 (h13.o + 0 * 1) _ rfl rfl rfl) ?_)
   refine O_v rfl (R_cmp (a := ((nth ((rdTake rq 1).1) 0).toNat : Int)) (b := 127) (r := (decide (127 < ((nth ((rdTake rq 1).1) 0).toNat : Int)))) rfl rfl rfl ?_)
   refine O_nil (Then_n ?_)
   refine W_cond (t := (decide (127 < ((nth ((rdTake rq 1).1) 0).toNat : Int)))) rfl (fun hc18 => ?_) (fun hc18 => ?_)
   ·have hc18 : (127 < ((nth ((rdTake rq 1).1) 0).toNat : Int)) := (of_decide_eq_true hc18)
    refine W_exit (Then_x (Blk_x (Then_n (W_reg ?_))))
    refine O_v rfl (R_move (v := (.int .i64 ((7 * k : Nat) : Int))) rfl ?_)
    refine O_v rfl (R_arith (a := ((7 * k : Nat) : Int)) (b := 7) (r0 := ((7 * k : Nat) : Int) + 7) (r := ((7 * k : Nat) : Int) + 7) rfl rfl rfl (w64 _ (by omega)) ?_)
    refine O_v rfl (R_assign (v := (.int .i64 (((7 * k : Nat) : Int) + 7))) rfl ?_)
    refine O_nil (Then_n ?_)
    have H19 := H16.sub (B' := [boxR br 132 [[(slV r7.bh r7.b)], [(.bool r7.bad)]]]) (I' := [slI Sr encB 1 r7.bh r7.b]) (List.Sublist.cons_cons _ List.Sublist.slnil) (List.forall_mem_cons.2 ⟨List.mem_of_getElem? (i := 1) rfl, fun _ h => (nomatch h)⟩)
    refine ⟨_, ?_, (k + 1), (u ||| (((nth ((rdTake rq 1).1) 0) &&& (127 : UInt8)).toNat * 2 ^ (7 * k))), r7, ((rdTake rq 1).2), rfl, (by omega), (num_lt hu (by omega)), hr11, (num_next hgo (by omega) hlen (by assumption)), _, envL_self ⟨rfl, rfl, rfl, num_shift, trivial⟩, H19⟩
    omega
   ·have hc18 : ¬ (127 < ((nth ((rdTake rq 1).1) 0).toNat : Int)) := (of_decide_eq_false hc18)
    refine W_skip (Then_n (W_seq (W_seq ?_)))
    refine W_rg [(0, .q 0), (1, .q 0), (2, .q 0), (3, .q 0), (4, .q 0), (5, .q 0), (6, .q 0), (7, .q 0), (8, .q 0), (9, .q 0), (10, .q 0), (11, .q 0), (12, .q 0), (13, .q 0), (14, .q 0), (15, .q 0), (16, .q 0), (17, .q 0)] (by kernel_rfl) ?_
    refine Lx_q (i := 0) rfl rfl _ (fun v20 hv21 => R_move (v := (.int .u64 ((u ||| (((nth ((rdTake rq 1).1) 0) &&& (127 : UInt8)).toNat * 2 ^ (7 * k)) : Nat) : Int))) rfl ⟨rfl, Gr.refl _ _⟩) ?_
    refine Lx_q (i := 1) rfl rfl _ (fun v22 hv23 => R_cmp (a := ((u ||| (((nth ((rdTake rq 1).1) 0) &&& (127 : UInt8)).toNat * 2 ^ (7 * k)) : Nat) : Int)) (b := 4611686018427387904) (r := (decide (4611686018427387904 < ((u ||| (((nth ((rdTake rq 1).1) 0) &&& (127 : UInt8)).toNat * 2 ^ (7 * k)) : Nat) : Int)))) rfl rfl rfl ⟨rfl, Gr.refl _ _⟩) ?_
    refine Lx_q (i := 2) rfl rfl _ (fun v24 hv25 => R_move (v := (.bool (decide (4611686018427387904 < ((u ||| (((nth ((rdTake rq 1).1) 0) &&& (127 : UInt8)).toNat * 2 ^ (7 * k)) : Nat) : Int))))) rfl ⟨rfl, Gr.refl _ _⟩) ?_
    refine Lx_qg (i := 3) true (decide (4611686018427387904 < ((u ||| (((nth ((rdTake rq 1).1) 0) &&& (127 : UInt8)).toNat * 2 ^ (7 * k)) : Nat) : Int))) rfl rfl rfl rfl rfl (!(decide (4611686018427387904 < ((u ||| (((nth ((rdTake rq 1).1) 0) &&& (127 : UInt8)).toNat * 2 ^ (7 * k)) : Nat) : Int)))) ga_f _ (fun hA v26 hv27 => R_move (v := (.int .u64 ((u ||| (((nth ((rdTake rq 1).1) 0) &&& (127 : UInt8)).toNat * 2 ^ (7 * k)) : Nat) : Int))) rfl ⟨rfl, Gr.refl _ _⟩) ?_
    refine Lx_qg (i := 4) true (decide (4611686018427387904 < ((u ||| (((nth ((rdTake rq 1).1) 0) &&& (127 : UInt8)).toNat * 2 ^ (7 * k)) : Nat) : Int))) rfl rfl rfl rfl rfl (!(decide (4611686018427387904 < ((u ||| (((nth ((rdTake rq 1).1) 0) &&& (127 : UInt8)).toNat * 2 ^ (7 * k)) : Nat) : Int)))) ga_f _ (fun hA v28 hv29 => by
            have hP : ¬ (4611686018427387904 < ((u ||| (((nth ((rdTake rq 1).1) 0) &&& (127 : UInt8)).toNat * 2 ^ (7 * k)) : Nat) : Int)) := (of_decide_eq_false (notT hA))
            exact R_conv_int (a := ((u ||| (((nth ((rdTake rq 1).1) 0) &&& (127 : UInt8)).toNat * 2 ^ (7 * k)) : Nat) : Int)) (r := ((u ||| (((nth ((rdTake rq 1).1) 0) &&& (127 : UInt8)).toNat * 2 ^ (7 * k)) : Nat) : Int)) Tryz.underlying126 Tryz.underlying2 (gv_t hA) (w64 _ (by omega)) ⟨rfl, Gr.refl _ _⟩) ?_
    refine Lx_qg (i := 5) true (decide (4611686018427387904 < ((u ||| (((nth ((rdTake rq 1).1) 0) &&& (127 : UInt8)).toNat * 2 ^ (7 * k)) : Nat) : Int))) rfl rfl rfl rfl rfl (!(decide (4611686018427387904 < ((u ||| (((nth ((rdTake rq 1).1) 0) &&& (127 : UInt8)).toNat * 2 ^ (7 * k)) : Nat) : Int)))) ga_f _ (fun hA v30 hv31 => R_move (v := (.int .i64 most)) rfl ⟨rfl, Gr.refl _ _⟩) ?_
    refine Lx_qg (i := 6) true (decide (4611686018427387904 < ((u ||| (((nth ((rdTake rq 1).1) 0) &&& (127 : UInt8)).toNat * 2 ^ (7 * k)) : Nat) : Int))) rfl rfl rfl rfl rfl (!(decide (4611686018427387904 < ((u ||| (((nth ((rdTake rq 1).1) 0) &&& (127 : UInt8)).toNat * 2 ^ (7 * k)) : Nat) : Int)))) ga_f _ (fun hA v32 hv33 => R_cmp (a := ((u ||| (((nth ((rdTake rq 1).1) 0) &&& (127 : UInt8)).toNat * 2 ^ (7 * k)) : Nat) : Int)) (b := most) (r := (decide (most < ((u ||| (((nth ((rdTake rq 1).1) 0) &&& (127 : UInt8)).toNat * 2 ^ (7 * k)) : Nat) : Int)))) (gv_t hA) (gv_t hA) rfl ⟨rfl, Gr.refl _ _⟩) ?_
    refine Lx_q (i := 7) rfl rfl _ (fun v34 hv35 => R_pick (t := (decide (4611686018427387904 < ((u ||| (((nth ((rdTake rq 1).1) 0) &&& (127 : UInt8)).toNat * 2 ^ (7 * k)) : Nat) : Int)))) (v := (.bool ((decide (4611686018427387904 < ((u ||| (((nth ((rdTake rq 1).1) 0) &&& (127 : UInt8)).toNat * 2 ^ (7 * k)) : Nat) : Int))) || (decide (most < ((u ||| (((nth ((rdTake rq 1).1) 0) &&& (127 : UInt8)).toNat * 2 ^ (7 * k)) : Nat) : Int)))))) rfl pk_or ⟨rfl, Gr.refl _ _⟩) ?_
    refine Lx_q (i := 8) rfl rfl _ (fun v36 hv37 => R_move (v := (.bool ((decide (4611686018427387904 < ((u ||| (((nth ((rdTake rq 1).1) 0) &&& (127 : UInt8)).toNat * 2 ^ (7 * k)) : Nat) : Int))) || (decide (most < ((u ||| (((nth ((rdTake rq 1).1) 0) &&& (127 : UInt8)).toNat * 2 ^ (7 * k)) : Nat) : Int)))))) rfl ⟨rfl, Gr.refl _ _⟩) ?_
    refine Lx_qg (i := 9) true ((decide (4611686018427387904 < ((u ||| (((nth ((rdTake rq 1).1) 0) &&& (127 : UInt8)).toNat * 2 ^ (7 * k)) : Nat) : Int))) || (decide (most < ((u ||| (((nth ((rdTake rq 1).1) 0) &&& (127 : UInt8)).toNat * 2 ^ (7 * k)) : Nat) : Int)))) rfl rfl rfl rfl rfl (!((decide (4611686018427387904 < ((u ||| (((nth ((rdTake rq 1).1) 0) &&& (127 : UInt8)).toNat * 2 ^ (7 * k)) : Nat) : Int))) || (decide (most < ((u ||| (((nth ((rdTake rq 1).1) 0) &&& (127 : UInt8)).toNat * 2 ^ (7 * k)) : Nat) : Int))))) ga_f _ (fun hA v38 hv39 => R_move (v := (slV h13 ((rdTake rq 1).1))) rfl ⟨rfl, Gr.refl _ _⟩) ?_
    refine Lx_qg (i := 10) true ((decide (4611686018427387904 < ((u ||| (((nth ((rdTake rq 1).1) 0) &&& (127 : UInt8)).toNat * 2 ^ (7 * k)) : Nat) : Int))) || (decide (most < ((u ||| (((nth ((rdTake rq 1).1) 0) &&& (127 : UInt8)).toNat * 2 ^ (7 * k)) : Nat) : Int)))) rfl rfl rfl rfl rfl (!((decide (4611686018427387904 < ((u ||| (((nth ((rdTake rq 1).1) 0) &&& (127 : UInt8)).toNat * 2 ^ (7 * k)) : Nat) : Int))) || (decide (most < ((u ||| (((nth ((rdTake rq 1).1) 0) &&& (127 : UInt8)).toNat * 2 ^ (7 * k)) : Nat) : Int))))) ga_f _ (fun hA v40 hv41 => by
            have hP : (¬ (4611686018427387904 < ((u ||| (((nth ((rdTake rq 1).1) 0) &&& (127 : UInt8)).toNat * 2 ^ (7 * k)) : Nat) : Int)) ∧ ¬ (most < ((u ||| (((nth ((rdTake rq 1).1) 0) &&& (127 : UInt8)).toNat * 2 ^ (7 * k)) : Nat) : Int))) := (And.imp (fun h => (of_decide_eq_false h)) (fun h => (of_decide_eq_false h)) (orF (notT hA)))
            exact R_index_pure (H16.sl 0 rfl) (n := ((rdTake rq 1).1).length) rfl (j := 0) (oo := (h13.o + 0 * 1)) Tryz.underlying22 Tryz.sizeOf5 (gv_t hA) rfl (by omega) (by omega) rfl ⟨rfl, Gr.refl _ _⟩) ?_
    refine Lx_qg (i := 11) true ((decide (4611686018427387904 < ((u ||| (((nth ((rdTake rq 1).1) 0) &&& (127 : UInt8)).toNat * 2 ^ (7 * k)) : Nat) : Int))) || (decide (most < ((u ||| (((nth ((rdTake rq 1).1) 0) &&& (127 : UInt8)).toNat * 2 ^ (7 * k)) : Nat) : Int)))) rfl rfl rfl rfl rfl (!((decide (4611686018427387904 < ((u ||| (((nth ((rdTake rq 1).1) 0) &&& (127 : UInt8)).toNat * 2 ^ (7 * k)) : Nat) : Int))) || (decide (most < ((u ||| (((nth ((rdTake rq 1).1) 0) &&& (127 : UInt8)).toNat * 2 ^ (7 * k)) : Nat) : Int))))) ga_f _ (fun hA v42 hv43 => by
            have hP : (¬ (4611686018427387904 < ((u ||| (((nth ((rdTake rq 1).1) 0) &&& (127 : UInt8)).toNat * 2 ^ (7 * k)) : Nat) : Int)) ∧ ¬ (most < ((u ||| (((nth ((rdTake rq 1).1) 0) &&& (127 : UInt8)).toNat * 2 ^ (7 * k)) : Nat) : Int))) := (And.imp (fun h => (of_decide_eq_false h)) (fun h => (of_decide_eq_false h)) (orF (notT hA)))
            exact R_load1 (v := (.int .u8 ((nth ((rdTake rq 1).1) 0).toNat : Int))) Tryz.isAgg5 (gv_t hA) ((Sl.elem ((H16.ext hv43).sl 0 rfl) (i := 0) (by omega) rfl).chunks 0 1 0 (h13.o + 0 * 1) _ rfl rfl rfl) ⟨rfl, Gr.refl _ _⟩) ?_
    refine Lx_qg (i := 12) true ((decide (4611686018427387904 < ((u ||| (((nth ((rdTake rq 1).1) 0) &&& (127 : UInt8)).toNat * 2 ^ (7 * k)) : Nat) : Int))) || (decide (most < ((u ||| (((nth ((rdTake rq 1).1) 0) &&& (127 : UInt8)).toNat * 2 ^ (7 * k)) : Nat) : Int)))) rfl rfl rfl rfl rfl (!((decide (4611686018427387904 < ((u ||| (((nth ((rdTake rq 1).1) 0) &&& (127 : UInt8)).toNat * 2 ^ (7 * k)) : Nat) : Int))) || (decide (most < ((u ||| (((nth ((rdTake rq 1).1) 0) &&& (127 : UInt8)).toNat * 2 ^ (7 * k)) : Nat) : Int))))) ga_f _ (fun hA v44 hv45 => R_cmp (a := ((nth ((rdTake rq 1).1) 0).toNat : Int)) (b := 0) (r := (decide (((nth ((rdTake rq 1).1) 0).toNat : Int) = 0))) (gv_t hA) rfl rfl ⟨rfl, Gr.refl _ _⟩) ?_
    refine Lx_qg (i := 13) true ((decide (4611686018427387904 < ((u ||| (((nth ((rdTake rq 1).1) 0) &&& (127 : UInt8)).toNat * 2 ^ (7 * k)) : Nat) : Int))) || (decide (most < ((u ||| (((nth ((rdTake rq 1).1) 0) &&& (127 : UInt8)).toNat * 2 ^ (7 * k)) : Nat) : Int)))) rfl rfl rfl rfl rfl (!((decide (4611686018427387904 < ((u ||| (((nth ((rdTake rq 1).1) 0) &&& (127 : UInt8)).toNat * 2 ^ (7 * k)) : Nat) : Int))) || (decide (most < ((u ||| (((nth ((rdTake rq 1).1) 0) &&& (127 : UInt8)).toNat * 2 ^ (7 * k)) : Nat) : Int))))) ga_f _ (fun hA v46 hv47 => R_move (v := (.bool (decide (((nth ((rdTake rq 1).1) 0).toNat : Int) = 0)))) (gv_t hA) ⟨rfl, Gr.refl _ _⟩) ?_
    refine Lx_qg (i := 14) (!((decide (4611686018427387904 < ((u ||| (((nth ((rdTake rq 1).1) 0) &&& (127 : UInt8)).toNat * 2 ^ (7 * k)) : Nat) : Int))) || (decide (most < ((u ||| (((nth ((rdTake rq 1).1) 0) &&& (127 : UInt8)).toNat * 2 ^ (7 * k)) : Nat) : Int))))) (decide (((nth ((rdTake rq 1).1) 0).toNat : Int) = 0)) rfl rfl rfl rfl rfl ((!((decide (4611686018427387904 < ((u ||| (((nth ((rdTake rq 1).1) 0) &&& (127 : UInt8)).toNat * 2 ^ (7 * k)) : Nat) : Int))) || (decide (most < ((u ||| (((nth ((rdTake rq 1).1) 0) &&& (127 : UInt8)).toNat * 2 ^ (7 * k)) : Nat) : Int))))) && (decide (((nth ((rdTake rq 1).1) 0).toNat : Int) = 0))) gb_t _ (fun hA v48 hv49 => R_move (v := (.int .i64 ((7 * k : Nat) : Int))) rfl ⟨rfl, Gr.refl _ _⟩) ?_
    refine Lx_qg (i := 15) (!((decide (4611686018427387904 < ((u ||| (((nth ((rdTake rq 1).1) 0) &&& (127 : UInt8)).toNat * 2 ^ (7 * k)) : Nat) : Int))) || (decide (most < ((u ||| (((nth ((rdTake rq 1).1) 0) &&& (127 : UInt8)).toNat * 2 ^ (7 * k)) : Nat) : Int))))) (decide (((nth ((rdTake rq 1).1) 0).toNat : Int) = 0)) rfl rfl rfl rfl rfl ((!((decide (4611686018427387904 < ((u ||| (((nth ((rdTake rq 1).1) 0) &&& (127 : UInt8)).toNat * 2 ^ (7 * k)) : Nat) : Int))) || (decide (most < ((u ||| (((nth ((rdTake rq 1).1) 0) &&& (127 : UInt8)).toNat * 2 ^ (7 * k)) : Nat) : Int))))) && (decide (((nth ((rdTake rq 1).1) 0).toNat : Int) = 0))) gb_t _ (fun hA v50 hv51 => R_cmp (a := ((7 * k : Nat) : Int)) (b := 0) (r := (decide (0 < ((7 * k : Nat) : Int)))) (gv_t hA) rfl rfl ⟨rfl, Gr.refl _ _⟩) ?_
    refine Lx_qg (i := 16) true ((decide (4611686018427387904 < ((u ||| (((nth ((rdTake rq 1).1) 0) &&& (127 : UInt8)).toNat * 2 ^ (7 * k)) : Nat) : Int))) || (decide (most < ((u ||| (((nth ((rdTake rq 1).1) 0) &&& (127 : UInt8)).toNat * 2 ^ (7 * k)) : Nat) : Int)))) rfl rfl rfl rfl rfl (!((decide (4611686018427387904 < ((u ||| (((nth ((rdTake rq 1).1) 0) &&& (127 : UInt8)).toNat * 2 ^ (7 * k)) : Nat) : Int))) || (decide (most < ((u ||| (((nth ((rdTake rq 1).1) 0) &&& (127 : UInt8)).toNat * 2 ^ (7 * k)) : Nat) : Int))))) ga_f _ (fun hA v52 hv53 => R_pick (t := (decide (((nth ((rdTake rq 1).1) 0).toNat : Int) = 0))) (v := (.bool ((decide (((nth ((rdTake rq 1).1) 0).toNat : Int) = 0)) && (decide (0 < ((7 * k : Nat) : Int)))))) (gv_t hA) (pk_andA hA) ⟨rfl, Gr.refl _ _⟩) ?_
    refine Lx_q (i := 17) rfl rfl _ (fun v54 hv55 => R_pick (t := ((decide (4611686018427387904 < ((u ||| (((nth ((rdTake rq 1).1) 0) &&& (127 : UInt8)).toNat * 2 ^ (7 * k)) : Nat) : Int))) || (decide (most < ((u ||| (((nth ((rdTake rq 1).1) 0) &&& (127 : UInt8)).toNat * 2 ^ (7 * k)) : Nat) : Int))))) (v := (.bool (((decide (4611686018427387904 < ((u ||| (((nth ((rdTake rq 1).1) 0) &&& (127 : UInt8)).toNat * 2 ^ (7 * k)) : Nat) : Int))) || (decide (most < ((u ||| (((nth ((rdTake rq 1).1) 0) &&& (127 : UInt8)).toNat * 2 ^ (7 * k)) : Nat) : Int)))) || ((decide (((nth ((rdTake rq 1).1) 0).toNat : Int) = 0)) && (decide (0 < ((7 * k : Nat) : Int))))))) rfl pk_or ⟨rfl, Gr.refl _ _⟩) ?_
    refine Lx_nil (fun w56 hw57 => ?_)
    have H58 := H16.ext hw57
    refine Then_n ?_
    refine W_cond (t := (((decide (4611686018427387904 < ((u ||| (((nth ((rdTake rq 1).1) 0) &&& (127 : UInt8)).toNat * 2 ^ (7 * k)) : Nat) : Int))) || (decide (most < ((u ||| (((nth ((rdTake rq 1).1) 0) &&& (127 : UInt8)).toNat * 2 ^ (7 * k)) : Nat) : Int)))) || ((decide (((nth ((rdTake rq 1).1) 0).toNat : Int) = 0)) && (decide (0 < ((7 * k : Nat) : Int)))))) rfl (fun hc59 => ?_) (fun hc59 => ?_)
    ·have hc59 : (((4611686018427387904 < ((u ||| (((nth ((rdTake rq 1).1) 0) &&& (127 : UInt8)).toNat * 2 ^ (7 * k)) : Nat) : Int)) ∨ (most < ((u ||| (((nth ((rdTake rq 1).1) 0) &&& (127 : UInt8)).toNat * 2 ^ (7 * k)) : Nat) : Int))) ∨ ((((nth ((rdTake rq 1).1) 0).toNat : Int) = 0) ∧ (0 < ((7 * k : Nat) : Int)))) := (Or.imp (fun h => (Or.imp (fun h => (of_decide_eq_true h)) (fun h => (of_decide_eq_true h)) (orT h))) (fun h => (And.imp (fun h => (of_decide_eq_true h)) (fun h => (of_decide_eq_true h)) (andT h))) (orT hc59))
     refine W_exit (Then_x ?_)
     refine Blk_o rfl ?_
     refine Then_x (Then_x (Blk_x (Then_n (W_seq (W_reg ?_)))))
     refine O_v rfl (R_move (v := (.pointer (some ⟨br, 0, none⟩))) rfl ?_)
     refine O_v rfl (R_callL (vs := [(.pointer (some ⟨br, 0, none⟩))]) Reader_Num_c87 rfl rfl ((Reader_Fail br r7 Sr ((rdTake rq 1).2) w56 ((H58.pick (B' := [boxR br 132 (rdCh r7)]) (I' := [slI Sr encB 1 r7.bh r7.b]) [0] (by decide) rfl (List.forall_mem_cons.2 ⟨List.mem_of_getElem? (i := 1) rfl, fun _ h => (nomatch h)⟩)).rdStart) hr11).ret ?_))
     rintro _ w61 ⟨r60, rfl, hg62, hQ63, hr64⟩
     have H65 := H58.rdUpd (r := r7) 0 1 rfl rfl hg62 hQ63
     refine O_nil (Then_n (W_seq (W_reg ?_)))
     refine O_v rfl (R_assign (v := (.int .i64 0)) rfl ?_)
     refine O_nil (Then_n (W_ret ?_))
     refine ret_1 (v := (.int .i64 0)) Tryz.results46 rfl ?_
     have HQ := ((H65.pick (B' := [boxR br 132 (rdCh r60)]) (I' := [slI Sr encB 1 r60.bh r60.b]) [0] (by decide) rfl (List.forall_mem_cons.2 ⟨List.mem_of_getElem? (i := 1) rfl, fun _ h => (nomatch h)⟩)).rdStart)
     exact ⟨r60, (num_bad hgo (by omega) hlen (by assumption) (by assumption)).1, H65.gr, HQ, (hr64.trans (num_bad hgo (by omega) hlen (by assumption) (by assumption)).2)⟩
    ·have hc59 : ((¬ (4611686018427387904 < ((u ||| (((nth ((rdTake rq 1).1) 0) &&& (127 : UInt8)).toNat * 2 ^ (7 * k)) : Nat) : Int)) ∧ ¬ (most < ((u ||| (((nth ((rdTake rq 1).1) 0) &&& (127 : UInt8)).toNat * 2 ^ (7 * k)) : Nat) : Int))) ∧ (¬ (((nth ((rdTake rq 1).1) 0).toNat : Int) = 0) ∨ ¬ (0 < ((7 * k : Nat) : Int)))) := (And.imp (fun h => (And.imp (fun h => (of_decide_eq_false h)) (fun h => (of_decide_eq_false h)) (orF h))) (fun h => (Or.imp (fun h => (of_decide_eq_false h)) (fun h => (of_decide_eq_false h)) (andF h))) (orF hc59))
     refine W_skip (Then_n (W_seq (W_reg ?_)))
     refine O_v rfl (R_move (v := (.int .u64 ((u ||| (((nth ((rdTake rq 1).1) 0) &&& (127 : UInt8)).toNat * 2 ^ (7 * k)) : Nat) : Int))) rfl ?_)
     refine O_v rfl (R_conv_int (a := ((u ||| (((nth ((rdTake rq 1).1) 0) &&& (127 : UInt8)).toNat * 2 ^ (7 * k)) : Nat) : Int)) (r := ((u ||| (((nth ((rdTake rq 1).1) 0) &&& (127 : UInt8)).toNat * 2 ^ (7 * k)) : Nat) : Int)) Tryz.underlying126 Tryz.underlying2 rfl (w64 _ (by omega)) ?_)
     refine O_v rfl (R_assign (v := (.int .i64 ((u ||| (((nth ((rdTake rq 1).1) 0) &&& (127 : UInt8)).toNat * 2 ^ (7 * k)) : Nat) : Int))) rfl ?_)
     refine O_nil (Then_n (W_ret (Blk_r (Then_r (Then_r (Blk_r (Then_r ?_)))))))
     refine ret_1 (v := (.int .i64 ((u ||| (((nth ((rdTake rq 1).1) 0) &&& (127 : UInt8)).toNat * 2 ^ (7 * k)) : Nat) : Int))) Tryz.results46 rfl ?_
     have HQ := ((H58.pick (B' := [boxR br 132 (rdCh r7)]) (I' := [slI Sr encB 1 r7.bh r7.b]) [0] (by decide) rfl (List.forall_mem_cons.2 ⟨List.mem_of_getElem? (i := 1) rfl, fun _ h => (nomatch h)⟩)).rdStart)
     exact ⟨r7, (num_ok hgo (by omega) hlen (by assumption) (by assumption)).1, H58.gr, HQ, (hr11.trans (num_ok hgo (by omega) hlen (by assumption) (by assumption)).2)⟩
 ·have hc6 : ¬ (((7 * k : Nat) : Int) < 63) := (of_decide_eq_false hc6)
  refine W_exit (Then_x (Then_x (Blk_x (Then_n (W_seq (W_reg ?_))))))
  refine O_v rfl (R_move (v := (.pointer (some ⟨br, 0, none⟩))) rfl ?_)
  refine O_v rfl (R_callL (vs := [(.pointer (some ⟨br, 0, none⟩))]) Reader_Num_c87 rfl rfl ((Reader_Fail br rr Sr rq w3 ((H5.pick (B' := [boxR br 132 (rdCh rr)]) (I' := [slI Sr encB 1 rr.bh rr.b]) [0] (by decide) rfl (List.forall_mem_cons.2 ⟨List.mem_of_getElem? (i := 0) rfl, fun _ h => (nomatch h)⟩)).rdStart) hrr).ret ?_))
  rintro _ w67 ⟨r66, rfl, hg68, hQ69, hr70⟩
  have H71 := H5.rdUpd (r := rr) 0 0 rfl rfl hg68 hQ69
  refine O_nil (Then_n (W_seq (W_reg ?_)))
  refine O_v rfl (R_assign (v := (.int .i64 0)) rfl ?_)
  refine O_nil (Then_n (W_ret ?_))
  refine ret_1 (v := (.int .i64 0)) Tryz.results46 rfl ?_
  have HQ := ((H71.pick (B' := [boxR br 132 (rdCh r66)]) (I' := [slI Sr encB 1 r66.bh r66.b]) [0] (by decide) rfl (List.forall_mem_cons.2 ⟨List.mem_of_getElem? (i := 0) rfl, fun _ h => (nomatch h)⟩)).rdStart)
  exact ⟨r66, (rnum_end hgo (by omega)).1, H71.gr, HQ, (hr70.trans (rnum_end hgo (by omega)).2)⟩

end Go.Proofs.YthjdhfoeckfmbaaGreat
namespace Go.Proofs.YthjdhfoeckfmbaaGreat
open Go
set_option maxRecDepth 100000
set_option linter.unusedVariables false
set_option linter.unusedSimpArgs false
set_option linter.unusedSectionVars false
variable [DD]
theorem Reader_Text_c46 : callable Tryz.prog 46 = true := by kernel_rfl
theorem Reader_Text_c88 : callable Tryz.prog 88 = true := by kernel_rfl
set_option maxHeartbeats 1000000 in
theorem Reader_Text (br : Nat) (r : RdS) (Sr : Nat → Prop) (q : List UInt8 × Bool) (most : Int) (w : World) (Qr : RdQ 132 br Sr r w) (Er : r.st = q) :
    Calls Tryz.prog 65 #[(.pointer (some ⟨br, 0, none⟩)), (.int .i64 most)] w (Ret fun v w' => ∃ (r' : RdS), v = (.string ((rdText q most).1)) ∧ Gr (fun c => c = br) w w' ∧ RdQ 132 br Sr r' w' ∧ r'.st = (rdText q most).2) := by
 refine calls_W Tryz.func65 rfl Tryz.ntmps65 rfl ?_
 have H0 := Qr
 refine W_seq (W_reg ?_)
 refine O_v rfl (R_assign (v := (.string ByteArray.empty)) rfl ?_)
 refine O_nil (Then_n (W_seq (W_reg ?_)))
 refine O_v rfl (R_move (v := (.pointer (some ⟨br, 0, none⟩))) rfl ?_)
 refine O_v rfl (R_move (v := (.pointer (some ⟨br, 0, none⟩))) rfl ?_)
 refine O_v rfl (R_move (v := (.int .i64 most)) rfl ?_)
 refine O_v rfl (R_callL (vs := [(.pointer (some ⟨br, 0, none⟩)), (.int .i64 most)]) Reader_Text_c46 rfl rfl ((Reader_Num br r Sr q most w ((H0.pick (B' := [boxR br 132 (rdCh r)]) (I' := [slI Sr encB 1 r.bh r.b]) [0] (by decide) rfl (List.forall_mem_cons.2 ⟨List.mem_of_getElem? (i := 0) rfl, fun _ h => (nomatch h)⟩)).rdStart) Er).ret ?_))
 rintro _ w2 ⟨r1, rfl, hg3, hQ4, hr5⟩
 have H6 := H0.rdUpd (r := r) 0 0 rfl rfl hg3 hQ4
 refine O_v rfl (R_callL (vs := [(.pointer (some ⟨br, 0, none⟩)), (.int .i64 ((((rdNum q most).1) : Nat) : Int))]) Reader_Text_c88 rfl rfl ((Reader_take br r1 Sr ((rdNum q most).2) ((rdNum q most).1) w2 ((H6.pick (B' := [boxR br 132 (rdCh r1)]) (I' := [slI Sr encB 1 r1.bh r1.b]) [0] (by decide) rfl (List.forall_mem_cons.2 ⟨List.mem_of_getElem? (i := 0) rfl, fun _ h => (nomatch h)⟩)).rdStart) hr5).ret ?_))
 rintro _ w8 ⟨r7, h13, rfl, hg9, hQ10, hr11, hv14, hx15⟩
 have H12 := H6.rdUpd (r := r1) 0 0 rfl rfl hg9 hQ10
 have H16 := H12.immOf 0 rfl (slI Sr encB 1 h13 ((rdTake ((rdNum q most).2) ((rdNum q most).1)).1)) (fun _ h => h) (fun _ => hv14)
 refine O_v rfl (R_conv_bs (l := (rdTake ((rdNum q most).2) ((rdNum q most).1)).1) Tryz.underlying22 Tryz.underlying5 Tryz.underlying9 (H16.sl 0 rfl) rfl ?_)
 refine O_v rfl (R_assign (v := (.string (⟨((rdTake ((rdNum q most).2) ((rdNum q most).1)).1).toArray⟩ : ByteArray))) rfl ?_)
 refine O_nil (Then_n (W_ret ?_))
 refine ret_1 (v := (.string (⟨((rdTake ((rdNum q most).2) ((rdNum q most).1)).1).toArray⟩ : ByteArray))) Tryz.results65 rfl ?_
 have HQ := ((H16.pick (B' := [boxR br 132 (rdCh r7)]) (I' := [slI Sr encB 1 r7.bh r7.b]) [0] (by decide) rfl (List.forall_mem_cons.2 ⟨List.mem_of_getElem? (i := 1) rfl, fun _ h => (nomatch h)⟩)).rdStart)
 exact ⟨r7, rfl, H16.gr, HQ, (hr11)⟩

end Go.Proofs.YthjdhfoeckfmbaaGreat
namespace Go.Proofs.YthjdhfoeckfmbaaGreat
open Go
set_option maxRecDepth 100000
set_option linter.unusedVariables false
set_option linter.unusedSimpArgs false
set_option linter.unusedSectionVars false
variable [DD]
set_option maxHeartbeats 1000000 in
theorem Clone_byte (hs : SlH) (s : List UInt8) (w : World) (Ss : Sl (Old w) encB 1 hs s w) (hl : s.length ≤ 140737488355328) :
    Calls Tryz.prog 85 #[(slV hs s)] w (Ret fun v w' => ∃ h, v = slV h (s) ∧ Ext w w' ∧ OwnS w.heap.size 5 1 encB h (s) w') := by
 refine calls_W Tryz.func85 rfl Tryz.ntmps85 rfl ?_
 have H0 := Ctx.start w nob
 have H1 := H0.addSl _ Ss (fun b hb => ⟨hb, fun _ ho => (nomatch ho)⟩)
 have LSs := Ss.len
 refine W_seq (W_reg ?_)
 refine O_v rfl (R_assign (v := (.slice none 0 0)) rfl ?_)
 refine O_nil (Then_n (W_seq (W_seq (W_reg ?_))))
 refine O_v rfl (R_move (v := (slV hs s)) rfl ?_)
 refine O_v rfl (R_slice_nil (a := hs.a) Tryz.underlying22 rfl rfl ?_)
 refine O_nil (Then_n ?_)
 refine W_cond (t := hs.a.isNone) rfl (fun hc2 => ?_) (fun hc2 => ?_)
 ·have hc2 : hs.a.isNone = true := hc2
  refine W_seq (W_reg ?_)
  refine O_v rfl (R_assign (v := (.slice none 0 0)) rfl ?_)
  refine O_nil (Then_n (W_ret (Then_r ?_)))
  refine ret_1 (v := (.slice none 0 0)) Tryz.results85 rfl ?_
  have H3 := H1.addNil 5 1 encB
  have hE : [] = s := (Sl.isNil Ss (by assumption)).symm
  refine ⟨nilH, ?_, H3.gr, ?_⟩
  · exact congrArg (fun l => slV nilH l) hE
  · have hO := H3.retRow 0 rfl
    exact hE ▸ hO
 ·have hc2 : hs.a.isNone = false := hc2
  refine W_skip (Then_n (W_seq (W_reg ?_)))
  refine O_v rfl (C_buildSliceL H1 (enc := encB) (val := byteV) ([] : List UInt8) Tryz.underlying22 Tryz.sizeOf5 Tryz.zeroValue5 rfl (by decide) (fun _ => rfl) (fun _ => rfl) rfl rfl (by decide) ?_)
  intro b4 w5 hb6 hx7 H8
  refine O_v rfl (R_move (v := (slV hs s)) rfl ?_)
  refine O_v rfl (C_append H8 0 rfl (bytes := 1) (l := ([] : List UInt8)) (ys := s) Tryz.underlying22 rfl rfl rfl rfl rfl (by decide) rfl rfl (H8.sl 0 rfl) (fun _ => rfl) (fun _ => rfl) (by simpa using hl) (by decide) ?_)
  intro h9 w10 hg11 H12
  refine O_v rfl (R_assign (v := (slV h9 (([] : List UInt8) ++ s))) rfl ?_)
  refine O_nil (Then_n (W_ret ?_))
  refine ret_1 (v := (slV h9 (([] : List UInt8) ++ s))) Tryz.results85 rfl ?_
  have hE : ([] : List UInt8) ++ s = s := List.nil_append _
  refine ⟨h9, ?_, H12.gr, ?_⟩
  · exact congrArg (fun l => slV h9 l) hE
  · have hO := H12.retRow 0 rfl
    exact hE ▸ hO

end Go.Proofs.YthjdhfoeckfmbaaGreat
namespace Go.Proofs.YthjdhfoeckfmbaaGreat
open Go
set_option maxRecDepth 100000
set_option linter.unusedVariables false
set_option linter.unusedSimpArgs false
set_option linter.unusedSectionVars false
variable [DD]
theorem enc_Read_c85 : callable Tryz.prog 85 = true := by kernel_rfl
set_option maxHeartbeats 1000000 in
theorem enc_Read (hb : SlH) (b : List UInt8) (w : World) (Sb : Sl (Old w) encB 1 hb b w) (hl : b.length ≤ 140737488355328) :
    Calls Tryz.prog 86 #[(slV hb b)] w (Ret fun v w' => ∃ (bR : Nat) (rR : RdS) (SR : Nat → Prop), v = .pointer (some ⟨bR, 0, none⟩) ∧ Ext w w' ∧ w.heap.size ≤ bR ∧ (∀ c, SR c → w.heap.size ≤ c) ∧ RdQ 132 bR SR rR w' ∧ rR.st = (b, false)) := by
 refine calls_W Tryz.func86 rfl Tryz.ntmps86 rfl ?_
 have H0 := Ctx.start w nob
 have H1 := H0.addSl _ Sb (fun b hb => ⟨hb, fun _ ho => (nomatch ho)⟩)
 have LSb := Sb.len
 refine W_seq (W_reg ?_)
 refine O_v rfl (R_assign (v := (.pointer none)) rfl ?_)
 refine O_nil (Then_n (W_seq (W_reg ?_)))
 refine O_v rfl (R_move (v := (slV hb b)) rfl ?_)
 refine O_v rfl (R_callL (vs := [(slV hb b)]) enc_Read_c85 rfl rfl ((Clone_byte hb b w (H1.slOld 0 rfl) (by omega)).ret ?_))
 rintro _ w3 ⟨h2, rfl, hx4, ho5⟩
 have H6 := H1.addRow hx4 ho5
 refine O_v rfl (R_buildL (vs := [(0, (slV h2 b))]) (v := aggOf [[(slV h2 b)], [(.bool false)]]) rfl (fun _ => by kernel_rfl) ?_)
 refine O_v rfl (C_box H6 [[(slV h2 b)], [(.bool false)]] rfl ?_)
 intro b7 w8 hb9 hx10 H11
 refine O_v rfl (R_assign (v := (.pointer (some ⟨b7, 0, none⟩))) rfl ?_)
 refine O_nil (Then_n (W_ret ?_))
 refine ret_1 (v := (.pointer (some ⟨b7, 0, none⟩))) Tryz.results86 rfl ?_
 have hn12 := H11.newRow 1 rfl
 have H13 := H11.freeze 1 rfl (fun _ => rfl)
 exact ⟨b7, ({ b := b, bh := h2, bad := false } : RdS), (fun z_ => (slV h2 b).ownBlock = some z_), rfl, H13.gr, H13.boxNew' 0 rfl, hn12, ((H13.pick (B' := [boxR b7 132 (rdCh ({ b := b, bh := h2, bad := false } : RdS))]) (I' := [slI (fun z_ => (slV h2 b).ownBlock = some z_) encB 1 h2 b]) [0] (by decide) rfl (List.forall_mem_cons.2 ⟨List.mem_of_getElem? (i := 0) rfl, fun _ h => (nomatch h)⟩)).rdStart), rfl⟩

end Go.Proofs.YthjdhfoeckfmbaaGreat
namespace Go.Proofs.YthjdhfoeckfmbaaGreat
open Go
set_option maxRecDepth 100000
set_option linter.unusedVariables false
set_option linter.unusedSimpArgs false
set_option linter.unusedSectionVars false
variable [DD]
theorem obj_open_c86 : callable Tryz.prog 86 = true := by kernel_rfl
theorem obj_open_c87 : callable Tryz.prog 87 = true := by kernel_rfl
set_option maxHeartbeats 1000000 in
theorem obj_open (hb : SlH) (b : List UInt8) (kind : UInt8) (w : World) (Sb : Sl (Old w) encB 1 hb b w) (hl : b.length ≤ 140737488355328) :
    Calls Tryz.prog 45 #[(slV hb b), (.int .u8 (kind.toNat : Int))] w (Ret fun v w' => ∃ (bR : Nat) (rR : RdS) (SR : Nat → Prop), v = .pointer (some ⟨bR, 0, none⟩) ∧ Ext w w' ∧ w.heap.size ≤ bR ∧ (∀ c, SR c → w.heap.size ≤ c) ∧ RdQ 132 bR SR rR w' ∧ rR.st = openSt b kind) := by
 refine calls_W Tryz.func45 rfl Tryz.ntmps45 rfl ?_
 have H0 := Ctx.start w nob
 have H1 := H0.addSl _ Sb (fun b hb => ⟨hb, fun _ ho => (nomatch ho)⟩)
 have LSb := Sb.len
 refine W_seq (W_reg ?_)
 refine O_v rfl (R_assign (v := (.pointer none)) rfl ?_)
 refine O_nil (Then_n (W_seq (W_seq ?_)))
 refine W_rg [(0, .q 0), (1, .q 0), (2, .q 0), (3, .q 0), (4, .q 0), (5, .q 0), (6, .q 0), (7, .q 0), (8, .q 0), (9, .q 0)] (by kernel_rfl) ?_
 refine Lx_q (i := 0) rfl rfl _ (fun v2 hv3 => R_move (v := (slV hb b)) rfl ⟨rfl, Gr.refl _ _⟩) ?_
 refine Lx_q (i := 1) rfl rfl _ (fun v4 hv5 => R_len_slice (a := hb.a) (n := b.length) (c := hb.c) Tryz.underlying22 rfl ⟨rfl, Gr.refl _ _⟩) ?_
 refine Lx_q (i := 2) rfl rfl _ (fun v6 hv7 => R_cmp (a := ((b.length : Nat) : Int)) (b := 0) (r := (decide (((b.length : Nat) : Int) = 0))) rfl rfl rfl ⟨rfl, Gr.refl _ _⟩) ?_
 refine Lx_q (i := 3) rfl rfl _ (fun v8 hv9 => R_move (v := (.bool (decide (((b.length : Nat) : Int) = 0)))) rfl ⟨rfl, Gr.refl _ _⟩) ?_
 refine Lx_qg (i := 4) true (decide (((b.length : Nat) : Int) = 0)) rfl rfl rfl rfl rfl (!(decide (((b.length : Nat) : Int) = 0))) ga_f _ (fun hA v10 hv11 => R_move (v := (slV hb b)) rfl ⟨rfl, Gr.refl _ _⟩) ?_
 refine Lx_qg (i := 5) true (decide (((b.length : Nat) : Int) = 0)) rfl rfl rfl rfl rfl (!(decide (((b.length : Nat) : Int) = 0))) ga_f _ (fun hA v12 hv13 => by
      have hP : ¬ (((b.length : Nat) : Int) = 0) := (of_decide_eq_false (notT hA))
      exact R_index_pure (H1.sl 0 rfl) (n := b.length) rfl (j := 0) (oo := (hb.o + 0 * 1)) Tryz.underlying22 Tryz.sizeOf5 (gv_t hA) rfl (by omega) (by omega) rfl ⟨rfl, Gr.refl _ _⟩) ?_
 refine Lx_qg (i := 6) true (decide (((b.length : Nat) : Int) = 0)) rfl rfl rfl rfl rfl (!(decide (((b.length : Nat) : Int) = 0))) ga_f _ (fun hA v14 hv15 => by
      have hP : ¬ (((b.length : Nat) : Int) = 0) := (of_decide_eq_false (notT hA))
      exact R_load1 (v := (.int .u8 ((nth b 0).toNat : Int))) Tryz.isAgg5 (gv_t hA) ((Sl.elem ((H1.ext hv15).sl 0 rfl) (i := 0) (by omega) rfl).chunks 0 1 0 (hb.o + 0 * 1) _ rfl rfl rfl) ⟨rfl, Gr.refl _ _⟩) ?_
 refine Lx_qg (i := 7) true (decide (((b.length : Nat) : Int) = 0)) rfl rfl rfl rfl rfl (!(decide (((b.length : Nat) : Int) = 0))) ga_f _ (fun hA v16 hv17 => R_move (v := (.int .u8 (kind.toNat : Int))) rfl ⟨rfl, Gr.refl _ _⟩) ?_
 refine Lx_qg (i := 8) true (decide (((b.length : Nat) : Int) = 0)) rfl rfl rfl rfl rfl (!(decide (((b.length : Nat) : Int) = 0))) ga_f _ (fun hA v18 hv19 => R_cmp (a := ((nth b 0).toNat : Int)) (b := (kind.toNat : Int)) (r := (!(decide (((nth b 0).toNat : Int) = (kind.toNat : Int))))) (gv_t hA) (gv_t hA) rfl ⟨rfl, Gr.refl _ _⟩) ?_
 refine Lx_q (i := 9) rfl rfl _ (fun v20 hv21 => R_pick (t := (decide (((b.length : Nat) : Int) = 0))) (v := (.bool ((decide (((b.length : Nat) : Int) = 0)) || (!(decide (((nth b 0).toNat : Int) = (kind.toNat : Int))))))) rfl pk_or ⟨rfl, Gr.refl _ _⟩) ?_
 refine Lx_nil (fun w22 hw23 => ?_)
 have H24 := H1.ext hw23
 refine Then_n ?_
 refine W_cond (t := ((decide (((b.length : Nat) : Int) = 0)) || (!(decide (((nth b 0).toNat : Int) = (kind.toNat : Int)))))) rfl (fun hc25 => ?_) (fun hc25 => ?_)
 ·have hc25 : ((((b.length : Nat) : Int) = 0) ∨ ¬ (((nth b 0).toNat : Int) = (kind.toNat : Int))) := (Or.imp (fun h => (of_decide_eq_true h)) (fun h => (of_decide_eq_false (notT h))) (orT hc25))
  refine W_seq (W_reg ?_)
  refine O_v rfl (R_callL (vs := [(.slice none 0 0)]) obj_open_c86 rfl rfl ((enc_Read nilH [] w22 (Sl.nil _ _ _ _) (Nat.zero_le _)).ret ?_))
  rintro _ w29 ⟨b26, r27, S28, rfl, hx30, hb31, hS32, hQ33, hr34⟩
  have H35 := H24.addRd hx30 hb31 hS32 hQ33
  refine O_v rfl (R_assign (v := (.pointer (some ⟨b26, 0, none⟩))) rfl ?_)
  refine O_nil (Then_n (W_seq (W_reg ?_)))
  refine O_v rfl (R_move (v := (.pointer (some ⟨b26, 0, none⟩))) rfl ?_)
  refine O_v rfl (R_callL (vs := [(.pointer (some ⟨b26, 0, none⟩))]) obj_open_c87 rfl rfl ((Reader_Fail b26 r27 S28 ([], false) w29 ((H35.pick (B' := [boxR b26 132 (rdCh r27)]) (I' := [slI S28 encB 1 r27.bh r27.b]) [0] (by decide) rfl (List.forall_mem_cons.2 ⟨List.mem_of_getElem? (i := 0) rfl, fun _ h => (nomatch h)⟩)).rdStart) hr34).ret ?_))
  rintro _ w37 ⟨r36, rfl, hg38, hQ39, hr40⟩
  have H41 := H35.rdUpd (r := r27) 0 0 rfl rfl hg38 hQ39
  refine O_nil (Then_n (W_seq (W_reg ?_)))
  refine O_v rfl (R_move (v := (.pointer (some ⟨b26, 0, none⟩))) rfl ?_)
  refine O_v rfl (R_assign (v := (.pointer (some ⟨b26, 0, none⟩))) rfl ?_)
  refine O_nil (Then_n (W_ret (Then_r ?_)))
  refine ret_1 (v := (.pointer (some ⟨b26, 0, none⟩))) Tryz.results45 rfl ?_
  exact ⟨b26, r36, S28, rfl, H41.gr, H41.boxNew' 0 rfl, (fun c hc => Nat.le_trans H24.gr.size (hS32 c hc)), ((H41.pick (B' := [boxR b26 132 (rdCh r36)]) (I' := [slI S28 encB 1 r36.bh r36.b]) [0] (by decide) rfl (List.forall_mem_cons.2 ⟨List.mem_of_getElem? (i := 0) rfl, fun _ h => (nomatch h)⟩)).rdStart), (hr40.trans (open_f (by assumption)).symm)⟩
 ·have hc25 : (¬ (((b.length : Nat) : Int) = 0) ∧ (((nth b 0).toNat : Int) = (kind.toNat : Int))) := (And.imp (fun h => (of_decide_eq_false h)) (fun h => (of_decide_eq_true (notF h))) (orF hc25))
  refine W_skip (Then_n (W_seq (W_reg ?_)))
  refine O_v rfl (R_move (v := (slV hb b)) rfl ?_)
  refine O_v rfl (R_sliceS (h := hb) (l := b) (a := 1) (b := b.length) (m := hb.c) (b.drop 1) Tryz.underlying22 Tryz.sizeOf5 rfl rfl rfl rfl (by decide) (by omega) (by first | omega | exact Nat.le_refl _) (by have := Sl.cap (H24.sl 0 rfl); omega) (by first | omega | exact Nat.le_refl _ | (have := Sl.cap (H24.sl 0 rfl); omega)) (by rw [List.take_length])  ?_)
  refine O_v rfl (R_callL (vs := [(slV (hSub hb 1 1 hb.c) (b.drop 1))]) obj_open_c86 rfl rfl ((enc_Read (hSub hb 1 1 hb.c) (b.drop 1) w22 (Sl.sub (H24.slOld 0 rfl) 1 b.length hb.c (by omega) (by first | omega | exact Nat.le_refl _) (by have := Sl.cap (H24.sl 0 rfl); omega) (by first | omega | exact Nat.le_refl _ | (have := Sl.cap (H24.sl 0 rfl); omega)) (by rw [List.take_length])) (by rw [List.length_drop]; omega)).ret ?_))
  rintro _ w45 ⟨b42, r43, S44, rfl, hx46, hb47, hS48, hQ49, hr50⟩
  have H51 := H24.addRd hx46 hb47 hS48 hQ49
  refine O_v rfl (R_assign (v := (.pointer (some ⟨b42, 0, none⟩))) rfl ?_)
  refine O_nil (Then_n (W_ret ?_))
  refine ret_1 (v := (.pointer (some ⟨b42, 0, none⟩))) Tryz.results45 rfl ?_
  exact ⟨b42, r43, S44, rfl, H51.gr, H51.boxNew' 0 rfl, (fun c hc => Nat.le_trans H24.gr.size (hS48 c hc)), ((H51.pick (B' := [boxR b42 132 (rdCh r43)]) (I' := [slI S44 encB 1 r43.bh r43.b]) [0] (by decide) rfl (List.forall_mem_cons.2 ⟨List.mem_of_getElem? (i := 0) rfl, fun _ h => (nomatch h)⟩)).rdStart), (hr50.trans (open_t (by assumption)).symm)⟩

end Go.Proofs.YthjdhfoeckfmbaaGreat
namespace Go.Proofs.YthjdhfoeckfmbaaGreat
open Go
set_option maxRecDepth 100000
set_option linter.unusedVariables false
set_option linter.unusedSimpArgs false
set_option linter.unusedSectionVars false
variable [DD]
set_option maxHeartbeats 1000000 in
theorem IndexFunc_Op (ha : SlH) (a : List OpS) (kfn : FuncId) (cfn : Array Value) (f : OpS → Bool) (w : World) (Sa : Sl (Old w) opCh 41 ha a w) (Kfn : callable Tryz.prog kfn = true) (Cfn : ∀ x ∈ a, ∀ w1, Ext w w1 → Calls Tryz.prog kfn (#[opV x] ++ cfn) w1 (Ret fun v w2 => v = .bool (f x) ∧ Ext w1 w2)) :
    Calls Tryz.prog 131 #[(slV ha a), (.func (.func kfn) #[] cfn)] w (Ret fun v w' => v = (.int .i64 (idxBy f a)) ∧ Ext w w') := by
 refine calls_W Tryz.func131 rfl Tryz.ntmps131 rfl ?_
 have H0 := Ctx.start w nob
 have H1 := H0.addSl _ Sa (fun b hb => ⟨hb, fun _ ho => (nomatch ho)⟩)
 have LSa := Sa.len
 refine W_seq (W_reg ?_)
 refine O_v rfl (R_assign (v := (.int .i64 0)) rfl ?_)
 refine O_nil (Then_n (W_seq (W_seq (W_reg ?_))))
 refine O_v rfl (R_move (v := (slV ha a)) rfl ?_)
 refine O_v rfl (R_len_slice (a := ha.a) (n := a.length) (c := ha.c) Tryz.underlying43 rfl ?_)
 refine O_v rfl (R_move (v := (.int .i64 0)) rfl ?_)
 refine O_nil (Then_n (W_block ?_))
 refine W_loop (fun m2 e3 w4 => ∃ (k : Nat), m2 = a.length - k ∧ (k ≤ a.length) ∧ (∀ i, i < k → f (nth a i) = false) ∧ ∃ eb5, e3 = envL [(0, (slV ha a)), (1, (.func (.func kfn) #[] cfn)), (7, (.int .i64 ((a.length : Nat) : Int))), (8, (.int .i64 ((k : Nat) : Int)))] eb5 ∧ Ctx w nob w4 [] [slI (Old w) opCh 41 ha a]) _ ⟨0, rfl, (by omega), (all_zero _), _, envL_self ⟨rfl, rfl, rfl, rfl, trivial⟩, H1⟩ ?_
 rintro m2 _ w4 ⟨k, rfl, hk, hn, eb5, rfl, H6⟩
 refine W_seq (W_reg ?_)
 refine O_v rfl (R_cmp (a := ((k : Nat) : Int)) (b := ((a.length : Nat) : Int)) (r := (decide (((k : Nat) : Int) < ((a.length : Nat) : Int)))) rfl rfl rfl ?_)
 refine O_nil (Then_n (W_seq ?_))
 refine W_cond (t := (decide (((k : Nat) : Int) < ((a.length : Nat) : Int)))) rfl (fun hc7 => ?_) (fun hc7 => ?_)
 ·have hc7 : (((k : Nat) : Int) < ((a.length : Nat) : Int)) := (of_decide_eq_true hc7)
  refine W_skip (Then_n (W_seq (W_block (W_seq (W_reg ?_)))))
  refine O_v rfl (R_move (v := (.int .i64 ((k : Nat) : Int))) rfl ?_)
  refine O_v rfl (R_assign (v := (.int .i64 ((k : Nat) : Int))) rfl ?_)
  refine O_nil (Then_n (W_seq (W_reg ?_)))
  refine O_v rfl (R_move (v := (.func (.func kfn) #[] cfn)) rfl ?_)
  refine O_v rfl (R_move (v := (slV ha a)) rfl ?_)
  refine O_v rfl (R_move (v := (.int .i64 ((k : Nat) : Int))) rfl ?_)
  refine O_v rfl (R_index_pure (H6.sl 0 rfl) (n := a.length) rfl (j := ((k : Nat) : Int)) (oo := (ha.o + k * 41)) Tryz.underlying43 Tryz.sizeOf72 rfl rfl (by omega) (by omega) rfl ?_)
  refine O_v rfl (R_loadA (cs := [[(.int .i64 ((nth a k).kind))], [(.int .i64 (((nth a k).tm).T))], [(.int .i64 (((nth a k).tm).R))], [(.int .i64 (((nth a k).node).T))], [(.int .i64 (((nth a k).node).R))], [(.int .i64 (((nth a k).par).T))], [(.int .i64 (((nth a k).par).R))], [(.string ((nth a k).name))], (idCells ((nth a k).data)), [(slV ((nth a k).oh) ((nth a k).over))]]) Tryz.isAgg72 Tryz.sizeOf72 rfl rfl ((Sl.elem (H6.sl 0 rfl) (i := k) (by omega) rfl).chunks 0 10 0 (ha.o + k * 41) _ rfl rfl rfl) ?_)
  refine O_v rfl (R_callV (vs := [(aggOf (opCh (nth a k)))]) Kfn rfl rfl ((Cfn _ (nth_mem (by omega)) w4 H6.gr).ret ?_))
  rintro _ w8 ⟨rfl, hx9⟩
  have H10 := H6.ext hx9
  refine O_nil (Then_n ?_)
  refine W_cond (t := (f (nth a k))) rfl (fun hc11 => ?_) (fun hc11 => ?_)
  ·have hc11 : (f (nth a k)) = true := hc11
   refine W_seq (W_reg ?_)
   refine O_v rfl (R_move (v := (.int .i64 ((k : Nat) : Int))) rfl ?_)
   refine O_v rfl (R_assign (v := (.int .i64 ((k : Nat) : Int))) rfl ?_)
   refine O_nil (Then_n (W_ret (Blk_r (Then_r (Then_r (Blk_r (Then_r ?_)))))))
   refine ret_1 (v := (.int .i64 ((k : Nat) : Int))) Tryz.results131 rfl ?_
   exact ⟨(by rw [idxBy_at hn (by omega) (by assumption)]), H10.gr⟩
  ·have hc11 : (f (nth a k)) = false := hc11
   refine W_skip (Blk_n (Then_n (W_reg ?_)))
   refine O_v rfl (R_arith (a := ((k : Nat) : Int)) (b := 1) (r0 := ((k : Nat) : Int) + 1) (r := ((k + 1 : Nat) : Int)) rfl rfl rfl (wrapN _ (by omega)) ?_)
   refine O_v rfl (R_move (v := (.int .i64 ((k + 1 : Nat) : Int))) rfl ?_)
   refine O_nil (Then_n ?_)
   refine ⟨_, ?_, (k + 1), rfl, (by omega), (all_succ hn (by assumption)), _, envL_self ⟨rfl, rfl, rfl, rfl, trivial⟩, H10⟩
   omega
 ·have hc7 : ¬ (((k : Nat) : Int) < ((a.length : Nat) : Int)) := (of_decide_eq_false hc7)
  refine W_exit (Then_x (Then_x (Blk_x (Then_n (W_seq (W_reg ?_))))))
  refine O_v rfl (R_assign (v := (.int .i64 (-1))) rfl ?_)
  refine O_nil (Then_n (W_ret ?_))
  refine ret_1 (v := (.int .i64 (-1))) Tryz.results131 rfl ?_
  exact ⟨(by rw [idxBy_none (by rwa [show a.length = k from by omega])]), H6.gr⟩

end Go.Proofs.YthjdhfoeckfmbaaGreat
namespace Go.Proofs.YthjdhfoeckfmbaaGreat
open Go
set_option maxRecDepth 100000
set_option linter.unusedVariables false
set_option linter.unusedSimpArgs false
set_option linter.unusedSectionVars false
variable [DD]
theorem ContainsFunc_Op_c131 : callable Tryz.prog 131 = true := by kernel_rfl
set_option maxHeartbeats 1000000 in
theorem ContainsFunc_Op (ha : SlH) (a : List OpS) (kfn : FuncId) (cfn : Array Value) (f : OpS → Bool) (w : World) (Sa : Sl (Old w) opCh 41 ha a w) (Kfn : callable Tryz.prog kfn = true) (Cfn : ∀ x ∈ a, ∀ w1, Ext w w1 → Calls Tryz.prog kfn (#[opV x] ++ cfn) w1 (Ret fun v w2 => v = .bool (f x) ∧ Ext w1 w2)) :
    Calls Tryz.prog 101 #[(slV ha a), (.func (.func kfn) #[] cfn)] w (Ret fun v w' => v = (.bool (a.any f)) ∧ Ext w w') := by
 refine calls_W Tryz.func101 rfl Tryz.ntmps101 rfl ?_
 have H0 := Ctx.start w nob
 have H1 := H0.addSl _ Sa (fun b hb => ⟨hb, fun _ ho => (nomatch ho)⟩)
 have LSa := Sa.len
 refine W_seq (W_reg ?_)
 refine O_v rfl (R_assign (v := (.bool false)) rfl ?_)
 refine O_nil (Then_n (W_seq (W_reg ?_)))
 refine O_v rfl (R_move (v := (slV ha a)) rfl ?_)
 refine O_v rfl (R_move (v := (.func (.func kfn) #[] cfn)) rfl ?_)
 refine O_v rfl (R_callL (vs := [(slV ha a), (.func (.func kfn) #[] cfn)]) ContainsFunc_Op_c131 rfl rfl ((IndexFunc_Op ha a kfn cfn f w (H1.slOld 0 rfl) Kfn (fun x hx w1 he => Cfn x hx w1 (H1.gr.trans he))).ret ?_))
 rintro _ w2 ⟨rfl, hx3⟩
 have H4 := H1.ext hx3
 refine O_v rfl (R_cmp (a := idxBy f a) (b := 0) (r := (decide (0 ≤ idxBy f a))) rfl rfl rfl ?_)
 refine O_v rfl (R_assign (v := (.bool (decide (0 ≤ idxBy f a)))) rfl ?_)
 refine O_nil (Then_n (W_ret ?_))
 refine ret_1 (v := (.bool (decide (0 ≤ idxBy f a)))) Tryz.results101 rfl ?_
 exact ⟨(boolIdx f a), H4.gr⟩

end Go.Proofs.YthjdhfoeckfmbaaGreat
namespace Go.Proofs.YthjdhfoeckfmbaaGreat
open Go
set_option maxRecDepth 100000
set_option linter.unusedVariables false
set_option linter.unusedSimpArgs false
set_option linter.unusedSectionVars false
variable [DD]
set_option maxHeartbeats 1000000 in
theorem Index_ID (hs : SlH) (s : List ID) (vv : ID) (w : World) (Ss : Sl (Old w) idCh 32 hs s w) :
    Calls Tryz.prog 130 #[(slV hs s), (aggOf (idCh vv))] w (Ret fun v w' => v = (.int .i64 (idxBy (fun (x : ID) => decide (vv = x)) s)) ∧ Ext w w') := by
 refine calls_W Tryz.func130 rfl Tryz.ntmps130 rfl ?_
 have H0 := Ctx.start w nob
 have H1 := H0.addSl _ Ss (fun b hb => ⟨hb, fun _ ho => (nomatch ho)⟩)
 have LSs := Ss.len
 refine W_seq (W_reg ?_)
 refine O_v rfl (C_box H1 [(idCells vv)] rfl ?_)
 intro b2 w3 hb4 hx5 H6
 refine O_v rfl (R_assign (v := (.int .i64 0)) rfl ?_)
 refine O_nil (Then_n (W_seq (W_seq (W_reg ?_))))
 refine O_v rfl (R_move (v := (slV hs s)) rfl ?_)
 refine O_v rfl (R_len_slice (a := hs.a) (n := s.length) (c := hs.c) Tryz.underlying39 rfl ?_)
 refine O_v rfl (R_move (v := (.int .i64 0)) rfl ?_)
 refine O_nil (Then_n (W_block ?_))
 refine W_loop (fun m7 e8 w9 => ∃ (k : Nat), m7 = s.length - k ∧ (k ≤ s.length) ∧ (∀ i, i < k → decide (vv = nth s i) = false) ∧ ∃ eb10, e8 = envL [(0, (slV hs s)), (3, (.pointer (some ⟨b2, 0, none⟩))), (7, (.int .i64 ((s.length : Nat) : Int))), (8, (.int .i64 ((k : Nat) : Int)))] eb10 ∧ Ctx w nob w9 [boxR b2 45 [(idCells vv)]] [slI (Old w) idCh 32 hs s]) _ ⟨0, rfl, (by omega), (all_zero _), _, envL_self ⟨rfl, rfl, rfl, rfl, trivial⟩, H6⟩ ?_
 rintro m7 _ w9 ⟨k, rfl, hk, hn, eb10, rfl, H11⟩
 refine W_seq (W_reg ?_)
 refine O_v rfl (R_cmp (a := ((k : Nat) : Int)) (b := ((s.length : Nat) : Int)) (r := (decide (((k : Nat) : Int) < ((s.length : Nat) : Int)))) rfl rfl rfl ?_)
 refine O_nil (Then_n (W_seq ?_))
 refine W_cond (t := (decide (((k : Nat) : Int) < ((s.length : Nat) : Int)))) rfl (fun hc12 => ?_) (fun hc12 => ?_)
 ·have hc12 : (((k : Nat) : Int) < ((s.length : Nat) : Int)) := (of_decide_eq_true hc12)
  refine W_skip (Then_n (W_seq (W_block (W_seq (W_reg ?_)))))
  refine O_v rfl (R_move (v := (.int .i64 ((k : Nat) : Int))) rfl ?_)
  refine O_v rfl (R_assign (v := (.int .i64 ((k : Nat) : Int))) rfl ?_)
  refine O_nil (Then_n (W_seq ?_))
  refine W_rgd TryzMixed [(0, .q 0), (1, .q 0), (2, .q 0), (3, .q 0), (4, .q 0), (5, .q 0)] (by kernel_rfl) ?_
  refine Lx_q (i := 0) rfl rfl _ (fun v13 hv14 => R_loadA (cs := [(idCells vv)]) Tryz.isAgg45 Tryz.sizeOf45 rfl rfl ((boxR_at ((H11.ext hv14).getOwn 0 rfl)).chunks 0 1 0 0 _ rfl rfl rfl) ⟨rfl, Gr.refl _ _⟩) ?_
  refine Lx_q (i := 1) rfl rfl _ (fun v15 hv16 => R_move (v := (slV hs s)) rfl ⟨rfl, Gr.refl _ _⟩) ?_
  refine Lx_q (i := 2) rfl rfl _ (fun v17 hv18 => R_move (v := (.int .i64 ((k : Nat) : Int))) rfl ⟨rfl, Gr.refl _ _⟩) ?_
  refine Lx_q (i := 3) rfl rfl _ (fun v19 hv20 => R_index_pure (H11.sl 0 rfl) (n := s.length) rfl (j := ((k : Nat) : Int)) (oo := (hs.o + k * 32)) Tryz.underlying39 Tryz.sizeOf45 rfl rfl (by omega) (by omega) rfl ⟨rfl, Gr.refl _ _⟩) ?_
  refine Lx_q (i := 4) rfl rfl _ (fun v21 hv22 => R_loadA (cs := [(idCells (nth s k))]) Tryz.isAgg45 Tryz.sizeOf45 rfl rfl ((Sl.elem ((H11.ext hv22).sl 0 rfl) (i := k) (by omega) rfl).chunks 0 1 0 (hs.o + k * 32) _ rfl rfl rfl) ⟨rfl, Gr.refl _ _⟩) ?_
  refine Lx_q (i := 5) rfl rfl _ (fun v23 hv24 => R_eqv (a := vv) (b := (nth s k)) eqv_ID45 rfl Tryz.eqGuardType45 rfl rfl ⟨rfl, Gr.refl _ _⟩) ?_
  refine Lx_nil (fun w25 hw26 => ?_)
  have H27 := H11.ext hw26
  refine Then_n ?_
  refine W_cond (t := (decide (vv = (nth s k)))) rfl (fun hc28 => ?_) (fun hc28 => ?_)
  ·have hc28 : (vv = (nth s k)) := (of_decide_eq_true hc28)
   refine W_seq (W_reg ?_)
   refine O_v rfl (R_move (v := (.int .i64 ((k : Nat) : Int))) rfl ?_)
   refine O_v rfl (R_assign (v := (.int .i64 ((k : Nat) : Int))) rfl ?_)
   refine O_nil (Then_n (W_ret (Blk_r (Then_r (Then_r (Blk_r (Then_r ?_)))))))
   refine ret_1 (v := (.int .i64 ((k : Nat) : Int))) Tryz.results130 rfl ?_
   exact ⟨(by rw [idxBy_at (f := fun (x : ID) => decide (vv = x)) hn (by omega) (decide_eq_true (by assumption))]), H27.gr⟩
  ·have hc28 : ¬ (vv = (nth s k)) := (of_decide_eq_false hc28)
   refine W_skip (Blk_n (Then_n (W_reg ?_)))
   refine O_v rfl (R_arith (a := ((k : Nat) : Int)) (b := 1) (r0 := ((k : Nat) : Int) + 1) (r := ((k + 1 : Nat) : Int)) rfl rfl rfl (wrapN _ (by omega)) ?_)
   refine O_v rfl (R_move (v := (.int .i64 ((k + 1 : Nat) : Int))) rfl ?_)
   refine O_nil (Then_n ?_)
   refine ⟨_, ?_, (k + 1), rfl, (by omega), (all_succ hn (decide_eq_false (by assumption))), _, envL_self ⟨rfl, rfl, rfl, rfl, trivial⟩, H27⟩
   omega
 ·have hc12 : ¬ (((k : Nat) : Int) < ((s.length : Nat) : Int)) := (of_decide_eq_false hc12)
  refine W_exit (Then_x (Then_x (Blk_x (Then_n (W_seq (W_reg ?_))))))
  refine O_v rfl (R_assign (v := (.int .i64 (-1))) rfl ?_)
  refine O_nil (Then_n (W_ret ?_))
  refine ret_1 (v := (.int .i64 (-1))) Tryz.results130 rfl ?_
  exact ⟨(by rw [idxBy_none (f := fun (x : ID) => decide (vv = x)) (by rwa [show s.length = k from by omega])]), H11.gr⟩

end Go.Proofs.YthjdhfoeckfmbaaGreat
namespace Go.Proofs.YthjdhfoeckfmbaaGreat
open Go
set_option maxRecDepth 100000
set_option linter.unusedVariables false
set_option linter.unusedSimpArgs false
set_option linter.unusedSectionVars false
variable [DD]
theorem Contains_ID_c130 : callable Tryz.prog 130 = true := by kernel_rfl
set_option maxHeartbeats 1000000 in
theorem Contains_ID (hs : SlH) (s : List ID) (vv : ID) (w : World) (Ss : Sl (Old w) idCh 32 hs s w) :
    Calls Tryz.prog 98 #[(slV hs s), (aggOf (idCh vv))] w (Ret fun v w' => v = (.bool (s.any (fun (x : ID) => decide (vv = x)))) ∧ Ext w w') := by
 refine calls_W Tryz.func98 rfl Tryz.ntmps98 rfl ?_
 have H0 := Ctx.start w nob
 have H1 := H0.addSl _ Ss (fun b hb => ⟨hb, fun _ ho => (nomatch ho)⟩)
 have LSs := Ss.len
 refine W_seq (W_reg ?_)
 refine O_v rfl (C_box H1 [(idCells vv)] rfl ?_)
 intro b2 w3 hb4 hx5 H6
 refine O_v rfl (R_assign (v := (.bool false)) rfl ?_)
 refine O_nil (Then_n (W_seq (W_reg ?_)))
 refine O_v rfl (R_move (v := (slV hs s)) rfl ?_)
 refine O_v rfl (R_loadA (cs := [(idCells vv)]) Tryz.isAgg45 Tryz.sizeOf45 rfl rfl ((boxR_at (H6.getOwn 0 rfl)).chunks 0 1 0 0 _ rfl rfl rfl) ?_)
 refine O_v rfl (R_callL (vs := [(slV hs s), (aggOf (idCh vv))]) Contains_ID_c130 rfl rfl ((Index_ID hs s vv w3 (H6.slOld 0 rfl)).ret ?_))
 rintro _ w7 ⟨rfl, hx8⟩
 have H9 := H6.ext hx8
 refine O_v rfl (R_cmp (a := idxBy (fun (x : ID) => decide (vv = x)) s) (b := 0) (r := (decide (0 ≤ idxBy (fun (x : ID) => decide (vv = x)) s))) rfl rfl rfl ?_)
 refine O_v rfl (R_assign (v := (.bool (decide (0 ≤ idxBy (fun (x : ID) => decide (vv = x)) s)))) rfl ?_)
 refine O_nil (Then_n (W_ret ?_))
 refine ret_1 (v := (.bool (decide (0 ≤ idxBy (fun (x : ID) => decide (vv = x)) s)))) Tryz.results98 rfl ?_
 exact ⟨(boolIdx _ s), H9.gr⟩

end Go.Proofs.YthjdhfoeckfmbaaGreat
namespace Go.Proofs.YthjdhfoeckfmbaaGreat
open Go
set_option maxRecDepth 100000
set_option linter.unusedVariables false
set_option linter.unusedSimpArgs false
set_option linter.unusedSectionVars false
variable [DD]
set_option maxHeartbeats 1000000 in
theorem stamp_Right (s : Stamp) (w : World) :
    Calls Tryz.prog 100 #[(aggOf (stampCh s))] w (Ret fun v w' => v = (.bool (stRight s)) ∧ Ext w w') := by
 refine calls_W Tryz.func100 rfl Tryz.ntmps100 rfl ?_
 have H0 := Ctx.start w nob
 refine W_seq (W_reg ?_)
 refine O_v rfl (C_box H0 [[(.int .i64 s.T)], [(.int .i64 s.R)]] rfl ?_)
 intro b1 w2 hb3 hx4 H5
 refine O_v rfl (R_assign (v := (.bool false)) rfl ?_)
 refine O_nil (Then_n (W_seq ?_))
 refine W_rg [(0, .q 0), (1, .q 0), (2, .q 0), (3, .q 0), (4, .q 0), (5, .q 0), (6, .q 0), (7, .q 0), (8, .q 0), (9, .q 0), (10, .q 0), (11, .q 0), (12, .q 0), (13, .q 0), (14, .q 0), (15, .q 0), (16, .q 0), (17, .q 0), (18, .q 0)] (by kernel_rfl) ?_
 refine Lx_q (i := 0) rfl rfl _ (fun v6 hv7 => R_fieldAddr (off := 0) (oo := 0) Tryz.underlying69 rfl rfl Tryz.sizeOf2 rfl rfl ⟨rfl, Gr.refl _ _⟩) ?_
 refine Lx_q (i := 1) rfl rfl _ (fun v8 hv9 => R_load1 (v := (.int .i64 s.T)) Tryz.isAgg2 rfl ((boxR_at ((H5.ext hv9).getOwn 0 rfl)).chunks 0 1 0 0 _ rfl rfl rfl) ⟨rfl, Gr.refl _ _⟩) ?_
 refine Lx_q (i := 2) rfl rfl _ (fun v10 hv11 => R_cmp (a := s.T) (b := 1) (r := (decide (1 ≤ s.T))) rfl rfl rfl ⟨rfl, Gr.refl _ _⟩) ?_
 refine Lx_q (i := 3) rfl rfl _ (fun v12 hv13 => R_move (v := (.bool (decide (1 ≤ s.T)))) rfl ⟨rfl, Gr.refl _ _⟩) ?_
 refine Lx_qg (i := 4) true (decide (1 ≤ s.T)) rfl rfl rfl rfl rfl (decide (1 ≤ s.T)) ga_t _ (fun hA v14 hv15 => R_fieldAddr (off := 0) (oo := 0) Tryz.underlying69 rfl rfl Tryz.sizeOf2 rfl rfl ⟨rfl, Gr.refl _ _⟩) ?_
 refine Lx_qg (i := 5) true (decide (1 ≤ s.T)) rfl rfl rfl rfl rfl (decide (1 ≤ s.T)) ga_t _ (fun hA v16 hv17 => R_load1 (v := (.int .i64 s.T)) Tryz.isAgg2 (gv_t hA) ((boxR_at ((H5.ext hv17).getOwn 0 rfl)).chunks 0 1 0 0 _ rfl rfl rfl) ⟨rfl, Gr.refl _ _⟩) ?_
 refine Lx_qg (i := 6) true (decide (1 ≤ s.T)) rfl rfl rfl rfl rfl (decide (1 ≤ s.T)) ga_t _ (fun hA v18 hv19 => R_cmp (a := s.T) (b := 1099511627776) (r := (decide (s.T ≤ 1099511627776))) (gv_t hA) rfl rfl ⟨rfl, Gr.refl _ _⟩) ?_
 refine Lx_q (i := 7) rfl rfl _ (fun v20 hv21 => R_pick (t := (decide (1 ≤ s.T))) (v := (.bool ((decide (1 ≤ s.T)) && (decide (s.T ≤ 1099511627776))))) rfl pk_and ⟨rfl, Gr.refl _ _⟩) ?_
 refine Lx_q (i := 8) rfl rfl _ (fun v22 hv23 => R_move (v := (.bool ((decide (1 ≤ s.T)) && (decide (s.T ≤ 1099511627776))))) rfl ⟨rfl, Gr.refl _ _⟩) ?_
 refine Lx_qg (i := 9) true ((decide (1 ≤ s.T)) && (decide (s.T ≤ 1099511627776))) rfl rfl rfl rfl rfl ((decide (1 ≤ s.T)) && (decide (s.T ≤ 1099511627776))) ga_t _ (fun hA v24 hv25 => R_fieldAddr (off := 1) (oo := 1) Tryz.underlying69 rfl rfl Tryz.sizeOf3 rfl rfl ⟨rfl, Gr.refl _ _⟩) ?_
 refine Lx_qg (i := 10) true ((decide (1 ≤ s.T)) && (decide (s.T ≤ 1099511627776))) rfl rfl rfl rfl rfl ((decide (1 ≤ s.T)) && (decide (s.T ≤ 1099511627776))) ga_t _ (fun hA v26 hv27 => R_load1 (v := (.int .i64 s.R)) Tryz.isAgg3 (gv_t hA) ((boxR_at ((H5.ext hv27).getOwn 0 rfl)).chunks 1 1 1 1 _ rfl rfl rfl) ⟨rfl, Gr.refl _ _⟩) ?_
 refine Lx_qg (i := 11) true ((decide (1 ≤ s.T)) && (decide (s.T ≤ 1099511627776))) rfl rfl rfl rfl rfl ((decide (1 ≤ s.T)) && (decide (s.T ≤ 1099511627776))) ga_t _ (fun hA v28 hv29 => R_cmp (a := s.R) (b := 1) (r := (decide (1 ≤ s.R))) (gv_t hA) rfl rfl ⟨rfl, Gr.refl _ _⟩) ?_
 refine Lx_q (i := 12) rfl rfl _ (fun v30 hv31 => R_pick (t := ((decide (1 ≤ s.T)) && (decide (s.T ≤ 1099511627776)))) (v := (.bool (((decide (1 ≤ s.T)) && (decide (s.T ≤ 1099511627776))) && (decide (1 ≤ s.R))))) rfl pk_and ⟨rfl, Gr.refl _ _⟩) ?_
 refine Lx_q (i := 13) rfl rfl _ (fun v32 hv33 => R_move (v := (.bool (((decide (1 ≤ s.T)) && (decide (s.T ≤ 1099511627776))) && (decide (1 ≤ s.R))))) rfl ⟨rfl, Gr.refl _ _⟩) ?_
 refine Lx_qg (i := 14) true (((decide (1 ≤ s.T)) && (decide (s.T ≤ 1099511627776))) && (decide (1 ≤ s.R))) rfl rfl rfl rfl rfl (((decide (1 ≤ s.T)) && (decide (s.T ≤ 1099511627776))) && (decide (1 ≤ s.R))) ga_t _ (fun hA v34 hv35 => R_fieldAddr (off := 1) (oo := 1) Tryz.underlying69 rfl rfl Tryz.sizeOf3 rfl rfl ⟨rfl, Gr.refl _ _⟩) ?_
 refine Lx_qg (i := 15) true (((decide (1 ≤ s.T)) && (decide (s.T ≤ 1099511627776))) && (decide (1 ≤ s.R))) rfl rfl rfl rfl rfl (((decide (1 ≤ s.T)) && (decide (s.T ≤ 1099511627776))) && (decide (1 ≤ s.R))) ga_t _ (fun hA v36 hv37 => R_load1 (v := (.int .i64 s.R)) Tryz.isAgg3 (gv_t hA) ((boxR_at ((H5.ext hv37).getOwn 0 rfl)).chunks 1 1 1 1 _ rfl rfl rfl) ⟨rfl, Gr.refl _ _⟩) ?_
 refine Lx_qg (i := 16) true (((decide (1 ≤ s.T)) && (decide (s.T ≤ 1099511627776))) && (decide (1 ≤ s.R))) rfl rfl rfl rfl rfl (((decide (1 ≤ s.T)) && (decide (s.T ≤ 1099511627776))) && (decide (1 ≤ s.R))) ga_t _ (fun hA v38 hv39 => R_cmp (a := s.R) (b := 65536) (r := (decide (s.R ≤ 65536))) (gv_t hA) rfl rfl ⟨rfl, Gr.refl _ _⟩) ?_
 refine Lx_q (i := 17) rfl rfl _ (fun v40 hv41 => R_pick (t := (((decide (1 ≤ s.T)) && (decide (s.T ≤ 1099511627776))) && (decide (1 ≤ s.R)))) (v := (.bool ((((decide (1 ≤ s.T)) && (decide (s.T ≤ 1099511627776))) && (decide (1 ≤ s.R))) && (decide (s.R ≤ 65536))))) rfl pk_and ⟨rfl, Gr.refl _ _⟩) ?_
 refine Lx_q (i := 18) rfl rfl _ (fun v42 hv43 => R_assign (v := (.bool ((((decide (1 ≤ s.T)) && (decide (s.T ≤ 1099511627776))) && (decide (1 ≤ s.R))) && (decide (s.R ≤ 65536))))) rfl ⟨rfl, Gr.refl _ _⟩) ?_
 refine Lx_nil (fun w44 hw45 => ?_)
 have H46 := H5.ext hw45
 refine Then_n (W_ret ?_)
 refine ret_1 (v := (.bool ((((decide (1 ≤ s.T)) && (decide (s.T ≤ 1099511627776))) && (decide (1 ≤ s.R))) && (decide (s.R ≤ 65536))))) Tryz.results100 rfl ?_
 exact ⟨(boolE (by simp only [stRight, Bool.and_eq_true, Bool.or_eq_true, Bool.not_eq_true, decide_eq_true_eq]; omega)), H46.gr⟩

end Go.Proofs.YthjdhfoeckfmbaaGreat
namespace Go.Proofs.YthjdhfoeckfmbaaGreat
open Go
set_option maxRecDepth 100000
set_option linter.unusedVariables false
set_option linter.unusedSimpArgs false
set_option linter.unusedSectionVars false
variable [DD]
set_option maxHeartbeats 1000000 in
theorem isNaN_i64 (x : Int) (w : World) :
    Calls Tryz.prog 133 #[(.int .i64 x)] w (Ret fun v w' => v = (.bool false) ∧ Ext w w') := by
 refine calls_W Tryz.func133 rfl Tryz.ntmps133 rfl ?_
 have H0 := Ctx.start w nob
 refine W_seq (W_reg ?_)
 refine O_v rfl (R_assign (v := (.bool false)) rfl ?_)
 refine O_nil (Then_n (W_seq (W_reg ?_)))
 refine O_v rfl (R_move (v := (.int .i64 x)) rfl ?_)
 refine O_v rfl (R_move (v := (.int .i64 x)) rfl ?_)
 refine O_v rfl (R_cmp (a := x) (b := x) (r := (!(decide (x = x)))) rfl rfl rfl ?_)
 refine O_v rfl (R_assign (v := (.bool (!(decide (x = x))))) rfl ?_)
 refine O_nil (Then_n (W_ret ?_))
 refine ret_1 (v := (.bool (!(decide (x = x))))) Tryz.results133 rfl ?_
 exact ⟨(by simp), H0.gr⟩

end Go.Proofs.YthjdhfoeckfmbaaGreat
namespace Go.Proofs.YthjdhfoeckfmbaaGreat
open Go
set_option maxRecDepth 100000
set_option linter.unusedVariables false
set_option linter.unusedSimpArgs false
set_option linter.unusedSectionVars false
variable [DD]
theorem Compare_i64_c133 : callable Tryz.prog 133 = true := by kernel_rfl
set_option maxHeartbeats 1000000 in
theorem Compare_i64 (x : Int) (y : Int) (w : World) :
    Calls Tryz.prog 115 #[(.int .i64 x), (.int .i64 y)] w (Ret fun v w' => v = (.int .i64 (cmpInt x y)) ∧ Ext w w') := by
 refine calls_W Tryz.func115 rfl Tryz.ntmps115 rfl ?_
 have H0 := Ctx.start w nob
 refine W_seq (W_reg ?_)
 refine O_v rfl (R_assign (v := (.int .i64 0)) rfl ?_)
 refine O_nil (Then_n (W_seq (W_reg ?_)))
 refine O_v rfl (R_move (v := (.int .i64 x)) rfl ?_)
 refine O_v rfl (R_callL (vs := [(.int .i64 x)]) Compare_i64_c133 rfl rfl ((isNaN_i64 x w ).ret ?_))
 rintro _ w1 ⟨rfl, hx2⟩
 have H3 := H0.ext hx2
 refine O_v rfl (R_assign (v := (.bool false)) rfl ?_)
 refine O_nil (Then_n (W_seq (W_reg ?_)))
 refine O_v rfl (R_move (v := (.int .i64 y)) rfl ?_)
 refine O_v rfl (R_callL (vs := [(.int .i64 y)]) Compare_i64_c133 rfl rfl ((isNaN_i64 y w1 ).ret ?_))
 rintro _ w4 ⟨rfl, hx5⟩
 have H6 := H3.ext hx5
 refine O_v rfl (R_assign (v := (.bool false)) rfl ?_)
 refine O_nil (Then_n (W_seq (W_seq (W_reg ?_))))
 refine O_v rfl (R_move (v := (.bool false)) rfl ?_)
 refine O_nil (Then_n ?_)
 refine W_cond_f rfl ?_
 refine W_skip (Then_n (W_seq (W_seq (W_reg ?_))))
 refine O_v rfl (R_move (v := (.bool false)) rfl ?_)
 refine O_nil (Then_n ?_)
 refine W_cond_f rfl ?_
 refine W_skip (Then_n (W_seq (W_seq (W_reg ?_))))
 refine O_v rfl (R_move (v := (.int .i64 x)) rfl ?_)
 refine O_v rfl (R_move (v := (.int .i64 y)) rfl ?_)
 refine O_v rfl (R_cmp (a := x) (b := y) (r := (decide (x < y))) rfl rfl rfl ?_)
 refine O_nil (Then_n ?_)
 refine W_cond (t := (decide (x < y))) rfl (fun hc7 => ?_) (fun hc7 => ?_)
 ·have hc7 : (x < y) := (of_decide_eq_true hc7)
  refine W_seq (W_reg ?_)
  refine O_v rfl (R_assign (v := (.int .i64 (-1))) rfl ?_)
  refine O_nil (Then_n (W_ret (Then_r ?_)))
  refine ret_1 (v := (.int .i64 (-1))) Tryz.results115 rfl ?_
  exact ⟨(by rw [cmpInt_lt (by assumption)]), H6.gr⟩
 ·have hc7 : ¬ (x < y) := (of_decide_eq_false hc7)
  refine W_skip (Then_n (W_seq (W_seq (W_reg ?_))))
  refine O_v rfl (R_move (v := (.int .i64 x)) rfl ?_)
  refine O_v rfl (R_move (v := (.int .i64 y)) rfl ?_)
  refine O_v rfl (R_cmp (a := x) (b := y) (r := (decide (y < x))) rfl rfl rfl ?_)
  refine O_nil (Then_n ?_)
  refine W_cond (t := (decide (y < x))) rfl (fun hc8 => ?_) (fun hc8 => ?_)
  ·have hc8 : (y < x) := (of_decide_eq_true hc8)
   refine W_seq (W_reg ?_)
   refine O_v rfl (R_assign (v := (.int .i64 1)) rfl ?_)
   refine O_nil (Then_n (W_ret (Then_r ?_)))
   refine ret_1 (v := (.int .i64 1)) Tryz.results115 rfl ?_
   exact ⟨(by rw [cmpInt_gt (by assumption) (by assumption)]), H6.gr⟩
  ·have hc8 : ¬ (y < x) := (of_decide_eq_false hc8)
   refine W_skip (Then_n (W_seq (W_reg ?_)))
   refine O_v rfl (R_assign (v := (.int .i64 0)) rfl ?_)
   refine O_nil (Then_n (W_ret ?_))
   refine ret_1 (v := (.int .i64 0)) Tryz.results115 rfl ?_
   exact ⟨(by rw [cmpInt_eq (by assumption) (by assumption)]), H6.gr⟩

end Go.Proofs.YthjdhfoeckfmbaaGreat
namespace Go.Proofs.YthjdhfoeckfmbaaGreat
open Go
set_option maxRecDepth 100000
set_option linter.unusedVariables false
set_option linter.unusedSimpArgs false
set_option linter.unusedSectionVars false
variable [DD]
set_option maxHeartbeats 1000000 in
theorem isNaN_int (x : Int) (w : World) :
    Calls Tryz.prog 134 #[(.int .i64 x)] w (Ret fun v w' => v = (.bool false) ∧ Ext w w') := by
 refine calls_W Tryz.func134 rfl Tryz.ntmps134 rfl ?_
 have H0 := Ctx.start w nob
 refine W_seq (W_reg ?_)
 refine O_v rfl (R_assign (v := (.bool false)) rfl ?_)
 refine O_nil (Then_n (W_seq (W_reg ?_)))
 refine O_v rfl (R_move (v := (.int .i64 x)) rfl ?_)
 refine O_v rfl (R_move (v := (.int .i64 x)) rfl ?_)
 refine O_v rfl (R_cmp (a := x) (b := x) (r := (!(decide (x = x)))) rfl rfl rfl ?_)
 refine O_v rfl (R_assign (v := (.bool (!(decide (x = x))))) rfl ?_)
 refine O_nil (Then_n (W_ret ?_))
 refine ret_1 (v := (.bool (!(decide (x = x))))) Tryz.results134 rfl ?_
 exact ⟨(by simp), H0.gr⟩

end Go.Proofs.YthjdhfoeckfmbaaGreat
namespace Go.Proofs.YthjdhfoeckfmbaaGreat
open Go
set_option maxRecDepth 100000
set_option linter.unusedVariables false
set_option linter.unusedSimpArgs false
set_option linter.unusedSectionVars false
variable [DD]
theorem Compare_int_c134 : callable Tryz.prog 134 = true := by kernel_rfl
set_option maxHeartbeats 1000000 in
theorem Compare_int (x : Int) (y : Int) (w : World) :
    Calls Tryz.prog 116 #[(.int .i64 x), (.int .i64 y)] w (Ret fun v w' => v = (.int .i64 (cmpInt x y)) ∧ Ext w w') := by
 refine calls_W Tryz.func116 rfl Tryz.ntmps116 rfl ?_
 have H0 := Ctx.start w nob
 refine W_seq (W_reg ?_)
 refine O_v rfl (R_assign (v := (.int .i64 0)) rfl ?_)
 refine O_nil (Then_n (W_seq (W_reg ?_)))
 refine O_v rfl (R_move (v := (.int .i64 x)) rfl ?_)
 refine O_v rfl (R_callL (vs := [(.int .i64 x)]) Compare_int_c134 rfl rfl ((isNaN_int x w ).ret ?_))
 rintro _ w1 ⟨rfl, hx2⟩
 have H3 := H0.ext hx2
 refine O_v rfl (R_assign (v := (.bool false)) rfl ?_)
 refine O_nil (Then_n (W_seq (W_reg ?_)))
 refine O_v rfl (R_move (v := (.int .i64 y)) rfl ?_)
 refine O_v rfl (R_callL (vs := [(.int .i64 y)]) Compare_int_c134 rfl rfl ((isNaN_int y w1 ).ret ?_))
 rintro _ w4 ⟨rfl, hx5⟩
 have H6 := H3.ext hx5
 refine O_v rfl (R_assign (v := (.bool false)) rfl ?_)
 refine O_nil (Then_n (W_seq (W_seq (W_reg ?_))))
 refine O_v rfl (R_move (v := (.bool false)) rfl ?_)
 refine O_nil (Then_n ?_)
 refine W_cond_f rfl ?_
 refine W_skip (Then_n (W_seq (W_seq (W_reg ?_))))
 refine O_v rfl (R_move (v := (.bool false)) rfl ?_)
 refine O_nil (Then_n ?_)
 refine W_cond_f rfl ?_
 refine W_skip (Then_n (W_seq (W_seq (W_reg ?_))))
 refine O_v rfl (R_move (v := (.int .i64 x)) rfl ?_)
 refine O_v rfl (R_move (v := (.int .i64 y)) rfl ?_)
 refine O_v rfl (R_cmp (a := x) (b := y) (r := (decide (x < y))) rfl rfl rfl ?_)
 refine O_nil (Then_n ?_)
 refine W_cond (t := (decide (x < y))) rfl (fun hc7 => ?_) (fun hc7 => ?_)
 ·have hc7 : (x < y) := (of_decide_eq_true hc7)
  refine W_seq (W_reg ?_)
  refine O_v rfl (R_assign (v := (.int .i64 (-1))) rfl ?_)
  refine O_nil (Then_n (W_ret (Then_r ?_)))
  refine ret_1 (v := (.int .i64 (-1))) Tryz.results116 rfl ?_
  exact ⟨(by rw [cmpInt_lt (by assumption)]), H6.gr⟩
 ·have hc7 : ¬ (x < y) := (of_decide_eq_false hc7)
  refine W_skip (Then_n (W_seq (W_seq (W_reg ?_))))
  refine O_v rfl (R_move (v := (.int .i64 x)) rfl ?_)
  refine O_v rfl (R_move (v := (.int .i64 y)) rfl ?_)
  refine O_v rfl (R_cmp (a := x) (b := y) (r := (decide (y < x))) rfl rfl rfl ?_)
  refine O_nil (Then_n ?_)
  refine W_cond (t := (decide (y < x))) rfl (fun hc8 => ?_) (fun hc8 => ?_)
  ·have hc8 : (y < x) := (of_decide_eq_true hc8)
   refine W_seq (W_reg ?_)
   refine O_v rfl (R_assign (v := (.int .i64 1)) rfl ?_)
   refine O_nil (Then_n (W_ret (Then_r ?_)))
   refine ret_1 (v := (.int .i64 1)) Tryz.results116 rfl ?_
   exact ⟨(by rw [cmpInt_gt (by assumption) (by assumption)]), H6.gr⟩
  ·have hc8 : ¬ (y < x) := (of_decide_eq_false hc8)
   refine W_skip (Then_n (W_seq (W_reg ?_)))
   refine O_v rfl (R_assign (v := (.int .i64 0)) rfl ?_)
   refine O_nil (Then_n (W_ret ?_))
   refine ret_1 (v := (.int .i64 0)) Tryz.results116 rfl ?_
   exact ⟨(by rw [cmpInt_eq (by assumption) (by assumption)]), H6.gr⟩

end Go.Proofs.YthjdhfoeckfmbaaGreat
namespace Go.Proofs.YthjdhfoeckfmbaaGreat
open Go
set_option maxRecDepth 100000
set_option linter.unusedVariables false
set_option linter.unusedSimpArgs false
set_option linter.unusedSectionVars false
variable [DD]
set_option maxHeartbeats 1000000 in
theorem cmp_Or (hvals : SlH) (vals : List Int) (w : World) (Svals : Sl (Old w) encI 1 hvals vals w) :
    Calls Tryz.prog 114 #[(slV hvals vals)] w (Ret fun v w' => v = (.int .i64 (orInt vals)) ∧ Ext w w') := by
 refine calls_W Tryz.func114 rfl Tryz.ntmps114 rfl ?_
 have H0 := Ctx.start w nob
 have H1 := H0.addSl _ Svals (fun b hb => ⟨hb, fun _ ho => (nomatch ho)⟩)
 have LSvals := Svals.len
 refine W_seq (W_reg ?_)
 refine O_v rfl (R_assign (v := (.int .i64 0)) rfl ?_)
 refine O_nil (Then_n (W_seq (W_reg ?_)))
 refine O_v rfl (R_assign (v := (.int .i64 0)) rfl ?_)
 refine O_nil (Then_n (W_seq (W_seq (W_reg ?_))))
 refine O_v rfl (R_move (v := (slV hvals vals)) rfl ?_)
 refine O_v rfl (R_len_slice (a := hvals.a) (n := vals.length) (c := hvals.c) Tryz.underlying167 rfl ?_)
 refine O_v rfl (R_move (v := (.int .i64 0)) rfl ?_)
 refine O_nil (Then_n (W_block ?_))
 refine W_loop (fun m2 e3 w4 => ∃ (k : Nat), m2 = vals.length - k ∧ (k ≤ vals.length) ∧ (∀ i, i < k → nth vals i = 0) ∧ ∃ eb5, e3 = envL [(3, (.int .i64 0)), (6, (slV hvals vals)), (7, (.int .i64 ((vals.length : Nat) : Int))), (8, (.int .i64 ((k : Nat) : Int)))] eb5 ∧ Ctx w nob w4 [] [slI (Old w) encI 1 hvals vals]) _ ⟨0, rfl, (by omega), (all_zero _), _, envL_self ⟨rfl, rfl, rfl, rfl, trivial⟩, H1⟩ ?_
 rintro m2 _ w4 ⟨k, rfl, hk, hn, eb5, rfl, H6⟩
 refine W_seq (W_reg ?_)
 refine O_v rfl (R_cmp (a := ((k : Nat) : Int)) (b := ((vals.length : Nat) : Int)) (r := (decide (((k : Nat) : Int) < ((vals.length : Nat) : Int)))) rfl rfl rfl ?_)
 refine O_nil (Then_n (W_seq ?_))
 refine W_cond (t := (decide (((k : Nat) : Int) < ((vals.length : Nat) : Int)))) rfl (fun hc7 => ?_) (fun hc7 => ?_)
 ·have hc7 : (((k : Nat) : Int) < ((vals.length : Nat) : Int)) := (of_decide_eq_true hc7)
  refine W_skip (Then_n (W_seq (W_block (W_seq (W_reg ?_)))))
  refine O_v rfl (R_index_pure (H6.sl 0 rfl) (n := vals.length) rfl (j := ((k : Nat) : Int)) (oo := (hvals.o + k * 1)) Tryz.underlying167 Tryz.sizeOf3 rfl rfl (by omega) (by omega) rfl ?_)
  refine O_v rfl (R_load1 (v := (.int .i64 (nth vals k))) Tryz.isAgg3 rfl ((Sl.elem (H6.sl 0 rfl) (i := k) (by omega) rfl).chunks 0 1 0 (hvals.o + k * 1) _ rfl rfl rfl) ?_)
  refine O_v rfl (R_assign (v := (.int .i64 (nth vals k))) rfl ?_)
  refine O_nil (Then_n (W_seq (W_reg ?_)))
  refine O_v rfl (R_move (v := (.int .i64 (nth vals k))) rfl ?_)
  refine O_v rfl (R_move (v := (.int .i64 0)) rfl ?_)
  refine O_v rfl (R_cmp (a := (nth vals k)) (b := 0) (r := (!(decide ((nth vals k) = 0)))) rfl rfl rfl ?_)
  refine O_nil (Then_n ?_)
  refine W_cond (t := (!(decide ((nth vals k) = 0)))) rfl (fun hc8 => ?_) (fun hc8 => ?_)
  ·have hc8 : ¬ ((nth vals k) = 0) := (of_decide_eq_false (notT hc8))
   refine W_seq (W_reg ?_)
   refine O_v rfl (R_move (v := (.int .i64 (nth vals k))) rfl ?_)
   refine O_v rfl (R_assign (v := (.int .i64 (nth vals k))) rfl ?_)
   refine O_nil (Then_n (W_ret (Blk_r (Then_r (Then_r (Blk_r (Then_r ?_)))))))
   refine ret_1 (v := (.int .i64 (nth vals k))) Tryz.results114 rfl ?_
   exact ⟨(by rw [orInt_at hn (by omega) (by assumption)]), H6.gr⟩
  ·have hc8 : ((nth vals k) = 0) := (of_decide_eq_true (notF hc8))
   refine W_skip (Blk_n (Then_n (W_reg ?_)))
   refine O_v rfl (R_arith (a := ((k : Nat) : Int)) (b := 1) (r0 := ((k : Nat) : Int) + 1) (r := ((k + 1 : Nat) : Int)) rfl rfl rfl (wrapN _ (by omega)) ?_)
   refine O_v rfl (R_move (v := (.int .i64 ((k + 1 : Nat) : Int))) rfl ?_)
   refine O_nil (Then_n ?_)
   refine ⟨_, ?_, (k + 1), rfl, (by omega), (all_succ hn (by assumption)), _, envL_self ⟨rfl, rfl, rfl, rfl, trivial⟩, H6⟩
   omega
 ·have hc7 : ¬ (((k : Nat) : Int) < ((vals.length : Nat) : Int)) := (of_decide_eq_false hc7)
  refine W_exit (Then_x (Then_x (Blk_x (Then_n (W_seq (W_reg ?_))))))
  refine O_v rfl (R_move (v := (.int .i64 0)) rfl ?_)
  refine O_v rfl (R_assign (v := (.int .i64 0)) rfl ?_)
  refine O_nil (Then_n (W_ret ?_))
  refine ret_1 (v := (.int .i64 0)) Tryz.results114 rfl ?_
  exact ⟨(by rw [orInt_none (by rwa [show vals.length = k from by omega])]), H6.gr⟩

end Go.Proofs.YthjdhfoeckfmbaaGreat
namespace Go.Proofs.YthjdhfoeckfmbaaGreat
open Go
set_option maxRecDepth 100000
set_option linter.unusedVariables false
set_option linter.unusedSimpArgs false
set_option linter.unusedSectionVars false
variable [DD]
theorem stamp_Cmp_c114 : callable Tryz.prog 114 = true := by kernel_rfl
theorem stamp_Cmp_c115 : callable Tryz.prog 115 = true := by kernel_rfl
theorem stamp_Cmp_c116 : callable Tryz.prog 116 = true := by kernel_rfl
set_option maxHeartbeats 1000000 in
theorem stamp_Cmp (a : Stamp) (b : Stamp) (w : World) :
    Calls Tryz.prog 84 #[(aggOf (stampCh a)), (aggOf (stampCh b))] w (Ret fun v w' => v = (.int .i64 (cmpSt a b)) ∧ Ext w w') := by
 refine calls_W Tryz.func84 rfl Tryz.ntmps84 rfl ?_
 have H0 := Ctx.start w nob
 refine W_seq (W_reg ?_)
 refine O_v rfl (C_box H0 [[(.int .i64 a.T)], [(.int .i64 a.R)]] rfl ?_)
 intro b1 w2 hb3 hx4 H5
 refine O_v rfl (C_box H5 [[(.int .i64 b.T)], [(.int .i64 b.R)]] rfl ?_)
 intro b6 w7 hb8 hx9 H10
 refine O_v rfl (R_assign (v := (.int .i64 0)) rfl ?_)
 refine O_nil (Then_n (W_seq ?_))
 refine W_rgd TryzMixed [(0, .q 0), (1, .q 0), (2, .q 0), (3, .q 0), (4, .q 0), (5, .q 0), (6, .q 0), (7, .q 0), (8, .q 0), (9, .q 0), (10, .c 0), (11, .q 0), (12, .q 0)] (by kernel_rfl) ?_
 refine Lx_q (i := 0) rfl rfl _ (fun v11 hv12 => R_fieldAddr (off := 0) (oo := 0) Tryz.underlying69 rfl rfl Tryz.sizeOf2 rfl rfl ⟨rfl, Gr.refl _ _⟩) ?_
 refine Lx_q (i := 1) rfl rfl _ (fun v13 hv14 => R_load1 (v := (.int .i64 a.T)) Tryz.isAgg2 rfl ((boxR_at ((H10.ext hv14).getOwn 1 rfl)).chunks 0 1 0 0 _ rfl rfl rfl) ⟨rfl, Gr.refl _ _⟩) ?_
 refine Lx_q (i := 2) rfl rfl _ (fun v15 hv16 => R_fieldAddr (off := 0) (oo := 0) Tryz.underlying69 rfl rfl Tryz.sizeOf2 rfl rfl ⟨rfl, Gr.refl _ _⟩) ?_
 refine Lx_q (i := 3) rfl rfl _ (fun v17 hv18 => R_load1 (v := (.int .i64 b.T)) Tryz.isAgg2 rfl ((boxR_at ((H10.ext hv18).getOwn 0 rfl)).chunks 0 1 0 0 _ rfl rfl rfl) ⟨rfl, Gr.refl _ _⟩) ?_
 refine Lx_q (i := 4) rfl rfl (.int .i64 (cmpInt a.T b.T)) (fun v19 hv20 => R_callL (vs := [(.int .i64 a.T), (.int .i64 b.T)]) stamp_Cmp_c115 rfl rfl (Compare_i64 a.T b.T v19 )) ?_
 refine Lx_q (i := 5) rfl rfl _ (fun v21 hv22 => R_fieldAddr (off := 1) (oo := 1) Tryz.underlying69 rfl rfl Tryz.sizeOf3 rfl rfl ⟨rfl, Gr.refl _ _⟩) ?_
 refine Lx_q (i := 6) rfl rfl _ (fun v23 hv24 => R_load1 (v := (.int .i64 a.R)) Tryz.isAgg3 rfl ((boxR_at ((H10.ext hv24).getOwn 1 rfl)).chunks 1 1 1 1 _ rfl rfl rfl) ⟨rfl, Gr.refl _ _⟩) ?_
 refine Lx_q (i := 7) rfl rfl _ (fun v25 hv26 => R_fieldAddr (off := 1) (oo := 1) Tryz.underlying69 rfl rfl Tryz.sizeOf3 rfl rfl ⟨rfl, Gr.refl _ _⟩) ?_
 refine Lx_q (i := 8) rfl rfl _ (fun v27 hv28 => R_load1 (v := (.int .i64 b.R)) Tryz.isAgg3 rfl ((boxR_at ((H10.ext hv28).getOwn 0 rfl)).chunks 1 1 1 1 _ rfl rfl rfl) ⟨rfl, Gr.refl _ _⟩) ?_
 refine Lx_q (i := 9) rfl rfl (.int .i64 (cmpInt a.R b.R)) (fun v29 hv30 => R_callL (vs := [(.int .i64 a.R), (.int .i64 b.R)]) stamp_Cmp_c116 rfl rfl (Compare_int a.R b.R v29 )) ?_
 refine Lx_c (i := 10) rfl rfl (fun w31 hw32 => ?_)
 have H33 := H10.ext hw32
 refine (C_buildSliceL H33 (enc := encI) (val := intV) ([cmpInt a.T b.T, cmpInt a.R b.R] : List Int) Tryz.underlying167 Tryz.sizeOf3 Tryz.zeroValue3 rfl (by decide) (fun _ => rfl) (fun _ => rfl) rfl rfl (by decide) ?_)
 intro b34 w35 hb36 hx37 H38
 refine ⟨GrF.ofExt hx37, ?_⟩
 refine Lx_q (i := 11) rfl rfl (.int .i64 (orInt ([cmpInt a.T b.T, cmpInt a.R b.R] : List Int))) (fun v39 hv40 => R_callL (vs := [(slV ⟨some ⟨b34, 0, none⟩, b34, 0, 2⟩ ([cmpInt a.T b.T, cmpInt a.R b.R] : List Int))]) stamp_Cmp_c114 rfl rfl (cmp_Or ⟨some ⟨b34, 0, none⟩, b34, 0, 2⟩ ([cmpInt a.T b.T, cmpInt a.R b.R] : List Int) v39 ((H38.ext hv40).rowSl 0 rfl (fun _ => rfl)))) ?_
 refine Lx_q (i := 12) rfl rfl _ (fun v41 hv42 => R_assign (v := (.int .i64 (orInt ([cmpInt a.T b.T, cmpInt a.R b.R] : List Int)))) rfl ⟨rfl, Gr.refl _ _⟩) ?_
 refine Lx_nil (fun w43 hw44 => ?_)
 have H45 := H38.ext hw44
 refine Then_n (W_ret ?_)
 refine ret_1 (v := (.int .i64 (orInt ([cmpInt a.T b.T, cmpInt a.R b.R] : List Int)))) Tryz.results84 rfl ?_
 exact ⟨(by rw [← orInt_cmp]), H45.gr⟩

end Go.Proofs.YthjdhfoeckfmbaaGreat
/- The plain side of trees: parents' chains. -/
namespace Go.Proofs.YthjdhfoeckfmbaaGreat
open Go
set_option linter.unusedVariables false
set_option linter.unusedSimpArgs false
set_option linter.unusedSectionVars false
def rightRow (r : RowS) : Bool := itemOk r.node r.tm r.name r.heads && !decide (r.node = lastSt)
theorem putDirE_one (x : ItemS) : decide (putDirE [x] = 0) = itemOkS x := by
  unfold putDirE
  rw [dirOk_one]
  cases itemOkS x <;> simp
theorem rightRow_e {r : RowS} {x : ItemS} (h : itemOkS x = itemOk r.node r.tm r.name r.heads) : Value.bool (decide (putDirE [x] = 0) && !decide (r.node = lastSt)) = Value.bool (rightRow r) := by
  rw [putDirE_one, h]; rfl
/-- Up n parents. -/
def upN (kv : List (Stamp × Stamp)) : Nat → Stamp → Stamp
  | 0, s => s
  | n + 1, s => upN kv n ((kvGet kv s).getD ⟨0, 0⟩)
/-- The root or the trash lies n parents above; each one on the way is in the table. -/
def upOk (kv : List (Stamp × Stamp)) : Nat → Stamp → Prop
  | 0, s => fixedSt s = true
  | n + 1, s => fixedSt s = false ∧ (kvGet kv s).isSome = true ∧ upOk kv n ((kvGet kv s).getD ⟨0, 0⟩)
def reach (kv : List (Stamp × Stamp)) (s : Stamp) : Prop := ∃ n, upOk kv n s
theorem upOk_uniq {kv : List (Stamp × Stamp)} : ∀ {n m : Nat} {s : Stamp}, upOk kv n s → upOk kv m s → n = m
  | 0, 0, _, _, _ => rfl
  | 0, m + 1, s, h, k => by have := k.1; rw [show fixedSt s = true from h] at this; cases this
  | n + 1, 0, s, h, k => by have := h.1; rw [show fixedSt s = true from k] at this; cases this
  | n + 1, m + 1, s, h, k => by rw [upOk_uniq h.2.2 k.2.2]
theorem reach_fixed {kv : List (Stamp × Stamp)} {s : Stamp} (h : fixedSt s = true) : reach kv s := ⟨0, h⟩
theorem reach_step {kv : List (Stamp × Stamp)} {s : Stamp} (h : fixedSt s = false) (hk : (kvGet kv s).isSome = true) : reach kv s ↔ reach kv ((kvGet kv s).getD ⟨0, 0⟩) := by
  constructor
  · rintro ⟨n, hn⟩
    cases n with
    | zero => rw [show fixedSt s = true from hn] at h; cases h
    | succ n => exact ⟨n, hn.2.2⟩
  · rintro ⟨n, hn⟩
    exact ⟨n + 1, h, hk, hn⟩
theorem reach_not {kv : List (Stamp × Stamp)} {s : Stamp} (h : fixedSt s = false) (hk : (kvGet kv s).isSome = false) : ¬ reach kv s := by
  rintro ⟨n, hn⟩
  cases n with
  | zero => rw [show fixedSt s = true from hn] at h; cases h
  | succ n => rw [hn.2.1] at hk; cases hk
/-- The first j stamps of the way up from s are these. -/
def onWay (kv : List (Stamp × Stamp)) (s : Stamp) (way : List Stamp) (at_ : Stamp) : Prop :=
  at_ = upN kv way.length s ∧ ∀ i, i < way.length → nth way i = upN kv i s ∧ fixedSt (nth way i) = false ∧ (kvGet kv (nth way i)).isSome = true
theorem upN_succ (kv : List (Stamp × Stamp)) : ∀ (n : Nat) (s : Stamp), upN kv (n + 1) s = (kvGet kv (upN kv n s)).getD ⟨0, 0⟩
  | 0, s => rfl
  | n + 1, s => by
    show upN kv (n + 1) ((kvGet kv s).getD ⟨0, 0⟩) = _
    rw [upN_succ kv n]; rfl
theorem onWay_zero (kv : List (Stamp × Stamp)) (s : Stamp) : onWay kv s [] s := ⟨rfl, fun i hi => by simp at hi⟩
theorem nth_append_lt {α : Type} [Inhabited α] {l : List α} {x : α} {i : Nat} (h : i < l.length) : nth (l ++ [x]) i = nth l i := by
  unfold nth; simp [List.getD_eq_getElem?_getD, List.getElem?_append_left h]
theorem nth_append_last {α : Type} [Inhabited α] {l : List α} {x : α} : nth (l ++ [x]) l.length = x := by
  unfold nth; simp [List.getD_eq_getElem?_getD]
theorem onWay_succ {kv : List (Stamp × Stamp)} {s a : Stamp} {way : List Stamp} (h : onWay kv s way a) (hf : fixedSt a = false) (hk : (kvGet kv a).isSome = true) : onWay kv s (way ++ [a]) ((kvGet kv a).getD ⟨0, 0⟩) := by
  refine ⟨?_, fun i hi => ?_⟩
  · rw [List.length_append, List.length_singleton, upN_succ, ← h.1]
  · by_cases hl : i < way.length
    · rw [nth_append_lt hl]; exact h.2 i hl
    · have : i = way.length := by simp at hi; omega
      subst this
      rw [nth_append_last]
      exact ⟨h.1, hf, hk⟩
theorem onWay_reach {kv : List (Stamp × Stamp)} {s a : Stamp} {way : List Stamp} (h : onWay kv s way a) : ∀ i, i ≤ way.length → (reach kv (upN kv i s) ↔ reach kv a) := by
  have key : ∀ d i, i + d = way.length → (reach kv (upN kv i s) ↔ reach kv a) := by
    intro d
    induction d with
    | zero => intro i hi; rw [h.1, ← hi]; exact Iff.rfl
    | succ d ih =>
      intro i hi
      obtain ⟨h1, h2, h3⟩ := h.2 i (by omega)
      rw [h1] at h2 h3
      rw [reach_step h2 h3, ← upN_succ]
      exact ih (i + 1) (by omega)
  intro i hi
  exact key (way.length - i) i (by omega)
theorem pigeon {α : Type} [DecidableEq α] : ∀ {l k : List α}, l.Pairwise (· ≠ ·) → (∀ x ∈ l, x ∈ k) → l.length ≤ k.length
  | [], _, _, _ => Nat.zero_le _
  | x :: l, k, h, hs => by
    have h1 := List.pairwise_cons.1 h
    have h2 := pigeon (l := l) (k := k.erase x) h1.2 fun y hy => (List.mem_erase_of_ne (h1.1 y hy).symm).2 (hs y (List.mem_cons_of_mem _ hy))
    have h3 := hs x (by simp)
    have h4 := List.length_erase_of_mem h3
    have h5 := List.length_pos_of_mem h3
    simp only [List.length_cons]; omega
theorem way_long {kv : List (Stamp × Stamp)} {s a : Stamp} {way : List Stamp} (h : onWay kv s way a) (hl : kv.length < way.length) : ¬ reach kv s := by
  rintro ⟨n, hn⟩
  -- the way's stamps are unlike
  have hup : ∀ i, i ≤ way.length → ∃ m, upOk kv m (upN kv i s) ∧ m + i = n := by
    intro i
    induction i with
    | zero => intro _; exact ⟨n, hn, rfl⟩
    | succ i ih =>
      intro hi
      obtain ⟨m, hm, hmn⟩ := ih (by omega)
      obtain ⟨h1, h2, h3⟩ := h.2 i (by omega)
      rw [h1] at h2
      cases m with
      | zero => rw [show fixedSt (upN kv i s) = true from hm] at h2; cases h2
      | succ m => exact ⟨m, by rw [upN_succ]; exact hm.2.2, by omega⟩
  have hinj : ∀ i j, i < way.length → j < way.length → nth way i = nth way j → i = j := by
    intro i j hi hj e
    rw [(h.2 i hi).1, (h.2 j hj).1] at e
    obtain ⟨m, hm, h1⟩ := hup i (by omega)
    obtain ⟨m', hm', h2⟩ := hup j (by omega)
    rw [e] at hm
    have := upOk_uniq hm hm'
    omega
  have hnd : way.Pairwise (· ≠ ·) := by
    rw [List.pairwise_iff_getElem]
    intro x y hx hy hxy e
    have := hinj x y hx hy (by rw [nth_eq hx, nth_eq hy]; exact e)
    omega
  have hsub : ∀ x ∈ way, x ∈ kv.map (·.1) := by
    intro x hx
    obtain ⟨i, hi, rfl⟩ := List.getElem_of_mem hx
    have := (h.2 i hi).2.2
    rw [nth_eq hi] at this
    obtain ⟨v, hv⟩ := Option.isSome_iff_exists.1 this
    exact List.mem_map.2 ⟨_, kvGet_mem hv, rfl⟩
  have := pigeon hnd hsub
  simp at this
  omega
def parentsTo (rows : List RowS) (k : Nat) : List (Stamp × Stamp) := (rows.take k).foldl (fun kv r => kvPut r.node r.par kv) []
theorem parentsTo_succ {rows : List RowS} {k : Nat} (h : k < rows.length) : kvPut (nth rows k).node (nth rows k).par (parentsTo rows k) = parentsTo rows (k + 1) := by
  unfold parentsTo
  rw [List.take_succ_eq_append_getElem h, List.foldl_append, nth_eq h]; rfl
theorem parentsTo_len (rows : List RowS) : ∀ k, (parentsTo rows k).length ≤ k ∧ (parentsTo rows k).length ≤ rows.length := by
  intro k
  have key : ∀ (l : List RowS) (kv : List (Stamp × Stamp)), (l.foldl (fun kv r => kvPut r.node r.par kv) kv).length ≤ kv.length + l.length := by
    intro l
    induction l with
    | nil => intro kv; simp
    | cons x l ih =>
      intro kv
      have h1 := ih (kvPut x.node x.par kv)
      have h2 := kvPut_len x.node x.par kv
      simp only [List.foldl_cons, List.length_cons]
      omega
  have := key (rows.take k) []
  simp only [List.length_take, List.length_nil] at this
  unfold parentsTo
  omega
def parentsAll (rows : List RowS) : List (Stamp × Stamp) := parentsTo rows rows.length
open Classical in
/-- Rows are a tree, as the program looks. -/
noncomputable def snapOk (rows : List RowS) : Bool := decide (rows.length ≤ 5000 ∧ (∀ i, i < rows.length → rightRow (nth rows i) = true ∧ (i = 0 ∨ cmpSt (nth rows (i - 1)).node (nth rows i).node < 0)) ∧ ∀ i, i < rows.length → reach (parentsAll rows) (nth rows i).node)
open Classical in
theorem snapOk_iff {rows : List RowS} : snapOk rows = true ↔ rows.length ≤ 5000 ∧ (∀ i, i < rows.length → rightRow (nth rows i) = true ∧ (i = 0 ∨ cmpSt (nth rows (i - 1)).node (nth rows i).node < 0)) ∧ ∀ i, i < rows.length → reach (parentsAll rows) (nth rows i).node := decide_eq_true_iff
theorem snapF {rows : List RowS} (h : ¬ (rows.length ≤ 5000 ∧ (∀ i, i < rows.length → rightRow (nth rows i) = true ∧ (i = 0 ∨ cmpSt (nth rows (i - 1)).node (nth rows i).node < 0)) ∧ ∀ i, i < rows.length → reach (parentsAll rows) (nth rows i).node)) : Value.bool false = Value.bool (snapOk rows) := by
  have : snapOk rows = false := by
    cases hh : snapOk rows with
    | false => rfl
    | true => exact absurd (snapOk_iff.1 hh) h
  rw [this]
theorem snapT {rows : List RowS} (h0 : ¬ (5000 : Int) < ((rows.length : Nat) : Int)) (h1 : ∀ i, i < rows.length → rightRow (nth rows i) = true ∧ (i = 0 ∨ cmpSt (nth rows (i - 1)).node (nth rows i).node < 0)) (h2 : ∀ i, i < rows.length → reach (parentsAll rows) (nth rows i).node) : Value.bool true = Value.bool (snapOk rows) := by
  rw [snapOk_iff.2 ⟨by omega, h1, h2⟩]
theorem right_at {rows : List RowS} {k : Nat} (h : rightRow (nth rows k) = true ∧ (¬ (0 : Int) < ((k : Nat) : Int) ∨ ¬ 0 ≤ cmpSt (nth rows (k - 1)).node (nth rows k).node)) : rightRow (nth rows k) = true ∧ (k = 0 ∨ cmpSt (nth rows (k - 1)).node (nth rows k).node < 0) :=
  ⟨h.1, by rcases h.2 with h | h <;> omega⟩
theorem right_bad {rows : List RowS} {k : Nat} (hh : rightRow (nth rows k) = true ∧ (k = 0 ∨ cmpSt (nth rows (k - 1)).node (nth rows k).node < 0)) (h : rightRow (nth rows k) = false ∨ ((0 : Int) < ((k : Nat) : Int) ∧ 0 ≤ cmpSt (nth rows (k - 1)).node (nth rows k).node)) : False := by
  rcases h with h | h
  · rw [hh.1] at h; cases h
  · rcases hh.2 with h1 | h1 <;> omega
theorem way_step {kv : List (Stamp × Stamp)} {kvg : List (Stamp × Bool)} {s a : Stamp} {way : List Stamp} {n : Nat} (h : onWay kv s way a) (hg : fixedSt a = false ∧ (kvGet kvg a).getD false = false) (hk : (kvGet kv a).isSome = true ∧ ¬ ((n : Nat) : Int) < ((way.length : Nat) : Int)) : onWay kv s (way ++ [a]) ((kvGet kv a).getD ⟨0, 0⟩) :=
  onWay_succ h hg.1 hk.1
theorem way_stop {kv : List (Stamp × Stamp)} {kvg : List (Stamp × Bool)} {a : Stamp} (hg : ∀ s, (kvGet kvg s).getD false = true → reach kv s) (h : fixedSt a = true ∨ (kvGet kvg a).getD false = true) : reach kv a := by
  rcases h with h | h
  · exact reach_fixed h
  · exact hg a h
theorem way_all {kv : List (Stamp × Stamp)} {s a : Stamp} {way : List Stamp} (h : onWay kv s way a) (hr : reach kv a) : ∀ i, i < way.length → reach kv (nth way i) := fun i hi => by
  rw [(h.2 i hi).1]; exact (onWay_reach h i (by omega)).2 hr
theorem mark_good {kv : List (Stamp × Stamp)} {kvg : List (Stamp × Bool)} {x : Stamp} (hg : ∀ s, (kvGet kvg s).getD false = true → reach kv s) (hx : reach kv x) : ∀ s, (kvGet (kvPut x true kvg) s).getD false = true → reach kv s := fun s h => by
  rw [kvGet_put] at h
  split at h
  · rename_i e; rw [e]; exact hx
  · exact hg s h
theorem way_bad {kv : List (Stamp × Stamp)} {kvg : List (Stamp × Bool)} {s a : Stamp} {way : List Stamp} {n : Nat} (h : onWay kv s way a) (hl : way.length ≤ n + 1) (hn : kv.length ≤ n) (hg : fixedSt a = false ∧ (kvGet kvg a).getD false = false) (hk : (kvGet kv a).isSome = false ∨ ((n : Nat) : Int) < ((way.length : Nat) : Int)) (hr : reach kv s) : False := by
  rcases hk with hk | hk
  · exact reach_not hg.1 hk ((onWay_reach h 0 (Nat.zero_le _)).1 hr)
  · exact way_long h (by omega) hr
theorem way_step' {kv kvp : List (Stamp × Stamp)} (e : kvp = kv) {kvg : List (Stamp × Bool)} {s a : Stamp} {way : List Stamp} {n : Nat} (h : onWay kv s way a) (hg : fixedSt a = false ∧ (kvGet kvg a).getD false = false) (hk : (kvGet kvp a).isSome = true ∧ ¬ ((n : Nat) : Int) < ((way.length : Nat) : Int)) : onWay kv s (way ++ [a]) ((kvGet kvp a).getD ⟨0, 0⟩) := by
  subst e; exact way_step h hg hk
theorem way_bad' {kv kvp : List (Stamp × Stamp)} (e : kvp = kv) {kvg : List (Stamp × Bool)} {s a : Stamp} {way : List Stamp} {n : Nat} (h : onWay kv s way a) (hl : way.length ≤ n + 1) (hn : kv.length ≤ n) (hg : fixedSt a = false ∧ (kvGet kvg a).getD false = false) (hk : (kvGet kvp a).isSome = false ∨ ((n : Nat) : Int) < ((way.length : Nat) : Int)) (hr : reach kv s) : False := by
  subst e; exact way_bad h hl hn hg hk hr
end Go.Proofs.YthjdhfoeckfmbaaGreat
/- The plain side of operations. -/
namespace Go.Proofs.YthjdhfoeckfmbaaGreat
open Go
set_option linter.unusedVariables false
set_option linter.unusedSimpArgs false
set_option linter.unusedSectionVars false
def opOverAt (tm : Stamp) (over : List Stamp) (i : Nat) : Prop := stRight (nth over i) = true ∧ cmpSt (nth over i) tm < 0 ∧ (i = 0 ∨ cmpSt (nth over (i - 1)) (nth over i) < 0)
instance (tm : Stamp) (over : List Stamp) (i : Nat) : Decidable (opOverAt tm over i) := by unfold opOverAt; infer_instance
def moveOk (o : OpS) : Bool := decide (cmpSt o.node o.tm ≤ 0 ∧ (stRight o.par = true ∨ fixedSt o.par = true) ∧ nameOk o.name = true ∧ o.data = zeroId ∧ o.over.length = 0)
def editOk (o : OpS) : Bool := decide (cmpSt o.node o.tm < 0 ∧ o.par = ⟨0, 0⟩ ∧ o.name = ByteArray.empty ∧ o.data ≠ zeroId ∧ o.over.length ≤ 64 ∧ ∀ i, i < o.over.length → opOverAt o.tm o.over i)
def goodOp (o : OpS) : Bool := decide (stRight o.tm = true ∧ stRight o.node = true ∧ (o.kind = 1 ∧ moveOk o = true ∨ o.kind = 2 ∧ editOk o = true))
theorem moveOk_e {o : OpS} : Value.bool ((((decide (cmpSt o.node o.tm ≤ 0) && (stRight o.par || fixedSt o.par)) && nameOk o.name) && decide (o.data = zeroId)) && decide (((o.over.length : Nat) : Int) = 0)) = Value.bool (moveOk o) := by
  refine boolE ?_
  simp only [Bool.and_eq_true, Bool.or_eq_true, decide_eq_true_eq]
  constructor
  · rintro ⟨⟨⟨⟨h1, h2⟩, h3⟩, h4⟩, h5⟩; exact ⟨h1, h2, h3, h4, by omega⟩
  · rintro ⟨h1, h2, h3, h4, h5⟩; exact ⟨⟨⟨⟨h1, h2⟩, h3⟩, h4⟩, by omega⟩
theorem editOk_f1 {o : OpS} (h : (((0 ≤ cmpSt o.node o.tm ∨ ¬ o.par = (⟨0, 0⟩ : Stamp)) ∨ ¬ o.name = ByteArray.empty) ∨ o.data = zeroId) ∨ (64 : Int) < ((o.over.length : Nat) : Int)) : Value.bool false = Value.bool (editOk o) := by
  refine boolF ?_
  rintro ⟨h1, h2, h3, h4, h5, _⟩
  rcases h with (((h | h) | h) | h) | h
  · omega
  · exact h h2
  · exact h h3
  · exact h4 h
  · omega
theorem overAt_t {tm : Stamp} {over : List Stamp} {k : Nat} (h : (stRight (nth over k) = true ∧ ¬ 0 ≤ cmpSt (nth over k) tm) ∧ (¬ (0 : Int) < ((k : Nat) : Int) ∨ ¬ 0 ≤ cmpSt (nth over (k - 1)) (nth over k))) : opOverAt tm over k :=
  ⟨h.1.1, by omega, by rcases h.2 with h | h <;> omega⟩
theorem editOk_f2 {o : OpS} {k : Nat} (hk : k < o.over.length) (h : (stRight (nth o.over k) = false ∨ 0 ≤ cmpSt (nth o.over k) o.tm) ∨ ((0 : Int) < ((k : Nat) : Int) ∧ 0 ≤ cmpSt (nth o.over (k - 1)) (nth o.over k))) : Value.bool false = Value.bool (editOk o) := by
  refine boolF ?_
  rintro ⟨_, _, _, _, _, hh⟩
  obtain ⟨a1, a2, a3⟩ := hh k hk
  rcases h with (h | h) | h
  · rw [a1] at h; cases h
  · omega
  · rcases a3 with a3 | a3 <;> omega
theorem editOk_t {o : OpS} (h : (((¬ 0 ≤ cmpSt o.node o.tm ∧ o.par = (⟨0, 0⟩ : Stamp)) ∧ o.name = ByteArray.empty) ∧ ¬ o.data = zeroId) ∧ ¬ (64 : Int) < ((o.over.length : Nat) : Int)) (h2 : ∀ i, i < o.over.length → opOverAt o.tm o.over i) : Value.bool true = Value.bool (editOk o) :=
  boolT ⟨by omega, h.1.1.1.2, h.1.1.2, h.1.2, by omega, h2⟩
theorem good_f {o : OpS} (h : stRight o.tm = false ∨ stRight o.node = false) : Value.bool false = Value.bool (goodOp o) := boolF fun hh => by
  rcases h with h | h
  · rw [hh.1] at h; cases h
  · rw [hh.2.1] at h; cases h
theorem good_m {o : OpS} (h : stRight o.tm = true ∧ stRight o.node = true) (h1 : o.kind = 1) : Value.bool (moveOk o) = Value.bool (goodOp o) := boolE ⟨fun hm => ⟨h.1, h.2, .inl ⟨h1, hm⟩⟩, fun hh => by
  rcases hh.2.2 with h3 | h3
  · exact h3.2
  · omega⟩
theorem good_e {o : OpS} (h : stRight o.tm = true ∧ stRight o.node = true) (h1 : o.kind = 2) : Value.bool (editOk o) = Value.bool (goodOp o) := boolE ⟨fun hm => ⟨h.1, h.2, .inr ⟨h1, hm⟩⟩, fun hh => by
  rcases hh.2.2 with h3 | h3
  · omega
  · exact h3.2⟩
theorem good_n {o : OpS} (h1 : ¬ o.kind = 1) (h2 : ¬ o.kind = 2) : Value.bool false = Value.bool (goodOp o) := boolF fun hh => by rcases hh.2.2 with h | h <;> exact absurd h.1 (by assumption)
structure MakerS where
  at_ : Stamp
  ops : List OpS
  oh : SlH
  bad : Bool
  deriving Inhabited
abbrev makerCh (m : MakerS) : Chs := [[.int .i64 m.at_.T], [.int .i64 m.at_.R], [slV m.oh m.ops], [.bool m.bad]]
abbrev makerV (m : MakerS) : Value := aggOf (makerCh m)
/-- An operation that was put. -/
def putOp (m : MakerS) (o : OpS) : OpS := { o with tm := m.at_ }
structure OpC where
  kind : Int
  tm : Stamp
  node : Stamp
  par : Stamp
  name : ByteArray
  data : ID
  over : List Stamp
  deriving DecidableEq, Inhabited
def OpS.core (o : OpS) : OpC := ⟨o.kind, o.tm, o.node, o.par, o.name, o.data, o.over⟩
/-- The root or the trash (a stamp of time 0) lies d parents above. -/
def depN (kv : List (Stamp × RowS)) : Nat → Stamp → Prop
  | 0, s => s.T = 0
  | d + 1, s => ¬ s.T = 0 ∧ depN kv d ((kvGet kv s).getD zeroRow).par
theorem depN_uniq {kv : List (Stamp × RowS)} : ∀ {n m : Nat} {s : Stamp}, depN kv n s → depN kv m s → n = m
  | 0, 0, _, _, _ => rfl
  | 0, m + 1, s, h, k => absurd h k.1
  | n + 1, 0, s, h, k => absurd k h.1
  | n + 1, m + 1, s, h, k => by rw [depN_uniq h.2 k.2]
open Classical in
noncomputable def depOf (kv : List (Stamp × RowS)) (s : Stamp) : Nat := if h : ∃ d, depN kv d s then Classical.choose h else 0
theorem depOf_eq {kv : List (Stamp × RowS)} {s : Stamp} {d : Nat} (h : depN kv d s) : depOf kv s = d := by
  have hx : ∃ d, depN kv d s := ⟨d, h⟩
  unfold depOf
  rw [dif_pos hx]
  exact depN_uniq (Classical.choose_spec hx) h
theorem dep_zero {kv : List (Stamp × RowS)} {s : Stamp} {d k n : Nat} (h : depN kv d s) (hk : k + d = n) (h0 : s.T = 0) : k = n := by
  cases d with
  | zero => omega
  | succ d => exact absurd h0 h.1
theorem dep_step {kv : List (Stamp × RowS)} {s : Stamp} {d : Nat} (h : depN kv d s) (h0 : ¬ s.T = 0) : 1 ≤ d ∧ depN kv (d - 1) ((kvGet kv s).getD zeroRow).par := by
  cases d with
  | zero => exact absurd h h0
  | succ d => exact ⟨by omega, h.2⟩
def OpC.good (o : OpC) : Bool := goodOp { kind := o.kind, tm := o.tm, node := o.node, par := o.par, name := o.name, data := o.data, over := o.over, oh := nilH }
theorem goodOp_core (o : OpS) : goodOp o = o.core.good := rfl
/-- What a maker is, but for where its operations lie. -/
structure MakerC where
  at_ : Stamp
  ops : List OpC
  bad : Bool
def MakerS.st (m : MakerS) : MakerC := ⟨m.at_, m.ops.map OpS.core, m.bad⟩
def putC (m : MakerC) (o : OpC) : MakerC := ⟨⟨m.at_.T + 1, m.at_.R⟩, m.ops ++ [{ o with tm := m.at_ }], m.bad || !OpC.good { o with tm := m.at_ }⟩
theorem put_st {m m' : MakerS} {o : OpS} (h : m'.at_ = ⟨m.at_.T + 1, m.at_.R⟩ ∧ m'.bad = (m.bad || !goodOp (putOp m o)) ∧ ∃ h, m'.ops = m.ops ++ [{ putOp m o with oh := h }]) : m'.st = putC m.st o.core := by
  obtain ⟨h1, h2, hh, h3⟩ := h
  unfold MakerS.st putC
  rw [h1, h2, h3]
  simp [List.map_append, OpS.core, putOp, goodOp_core]
theorem putC_at (l : List OpC) : ∀ m : MakerC, (l.foldl putC m).at_ = ⟨m.at_.T + l.length, m.at_.R⟩ ∧ (l.foldl putC m).ops.length = m.ops.length + l.length := by
  induction l with
  | nil => intro m; simp
  | cons o l ih =>
    intro m
    obtain ⟨h1, h2⟩ := ih (putC m o)
    rw [List.foldl_cons, h1, h2]
    refine ⟨?_, ?_⟩
    · simp only [putC, List.length_cons, Stamp.mk.injEq, and_true]; omega
    · simp only [putC, List.length_append, List.length_cons, List.length_nil]; omega
def zeroOp : OpC := ⟨0, ⟨0, 0⟩, ⟨0, 0⟩, ⟨0, 0⟩, ByteArray.empty, zeroId, []⟩
/-- A row's move; a row's move to the trash. -/
def mvOp (r : RowS) : OpC := { zeroOp with kind := 1, node := r.node, par := r.par, name := r.name }
def trOp (r : RowS) : OpC := { zeroOp with kind := 1, node := r.node, par := ⟨0, 1⟩, name := r.name }
/-- Does a row of the other tree want a move? -/
def needs (a : List RowS) (r : RowS) : Bool := !(kvGet (tableOf a) r.node).isSome || !decide (((kvGet (tableOf a) r.node).getD zeroRow).par = r.par) || !decide (((kvGet (tableOf a) r.node).getD zeroRow).name = r.name)
/-- Is a row's node gone in the other tree, and not in the trash? -/
def gone (b : List RowS) (r : RowS) : Bool := !(kvGet (tableOf b) r.node).isSome && !decide (r.par = ⟨0, 1⟩)
theorem st_at (m : MakerS) : m.st.at_ = m.at_ := rfl
theorem st_len {m m' : MakerS} {l : List OpC} (h : m'.st = l.foldl putC m.st) : m'.at_ = ⟨m.at_.T + l.length, m.at_.R⟩ ∧ m'.ops.length = m.ops.length + l.length := by
  have := putC_at l m.st
  rw [← h] at this
  refine ⟨this.1, ?_⟩
  have h2 := this.2
  simpa [MakerS.st] using h2
theorem moves_step {m mm mm2 : MakerS} {pre : List OpC} {L : List RowS} {j : Nat} {o : OpC} {g : RowS → OpC} (h : mm.st = (pre ++ (L.take j).map g).foldl putC m.st) (hj : j < L.length) (ho : o = g (nth L j)) (h2 : mm2.st = putC mm.st o) : mm2.st = (pre ++ (L.take (j + 1)).map g).foldl putC m.st := by
  rw [h2, h, ho, List.take_succ_eq_append_getElem hj, List.map_append, ← List.append_assoc, nth_eq hj]
  simp only [List.foldl_append, List.map_cons, List.map_nil, List.foldl_cons, List.foldl_nil]
theorem needs_in {a b acc : List RowS} {k : Nat} (h : acc = (b.take k).filter (needs a)) (hk : k < b.length) (hn : ((kvGet (tableOf a) (nth b k).node).isSome = false ∨ ¬ ((kvGet (tableOf a) (nth b k).node).getD zeroRow).par = (nth b k).par) ∨ ¬ ((kvGet (tableOf a) (nth b k).node).getD zeroRow).name = (nth b k).name) : acc ++ [nth b k] = (b.take (k + 1)).filter (needs a) := by
  rw [filter_take_succ hk, ← h, if_pos (by unfold needs; rcases hn with (hn | hn) | hn <;> simp [hn])]
theorem needs_out {a b acc : List RowS} {k : Nat} (h : acc = (b.take k).filter (needs a)) (hk : k < b.length) (hn : ((kvGet (tableOf a) (nth b k).node).isSome = true ∧ ((kvGet (tableOf a) (nth b k).node).getD zeroRow).par = (nth b k).par) ∧ ((kvGet (tableOf a) (nth b k).node).getD zeroRow).name = (nth b k).name) : acc = (b.take (k + 1)).filter (needs a) := by
  rw [filter_take_succ hk, ← h, if_neg (by unfold needs; simp [hn.1.1, hn.1.2, hn.2]), List.append_nil]
theorem moved_mem {a b acc : List RowS} {k : Nat} {x : RowS} (h : acc = (b.take k).filter (needs a)) (hx : x ∈ acc) : x ∈ b := by
  rw [h] at hx
  exact List.mem_of_mem_take (List.mem_filter.1 hx).1
theorem SS_step {SS SS2 Sm : Nat → Prop} {n n2 : Nat} (h : ∀ c, SS c → Sm c ∨ n ≤ c) (h2 : ∀ c, SS2 c → SS c ∨ n2 ≤ c ∨ nob c) (hn : n ≤ n2) : ∀ c, SS2 c → Sm c ∨ n ≤ c := fun c hc => by
  rcases h2 c hc with h3 | h3 | h3
  · exact h c h3
  · exact .inr (Nat.le_trans hn h3)
  · exact h3.elim
theorem gone_step {m mm mm2 : MakerS} {pre : List OpC} {a b : List RowS} {k : Nat} {o : OpC} (h : mm.st = (pre ++ ((a.take k).filter (gone b)).map trOp).foldl putC m.st) (hk : k < a.length) (hg : (kvGet (tableOf b) (nth a k).node).isSome = false ∧ ¬ (nth a k).par = ⟨0, 1⟩) (ho : o = trOp (nth a k)) (h2 : mm2.st = putC mm.st o) : mm2.st = (pre ++ ((a.take (k + 1)).filter (gone b)).map trOp).foldl putC m.st := by
  rw [h2, h, ho, filter_take_succ hk, if_pos (by unfold gone; simp [hg.1, hg.2]), List.map_append, ← List.append_assoc]
  simp only [List.foldl_append, List.map_cons, List.map_nil, List.foldl_cons, List.foldl_nil]
theorem gone_skip {m mm : MakerS} {pre : List OpC} {a b : List RowS} {k : Nat} (h : mm.st = (pre ++ ((a.take k).filter (gone b)).map trOp).foldl putC m.st) (hk : k < a.length) (hg : (kvGet (tableOf b) (nth a k).node).isSome = true ∨ (nth a k).par = ⟨0, 1⟩) : mm.st = (pre ++ ((a.take (k + 1)).filter (gone b)).map trOp).foldl putC m.st := by
  rw [h, filter_take_succ hk, if_neg (by unfold gone; rcases hg with hg | hg <;> simp [hg]), List.append_nil]
theorem T_room {m mm : MakerS} {l : List OpC} (h : mm.st = l.foldl putC m.st) (hT : 0 ≤ m.at_.T ∧ m.at_.T ≤ 2199023255552) (hl : l.length ≤ 100000) : mm.at_.T ≤ 4611686018427387904 ∧ -4611686018427387904 ≤ mm.at_.T := by
  rw [(st_len h).1]; simp only []; omega
theorem L_room {m mm : MakerS} {l : List OpC} (h : mm.st = l.foldl putC m.st) (hm : m.ops.length ≤ 100000) (hl : l.length ≤ 100000) : mm.ops.length ≤ 1048576 := by
  rw [(st_len h).2]; omega
/-- What a node was in the elder tree. -/
def wasOf (a : List RowS) (r : RowS) : RowS := (kvGet (tableOf a) r.node).getD zeroRow
def sameHeads (a : List RowS) (r : RowS) : Bool := decide (datas ((kvGet (tableOf a) r.node).getD zeroRow).heads = datas r.heads)
def edOp (a : List RowS) (r : RowS) : OpC := { zeroOp with kind := 2, node := r.node, data := (nth r.heads 0).data, over := (wasOf a r).heads.map (·.tm) }
def edWants (a : List RowS) (r : RowS) : Bool := !sameHeads a r && decide (r.heads.length = 1)
def edBad (a : List RowS) (r : RowS) : Bool := !sameHeads a r && !decide (r.heads.length = 1)
def editsOf (a b : List RowS) : List OpC := (b.filter (edWants a)).map (edOp a)
def editsOne (a b : List RowS) : Bool := b.all fun r => !edBad a r
theorem editsOne_succ {a b : List RowS} {k : Nat} (hk : k < b.length) : editsOne a (b.take (k + 1)) = (editsOne a (b.take k) && !edBad a (nth b k)) := by
  unfold editsOne
  rw [List.take_succ_eq_append_getElem hk, List.all_append, nth_eq hk]
  simp
theorem edits_len (a b : List RowS) (k : Nat) : (editsOf a (b.take k)).length ≤ k := by
  unfold editsOf
  rw [List.length_map]
  refine Nat.le_trans (List.length_filter_le _ _) ?_
  rw [List.length_take]; omega
theorem edits_same {m mm : MakerS} {a b : List RowS} {k : Nat} {one : Bool} (h : mm.st = (editsOf a (b.take k)).foldl putC m.st) (ho : one = editsOne a (b.take k)) (hk : k < b.length)
    (hs : datas ((kvGet (tableOf a) (nth b k).node).getD zeroRow).heads = datas (nth b k).heads) : mm.st = (editsOf a (b.take (k + 1))).foldl putC m.st ∧ one = editsOne a (b.take (k + 1)) := by
  have hsm : sameHeads a (nth b k) = true := decide_eq_true hs
  refine ⟨?_, ?_⟩
  · rw [h, editsOf, editsOf, filter_take_succ hk, if_neg (by unfold edWants; simp [hsm]), List.append_nil]
  · rw [ho, editsOne_succ hk, edBad, hsm]; simp
theorem edits_many {m mm : MakerS} {a b : List RowS} {k : Nat} (h : mm.st = (editsOf a (b.take k)).foldl putC m.st) (hk : k < b.length)
    (hs : ¬ datas ((kvGet (tableOf a) (nth b k).node).getD zeroRow).heads = datas (nth b k).heads) (hn : ¬ (((nth b k).heads.length : Nat) : Int) = 1) : mm.st = (editsOf a (b.take (k + 1))).foldl putC m.st ∧ false = editsOne a (b.take (k + 1)) := by
  have hsm : sameHeads a (nth b k) = false := decide_eq_false hs
  have hl : decide ((nth b k).heads.length = 1) = false := decide_eq_false (by omega)
  refine ⟨?_, ?_⟩
  · rw [h, editsOf, editsOf, filter_take_succ hk, if_neg (by unfold edWants; simp [hl]), List.append_nil]
  · rw [editsOne_succ hk, edBad, hsm, hl]; simp
theorem edits_put {m mm mm2 : MakerS} {a b : List RowS} {k : Nat} {one : Bool} {o : OpC} (h : mm.st = (editsOf a (b.take k)).foldl putC m.st) (ho : one = editsOne a (b.take k)) (hk : k < b.length)
    (hs : ¬ datas ((kvGet (tableOf a) (nth b k).node).getD zeroRow).heads = datas (nth b k).heads) (hn : (((nth b k).heads.length : Nat) : Int) = 1) (hop : o = edOp a (nth b k)) (h2 : mm2.st = putC mm.st o) :
    mm2.st = (editsOf a (b.take (k + 1))).foldl putC m.st ∧ one = editsOne a (b.take (k + 1)) := by
  have hsm : sameHeads a (nth b k) = false := decide_eq_false hs
  have hl : decide ((nth b k).heads.length = 1) = true := decide_eq_true (by omega)
  refine ⟨?_, ?_⟩
  · rw [h2, h, hop, editsOf, editsOf, filter_take_succ hk, if_pos (by unfold edWants; simp [hsm, hl])]
    simp only [List.map_append, List.foldl_append, List.map_cons, List.map_nil, List.foldl_cons, List.foldl_nil]
  · rw [ho, editsOne_succ hk, edBad, hl]; simp
/-- What the table holds is a row, or nothing. -/
theorem kvGet_table {a : List RowS} {s : Stamp} {x : RowS} (h : kvGet (tableOf a) s = some x) : x ∈ a ∧ x.node = s := by
  suffices hh : ∀ (l : List RowS) (kv : List (Stamp × RowS)), (∀ p ∈ kv, p.2 ∈ a ∧ p.2.node = p.1) → (∀ x ∈ l, x ∈ a) → ∀ p ∈ l.foldl (fun kv r => kvPut r.node r kv) kv, p.2 ∈ a ∧ p.2.node = p.1 from
    hh a [] (fun _ h => (nomatch h)) (fun _ h => h) _ (kvGet_mem h)
  intro l
  induction l with
  | nil => intro kv hkv _ p hp; exact hkv p hp
  | cons r l ih =>
    intro kv hkv hl
    refine ih _ (fun p hp => ?_) (fun x hx => hl x (List.mem_cons_of_mem _ hx))
    rcases kvPut_mem hp with rfl | hp
    · exact ⟨hl _ (List.mem_cons_self ..), rfl⟩
    · exact hkv p hp
theorem tab_deep {F : Nat → Prop} {a : List RowS} {w : World} (h : ∀ x ∈ a, Sl F headCh 34 x.hh x.heads w) (s : Stamp) : Sl F headCh 34 ((kvGet (tableOf a) s).getD zeroRow).hh ((kvGet (tableOf a) s).getD zeroRow).heads w := by
  cases hk : kvGet (tableOf a) s with
  | none => exact Sl.nil F headCh 34 w
  | some x => exact h x (kvGet_table hk).1
theorem tab_heads {n : Nat} {a : List RowS} (h : ∀ x ∈ a, x.heads.length ≤ n) (s : Stamp) : ((kvGet (tableOf a) s).getD zeroRow).heads.length ≤ n := by
  cases hk : kvGet (tableOf a) s with
  | none => exact Nat.zero_le _
  | some x => exact h x (kvGet_table hk).1
theorem over_step {hs : List Head} {acc : List Stamp} {j : Nat} (h : acc = (hs.take j).map (·.tm)) (hj : j < hs.length) : acc ++ [(nth hs j).tm] = (hs.take (j + 1)).map (·.tm) := by
  rw [h, List.take_succ_eq_append_getElem hj, List.map_append, nth_eq hj]; rfl
theorem over_end {hs : List Head} {acc : List Stamp} {j : Nat} (h : acc = (hs.take j).map (·.tm)) (hj : ¬ j < hs.length) : acc = hs.map (·.tm) := by
  rw [h, List.take_of_length_le (by omega)]
theorem SS_stepF {SS SS2 Sm Fo : Nat → Prop} {n n2 : Nat} (h : ∀ c, SS c → Sm c ∨ n ≤ c) (h2 : ∀ c, SS2 c → SS c ∨ n2 ≤ c ∨ Fo c) (hn : n ≤ n2) (hF : ∀ c, Fo c → n ≤ c) : ∀ c, SS2 c → Sm c ∨ n ≤ c := fun c hc => by
  rcases h2 c hc with h3 | h3 | h3
  · exact h c h3
  · exact .inr (Nat.le_trans hn h3)
  · exact .inr (hF c h3)
end Go.Proofs.YthjdhfoeckfmbaaGreat
namespace Go.Proofs.YthjdhfoeckfmbaaGreat
open Go
set_option maxRecDepth 100000
set_option linter.unusedVariables false
set_option linter.unusedSimpArgs false
set_option linter.unusedSectionVars false
variable [DD]
theorem stamp_edit_c84 : callable Tryz.prog 84 = true := by kernel_rfl
theorem stamp_edit_c100 : callable Tryz.prog 100 = true := by kernel_rfl
set_option maxHeartbeats 1000000 in
theorem stamp_edit (o : OpS) (w : World) (So_over : Sl (Old w) stampCh 2 o.oh o.over w) :
    Calls Tryz.prog 129 #[(aggOf (opCh o))] w (Ret fun v w' => v = (.bool (editOk o)) ∧ Ext w w') := by
 refine calls_W Tryz.func129 rfl Tryz.ntmps129 rfl ?_
 have H0 := Ctx.start w nob
 have H1 := H0.addSl _ So_over (fun b hb => ⟨hb, fun _ ho => (nomatch ho)⟩)
 have LSo_over := So_over.len
 refine W_seq (W_reg ?_)
 refine O_v rfl (C_box H1 [[(.int .i64 o.kind)], [(.int .i64 o.tm.T)], [(.int .i64 o.tm.R)], [(.int .i64 o.node.T)], [(.int .i64 o.node.R)], [(.int .i64 o.par.T)], [(.int .i64 o.par.R)], [(.string o.name)], (idCells o.data), [(slV o.oh o.over)]] rfl ?_)
 intro b2 w3 hb4 hx5 H6
 refine O_v rfl (R_assign (v := (.bool false)) rfl ?_)
 refine O_nil (Then_n (W_seq (W_seq ?_)))
 refine W_rg [(0, .q 0), (1, .q 0), (2, .q 0), (3, .q 0), (4, .q 0), (5, .q 0), (6, .q 0), (7, .q 0), (8, .q 0), (9, .q 0), (10, .q 0), (11, .q 0), (12, .q 0), (13, .q 0), (14, .q 0), (15, .q 0), (16, .q 0), (17, .q 0), (18, .q 0), (19, .q 0), (20, .q 0), (21, .q 0), (22, .q 0), (23, .q 0), (24, .q 0), (25, .q 0), (26, .q 0), (27, .q 0), (28, .q 0)] (by kernel_rfl) ?_
 refine Lx_q (i := 0) rfl rfl _ (fun v7 hv8 => R_fieldAddr (off := 3) (oo := 3) Tryz.underlying72 rfl rfl Tryz.sizeOf69 rfl rfl ⟨rfl, Gr.refl _ _⟩) ?_
 refine Lx_q (i := 1) rfl rfl _ (fun v9 hv10 => R_loadA (cs := [[(.int .i64 o.node.T)], [(.int .i64 o.node.R)]]) Tryz.isAgg69 Tryz.sizeOf69 rfl rfl ((boxR_at ((H6.ext hv10).getOwn 0 rfl)).chunks 3 2 3 3 _ rfl rfl rfl) ⟨rfl, Gr.refl _ _⟩) ?_
 refine Lx_q (i := 2) rfl rfl _ (fun v11 hv12 => R_fieldAddr (off := 1) (oo := 1) Tryz.underlying72 rfl rfl Tryz.sizeOf69 rfl rfl ⟨rfl, Gr.refl _ _⟩) ?_
 refine Lx_q (i := 3) rfl rfl _ (fun v13 hv14 => R_loadA (cs := [[(.int .i64 o.tm.T)], [(.int .i64 o.tm.R)]]) Tryz.isAgg69 Tryz.sizeOf69 rfl rfl ((boxR_at ((H6.ext hv14).getOwn 0 rfl)).chunks 1 2 1 1 _ rfl rfl rfl) ⟨rfl, Gr.refl _ _⟩) ?_
 refine Lx_q (i := 4) rfl rfl (.int .i64 (cmpSt o.node o.tm)) (fun v15 hv16 => R_callL (vs := [(aggOf (stampCh o.node)), (aggOf (stampCh o.tm))]) stamp_edit_c84 rfl rfl (stamp_Cmp o.node o.tm v15 )) ?_
 refine Lx_q (i := 5) rfl rfl _ (fun v17 hv18 => R_cmp (a := cmpSt o.node o.tm) (b := 0) (r := (decide (0 ≤ cmpSt o.node o.tm))) rfl rfl rfl ⟨rfl, Gr.refl _ _⟩) ?_
 refine Lx_q (i := 6) rfl rfl _ (fun v19 hv20 => R_move (v := (.bool (decide (0 ≤ cmpSt o.node o.tm)))) rfl ⟨rfl, Gr.refl _ _⟩) ?_
 refine Lx_qg (i := 7) true (decide (0 ≤ cmpSt o.node o.tm)) rfl rfl rfl rfl rfl (!(decide (0 ≤ cmpSt o.node o.tm))) ga_f _ (fun hA v21 hv22 => R_fieldAddr (off := 5) (oo := 5) Tryz.underlying72 rfl rfl Tryz.sizeOf69 rfl rfl ⟨rfl, Gr.refl _ _⟩) ?_
 refine Lx_qg (i := 8) true (decide (0 ≤ cmpSt o.node o.tm)) rfl rfl rfl rfl rfl (!(decide (0 ≤ cmpSt o.node o.tm))) ga_f _ (fun hA v23 hv24 => R_loadA (cs := [[(.int .i64 o.par.T)], [(.int .i64 o.par.R)]]) Tryz.isAgg69 Tryz.sizeOf69 rfl (gv_t hA) ((boxR_at ((H6.ext hv24).getOwn 0 rfl)).chunks 5 2 5 5 _ rfl rfl rfl) ⟨rfl, Gr.refl _ _⟩) ?_
 refine Lx_qg (i := 9) true (decide (0 ≤ cmpSt o.node o.tm)) rfl rfl rfl rfl rfl (!(decide (0 ≤ cmpSt o.node o.tm))) ga_f _ (fun hA v25 hv26 => R_buildL (vs := []) (v := aggOf [[(.int .i64 0)], [(.int .i64 0)]]) rfl (fun _ => by kernel_rfl) ⟨rfl, Gr.refl _ _⟩) ?_
 refine Lx_qg (i := 10) true (decide (0 ≤ cmpSt o.node o.tm)) rfl rfl rfl rfl rfl (!(decide (0 ≤ cmpSt o.node o.tm))) ga_f _ (fun hA v27 hv28 => R_nev (a := o.par) (b := ({ T := 0, R := 0 } : Stamp)) eqv_Stamp69 rfl Tryz.eqGuardType69 (gv_t hA) (gv_t hA) ⟨rfl, Gr.refl _ _⟩) ?_
 refine Lx_q (i := 11) rfl rfl _ (fun v29 hv30 => R_pick (t := (decide (0 ≤ cmpSt o.node o.tm))) (v := (.bool ((decide (0 ≤ cmpSt o.node o.tm)) || (!(decide (o.par = ({ T := 0, R := 0 } : Stamp))))))) rfl pk_or ⟨rfl, Gr.refl _ _⟩) ?_
 refine Lx_q (i := 12) rfl rfl _ (fun v31 hv32 => R_move (v := (.bool ((decide (0 ≤ cmpSt o.node o.tm)) || (!(decide (o.par = ({ T := 0, R := 0 } : Stamp))))))) rfl ⟨rfl, Gr.refl _ _⟩) ?_
 refine Lx_qg (i := 13) true ((decide (0 ≤ cmpSt o.node o.tm)) || (!(decide (o.par = ({ T := 0, R := 0 } : Stamp))))) rfl rfl rfl rfl rfl (!((decide (0 ≤ cmpSt o.node o.tm)) || (!(decide (o.par = ({ T := 0, R := 0 } : Stamp)))))) ga_f _ (fun hA v33 hv34 => R_fieldAddr (off := 7) (oo := 7) Tryz.underlying72 rfl rfl Tryz.sizeOf9 rfl rfl ⟨rfl, Gr.refl _ _⟩) ?_
 refine Lx_qg (i := 14) true ((decide (0 ≤ cmpSt o.node o.tm)) || (!(decide (o.par = ({ T := 0, R := 0 } : Stamp))))) rfl rfl rfl rfl rfl (!((decide (0 ≤ cmpSt o.node o.tm)) || (!(decide (o.par = ({ T := 0, R := 0 } : Stamp)))))) ga_f _ (fun hA v35 hv36 => R_load1 (v := (.string o.name)) Tryz.isAgg9 (gv_t hA) ((boxR_at ((H6.ext hv36).getOwn 0 rfl)).chunks 7 1 7 7 _ rfl rfl rfl) ⟨rfl, Gr.refl _ _⟩) ?_
 refine Lx_qg (i := 15) true ((decide (0 ≤ cmpSt o.node o.tm)) || (!(decide (o.par = ({ T := 0, R := 0 } : Stamp))))) rfl rfl rfl rfl rfl (!((decide (0 ≤ cmpSt o.node o.tm)) || (!(decide (o.par = ({ T := 0, R := 0 } : Stamp)))))) ga_f _ (fun hA v37 hv38 => R_cmpS (a := o.name) (b := ByteArray.empty) (r := (!(decide (o.name = ByteArray.empty)))) (gv_t hA) rfl rfl ⟨rfl, Gr.refl _ _⟩) ?_
 refine Lx_q (i := 16) rfl rfl _ (fun v39 hv40 => R_pick (t := ((decide (0 ≤ cmpSt o.node o.tm)) || (!(decide (o.par = ({ T := 0, R := 0 } : Stamp)))))) (v := (.bool (((decide (0 ≤ cmpSt o.node o.tm)) || (!(decide (o.par = ({ T := 0, R := 0 } : Stamp))))) || (!(decide (o.name = ByteArray.empty)))))) rfl pk_or ⟨rfl, Gr.refl _ _⟩) ?_
 refine Lx_q (i := 17) rfl rfl _ (fun v41 hv42 => R_move (v := (.bool (((decide (0 ≤ cmpSt o.node o.tm)) || (!(decide (o.par = ({ T := 0, R := 0 } : Stamp))))) || (!(decide (o.name = ByteArray.empty)))))) rfl ⟨rfl, Gr.refl _ _⟩) ?_
 refine Lx_qg (i := 18) true (((decide (0 ≤ cmpSt o.node o.tm)) || (!(decide (o.par = ({ T := 0, R := 0 } : Stamp))))) || (!(decide (o.name = ByteArray.empty)))) rfl rfl rfl rfl rfl (!(((decide (0 ≤ cmpSt o.node o.tm)) || (!(decide (o.par = ({ T := 0, R := 0 } : Stamp))))) || (!(decide (o.name = ByteArray.empty))))) ga_f _ (fun hA v43 hv44 => R_fieldAddr (off := 8) (oo := 8) Tryz.underlying72 rfl rfl Tryz.sizeOf45 rfl rfl ⟨rfl, Gr.refl _ _⟩) ?_
 refine Lx_qg (i := 19) true (((decide (0 ≤ cmpSt o.node o.tm)) || (!(decide (o.par = ({ T := 0, R := 0 } : Stamp))))) || (!(decide (o.name = ByteArray.empty)))) rfl rfl rfl rfl rfl (!(((decide (0 ≤ cmpSt o.node o.tm)) || (!(decide (o.par = ({ T := 0, R := 0 } : Stamp))))) || (!(decide (o.name = ByteArray.empty))))) ga_f _ (fun hA v45 hv46 => R_loadA (cs := [(idCells o.data)]) Tryz.isAgg45 Tryz.sizeOf45 rfl (gv_t hA) ((boxR_at ((H6.ext hv46).getOwn 0 rfl)).chunks 8 1 8 8 _ rfl rfl rfl) ⟨rfl, Gr.refl _ _⟩) ?_
 refine Lx_qg (i := 20) true (((decide (0 ≤ cmpSt o.node o.tm)) || (!(decide (o.par = ({ T := 0, R := 0 } : Stamp))))) || (!(decide (o.name = ByteArray.empty)))) rfl rfl rfl rfl rfl (!(((decide (0 ≤ cmpSt o.node o.tm)) || (!(decide (o.par = ({ T := 0, R := 0 } : Stamp))))) || (!(decide (o.name = ByteArray.empty))))) ga_f _ (fun hA v47 hv48 => R_buildL (vs := []) (v := aggOf [(idCells zeroId)]) rfl (fun _ => by kernel_rfl) ⟨rfl, Gr.refl _ _⟩) ?_
 refine Lx_qg (i := 21) true (((decide (0 ≤ cmpSt o.node o.tm)) || (!(decide (o.par = ({ T := 0, R := 0 } : Stamp))))) || (!(decide (o.name = ByteArray.empty)))) rfl rfl rfl rfl rfl (!(((decide (0 ≤ cmpSt o.node o.tm)) || (!(decide (o.par = ({ T := 0, R := 0 } : Stamp))))) || (!(decide (o.name = ByteArray.empty))))) ga_f _ (fun hA v49 hv50 => R_eqv (a := o.data) (b := zeroId) eqv_ID45 rfl Tryz.eqGuardType45 (gv_t hA) (gv_t hA) ⟨rfl, Gr.refl _ _⟩) ?_
 refine Lx_q (i := 22) rfl rfl _ (fun v51 hv52 => R_pick (t := (((decide (0 ≤ cmpSt o.node o.tm)) || (!(decide (o.par = ({ T := 0, R := 0 } : Stamp))))) || (!(decide (o.name = ByteArray.empty))))) (v := (.bool ((((decide (0 ≤ cmpSt o.node o.tm)) || (!(decide (o.par = ({ T := 0, R := 0 } : Stamp))))) || (!(decide (o.name = ByteArray.empty)))) || (decide (o.data = zeroId))))) rfl pk_or ⟨rfl, Gr.refl _ _⟩) ?_
 refine Lx_q (i := 23) rfl rfl _ (fun v53 hv54 => R_move (v := (.bool ((((decide (0 ≤ cmpSt o.node o.tm)) || (!(decide (o.par = ({ T := 0, R := 0 } : Stamp))))) || (!(decide (o.name = ByteArray.empty)))) || (decide (o.data = zeroId))))) rfl ⟨rfl, Gr.refl _ _⟩) ?_
 refine Lx_qg (i := 24) true ((((decide (0 ≤ cmpSt o.node o.tm)) || (!(decide (o.par = ({ T := 0, R := 0 } : Stamp))))) || (!(decide (o.name = ByteArray.empty)))) || (decide (o.data = zeroId))) rfl rfl rfl rfl rfl (!((((decide (0 ≤ cmpSt o.node o.tm)) || (!(decide (o.par = ({ T := 0, R := 0 } : Stamp))))) || (!(decide (o.name = ByteArray.empty)))) || (decide (o.data = zeroId)))) ga_f _ (fun hA v55 hv56 => R_fieldAddr (off := 40) (oo := 40) Tryz.underlying72 rfl rfl Tryz.sizeOf70 rfl rfl ⟨rfl, Gr.refl _ _⟩) ?_
 refine Lx_qg (i := 25) true ((((decide (0 ≤ cmpSt o.node o.tm)) || (!(decide (o.par = ({ T := 0, R := 0 } : Stamp))))) || (!(decide (o.name = ByteArray.empty)))) || (decide (o.data = zeroId))) rfl rfl rfl rfl rfl (!((((decide (0 ≤ cmpSt o.node o.tm)) || (!(decide (o.par = ({ T := 0, R := 0 } : Stamp))))) || (!(decide (o.name = ByteArray.empty)))) || (decide (o.data = zeroId)))) ga_f _ (fun hA v57 hv58 => R_load1 (v := (slV o.oh o.over)) Tryz.isAgg70 (gv_t hA) ((boxR_at ((H6.ext hv58).getOwn 0 rfl)).chunks 9 1 40 40 _ rfl rfl rfl) ⟨rfl, Gr.refl _ _⟩) ?_
 refine Lx_qg (i := 26) true ((((decide (0 ≤ cmpSt o.node o.tm)) || (!(decide (o.par = ({ T := 0, R := 0 } : Stamp))))) || (!(decide (o.name = ByteArray.empty)))) || (decide (o.data = zeroId))) rfl rfl rfl rfl rfl (!((((decide (0 ≤ cmpSt o.node o.tm)) || (!(decide (o.par = ({ T := 0, R := 0 } : Stamp))))) || (!(decide (o.name = ByteArray.empty)))) || (decide (o.data = zeroId)))) ga_f _ (fun hA v59 hv60 => R_len_slice (a := o.oh.a) (n := o.over.length) (c := o.oh.c) Tryz.underlying70 (gv_t hA) ⟨rfl, Gr.refl _ _⟩) ?_
 refine Lx_qg (i := 27) true ((((decide (0 ≤ cmpSt o.node o.tm)) || (!(decide (o.par = ({ T := 0, R := 0 } : Stamp))))) || (!(decide (o.name = ByteArray.empty)))) || (decide (o.data = zeroId))) rfl rfl rfl rfl rfl (!((((decide (0 ≤ cmpSt o.node o.tm)) || (!(decide (o.par = ({ T := 0, R := 0 } : Stamp))))) || (!(decide (o.name = ByteArray.empty)))) || (decide (o.data = zeroId)))) ga_f _ (fun hA v61 hv62 => R_cmp (a := ((o.over.length : Nat) : Int)) (b := 64) (r := (decide (64 < ((o.over.length : Nat) : Int)))) (gv_t hA) rfl rfl ⟨rfl, Gr.refl _ _⟩) ?_
 refine Lx_q (i := 28) rfl rfl _ (fun v63 hv64 => R_pick (t := ((((decide (0 ≤ cmpSt o.node o.tm)) || (!(decide (o.par = ({ T := 0, R := 0 } : Stamp))))) || (!(decide (o.name = ByteArray.empty)))) || (decide (o.data = zeroId)))) (v := (.bool (((((decide (0 ≤ cmpSt o.node o.tm)) || (!(decide (o.par = ({ T := 0, R := 0 } : Stamp))))) || (!(decide (o.name = ByteArray.empty)))) || (decide (o.data = zeroId))) || (decide (64 < ((o.over.length : Nat) : Int)))))) rfl pk_or ⟨rfl, Gr.refl _ _⟩) ?_
 refine Lx_nil (fun w65 hw66 => ?_)
 have H67 := H6.ext hw66
 refine Then_n ?_
 refine W_cond (t := (((((decide (0 ≤ cmpSt o.node o.tm)) || (!(decide (o.par = ({ T := 0, R := 0 } : Stamp))))) || (!(decide (o.name = ByteArray.empty)))) || (decide (o.data = zeroId))) || (decide (64 < ((o.over.length : Nat) : Int))))) rfl (fun hc68 => ?_) (fun hc68 => ?_)
 ·have hc68 : (((((0 ≤ cmpSt o.node o.tm) ∨ ¬ (o.par = ({ T := 0, R := 0 } : Stamp))) ∨ ¬ (o.name = ByteArray.empty)) ∨ (o.data = zeroId)) ∨ (64 < ((o.over.length : Nat) : Int))) := (Or.imp (fun h => (Or.imp (fun h => (Or.imp (fun h => (Or.imp (fun h => (of_decide_eq_true h)) (fun h => (of_decide_eq_false (notT h))) (orT h))) (fun h => (of_decide_eq_false (notT h))) (orT h))) (fun h => (of_decide_eq_true h)) (orT h))) (fun h => (of_decide_eq_true h)) (orT hc68))
  refine W_seq (W_reg ?_)
  refine O_v rfl (R_assign (v := (.bool false)) rfl ?_)
  refine O_nil (Then_n (W_ret (Then_r ?_)))
  refine ret_1 (v := (.bool false)) Tryz.results129 rfl ?_
  exact ⟨(editOk_f1 (by assumption)), H67.gr⟩
 ·have hc68 : ((((¬ (0 ≤ cmpSt o.node o.tm) ∧ (o.par = ({ T := 0, R := 0 } : Stamp))) ∧ (o.name = ByteArray.empty)) ∧ ¬ (o.data = zeroId)) ∧ ¬ (64 < ((o.over.length : Nat) : Int))) := (And.imp (fun h => (And.imp (fun h => (And.imp (fun h => (And.imp (fun h => (of_decide_eq_false h)) (fun h => (of_decide_eq_true (notF h))) (orF h))) (fun h => (of_decide_eq_true (notF h))) (orF h))) (fun h => (of_decide_eq_false h)) (orF h))) (fun h => (of_decide_eq_false h)) (orF hc68))
  refine W_skip (Then_n (W_seq (W_seq (W_reg ?_))))
  refine O_v rfl (R_fieldAddr (off := 40) (oo := 40) Tryz.underlying72 rfl rfl Tryz.sizeOf70 rfl rfl ?_)
  refine O_v rfl (R_load1 (v := (slV o.oh o.over)) Tryz.isAgg70 rfl ((boxR_at (H67.getOwn 0 rfl)).chunks 9 1 40 40 _ rfl rfl rfl) ?_)
  refine O_v rfl (R_len_slice (a := o.oh.a) (n := o.over.length) (c := o.oh.c) Tryz.underlying70 rfl ?_)
  refine O_v rfl (R_move (v := (.int .i64 0)) rfl ?_)
  refine O_nil (Then_n (W_block ?_))
  refine W_loop (fun m69 e70 w71 => ∃ (k : Nat), m69 = o.over.length - k ∧ (k ≤ o.over.length) ∧ (∀ i, i < k → opOverAt o.tm o.over i) ∧ ∃ eb72, e70 = envL [(1, (.pointer (some ⟨b2, 0, none⟩))), (35, (slV o.oh o.over)), (36, (.int .i64 ((o.over.length : Nat) : Int))), (37, (.int .i64 ((k : Nat) : Int)))] eb72 ∧ Ctx w nob w71 [boxR b2 72 [[(.int .i64 o.kind)], [(.int .i64 o.tm.T)], [(.int .i64 o.tm.R)], [(.int .i64 o.node.T)], [(.int .i64 o.node.R)], [(.int .i64 o.par.T)], [(.int .i64 o.par.R)], [(.string o.name)], (idCells o.data), [(slV o.oh o.over)]]] [slI (Old w) stampCh 2 o.oh o.over]) _ ⟨0, rfl, (by omega), (all_zero _), _, envL_self ⟨rfl, rfl, rfl, rfl, trivial⟩, H67⟩ ?_
  rintro m69 _ w71 ⟨k, rfl, hk, hn, eb72, rfl, H73⟩
  refine W_seq (W_reg ?_)
  refine O_v rfl (R_cmp (a := ((k : Nat) : Int)) (b := ((o.over.length : Nat) : Int)) (r := (decide (((k : Nat) : Int) < ((o.over.length : Nat) : Int)))) rfl rfl rfl ?_)
  refine O_nil (Then_n (W_seq ?_))
  refine W_cond (t := (decide (((k : Nat) : Int) < ((o.over.length : Nat) : Int)))) rfl (fun hc74 => ?_) (fun hc74 => ?_)
  ·have hc74 : (((k : Nat) : Int) < ((o.over.length : Nat) : Int)) := (of_decide_eq_true hc74)
   refine W_skip (Then_n (W_seq (W_block (W_seq (W_reg ?_)))))
   refine O_v rfl (R_move (v := (.int .i64 ((k : Nat) : Int))) rfl ?_)
   refine O_v rfl (R_index_pure (H73.sl 0 rfl) (n := o.over.length) rfl (j := ((k : Nat) : Int)) (oo := (o.oh.o + k * 2)) Tryz.underlying70 Tryz.sizeOf69 rfl rfl (by omega) (by omega) rfl ?_)
   refine O_v rfl (R_loadA (cs := [[(.int .i64 ((nth o.over k).T))], [(.int .i64 ((nth o.over k).R))]]) Tryz.isAgg69 Tryz.sizeOf69 rfl rfl ((Sl.elem (H73.sl 0 rfl) (i := k) (by omega) rfl).chunks 0 2 0 (o.oh.o + k * 2) _ rfl rfl rfl) ?_)
   refine O_v rfl (C_alloc H73 [[(.int .i64 0)], [(.int .i64 0)]] Tryz.zeroValue69 ?_)
   intro b75 w76 hb77 hx78 H79
   refine O_v rfl (R_assign (v := (.int .i64 ((k : Nat) : Int))) rfl ?_)
   refine O_u (C_storeA H79 0 rfl 0 (sub := [[(.int .i64 ((nth o.over k).T))], [(.int .i64 ((nth o.over k).R))]]) [[(.int .i64 ((nth o.over k).T))], [(.int .i64 ((nth o.over k).R))]] Tryz.sizeOf69 rfl rfl rfl rfl ⟨[[(.int .i64 0)], [(.int .i64 0)]], [], rfl, rfl, rfl⟩ rfl ?_)
   intro w80 hg81 H82
   refine O_nil (Then_n (W_seq ?_))
   refine W_rgd TryzMixed [(0, .q 0), (1, .q 0), (2, .q 0), (3, .q 0), (4, .q 0), (5, .q 0), (6, .q 0), (7, .q 0), (8, .q 0), (9, .q 0), (10, .q 0), (11, .q 0), (12, .q 0), (13, .q 0), (14, .q 0), (15, .q 0), (16, .q 0), (17, .q 0), (18, .q 0), (19, .q 0), (20, .q 0), (21, .q 0), (22, .q 0), (23, .q 0), (24, .q 0)] (by kernel_rfl) ?_
   refine Lx_q (i := 0) rfl rfl _ (fun v83 hv84 => R_loadA (cs := [[(.int .i64 ((nth o.over k).T))], [(.int .i64 ((nth o.over k).R))]]) Tryz.isAgg69 Tryz.sizeOf69 rfl rfl ((boxR_at ((H82.ext hv84).getOwn 0 rfl)).chunks 0 2 0 0 _ rfl rfl rfl) ⟨rfl, Gr.refl _ _⟩) ?_
   refine Lx_q (i := 1) rfl rfl (.bool (stRight (nth o.over k))) (fun v85 hv86 => R_callL (vs := [(aggOf (stampCh (nth o.over k)))]) stamp_edit_c100 rfl rfl (stamp_Right (nth o.over k) v85 )) ?_
   refine Lx_q (i := 2) rfl rfl _ (fun v87 hv88 => R_not rfl ⟨rfl, Gr.refl _ _⟩) ?_
   refine Lx_q (i := 3) rfl rfl _ (fun v89 hv90 => R_move (v := (.bool (!(stRight (nth o.over k))))) rfl ⟨rfl, Gr.refl _ _⟩) ?_
   refine Lx_qg (i := 4) true (!(stRight (nth o.over k))) rfl rfl rfl rfl rfl (!(!(stRight (nth o.over k)))) ga_f _ (fun hA v91 hv92 => R_loadA (cs := [[(.int .i64 ((nth o.over k).T))], [(.int .i64 ((nth o.over k).R))]]) Tryz.isAgg69 Tryz.sizeOf69 rfl rfl ((boxR_at ((H82.ext hv92).getOwn 0 rfl)).chunks 0 2 0 0 _ rfl rfl rfl) ⟨rfl, Gr.refl _ _⟩) ?_
   refine Lx_qg (i := 5) true (!(stRight (nth o.over k))) rfl rfl rfl rfl rfl (!(!(stRight (nth o.over k)))) ga_f _ (fun hA v93 hv94 => R_fieldAddr (off := 1) (oo := 1) Tryz.underlying72 rfl rfl Tryz.sizeOf69 rfl rfl ⟨rfl, Gr.refl _ _⟩) ?_
   refine Lx_qg (i := 6) true (!(stRight (nth o.over k))) rfl rfl rfl rfl rfl (!(!(stRight (nth o.over k)))) ga_f _ (fun hA v95 hv96 => R_loadA (cs := [[(.int .i64 o.tm.T)], [(.int .i64 o.tm.R)]]) Tryz.isAgg69 Tryz.sizeOf69 rfl (gv_t hA) ((boxR_at ((H82.ext hv96).getOwn 1 rfl)).chunks 1 2 1 1 _ rfl rfl rfl) ⟨rfl, Gr.refl _ _⟩) ?_
   refine Lx_qg (i := 7) true (!(stRight (nth o.over k))) rfl rfl rfl rfl rfl (!(!(stRight (nth o.over k)))) ga_f (.int .i64 (cmpSt (nth o.over k) o.tm)) (fun hA v97 hv98 => R_callL (vs := [(aggOf (stampCh (nth o.over k))), (aggOf (stampCh o.tm))]) stamp_edit_c84 rfl (lst2 (gv_t hA) (gv_t hA)) (stamp_Cmp (nth o.over k) o.tm v97 )) ?_
   refine Lx_qg (i := 8) true (!(stRight (nth o.over k))) rfl rfl rfl rfl rfl (!(!(stRight (nth o.over k)))) ga_f _ (fun hA v99 hv100 => R_cmp (a := cmpSt (nth o.over k) o.tm) (b := 0) (r := (decide (0 ≤ cmpSt (nth o.over k) o.tm))) (gv_t hA) rfl rfl ⟨rfl, Gr.refl _ _⟩) ?_
   refine Lx_q (i := 9) rfl rfl _ (fun v101 hv102 => R_pick (t := (!(stRight (nth o.over k)))) (v := (.bool ((!(stRight (nth o.over k))) || (decide (0 ≤ cmpSt (nth o.over k) o.tm))))) rfl pk_or ⟨rfl, Gr.refl _ _⟩) ?_
   refine Lx_q (i := 10) rfl rfl _ (fun v103 hv104 => R_move (v := (.bool ((!(stRight (nth o.over k))) || (decide (0 ≤ cmpSt (nth o.over k) o.tm))))) rfl ⟨rfl, Gr.refl _ _⟩) ?_
   refine Lx_qg (i := 11) true ((!(stRight (nth o.over k))) || (decide (0 ≤ cmpSt (nth o.over k) o.tm))) rfl rfl rfl rfl rfl (!((!(stRight (nth o.over k))) || (decide (0 ≤ cmpSt (nth o.over k) o.tm)))) ga_f _ (fun hA v105 hv106 => R_move (v := (.int .i64 ((k : Nat) : Int))) rfl ⟨rfl, Gr.refl _ _⟩) ?_
   refine Lx_qg (i := 12) true ((!(stRight (nth o.over k))) || (decide (0 ≤ cmpSt (nth o.over k) o.tm))) rfl rfl rfl rfl rfl (!((!(stRight (nth o.over k))) || (decide (0 ≤ cmpSt (nth o.over k) o.tm)))) ga_f _ (fun hA v107 hv108 => R_cmp (a := ((k : Nat) : Int)) (b := 0) (r := (decide (0 < ((k : Nat) : Int)))) (gv_t hA) rfl rfl ⟨rfl, Gr.refl _ _⟩) ?_
   refine Lx_qg (i := 13) true ((!(stRight (nth o.over k))) || (decide (0 ≤ cmpSt (nth o.over k) o.tm))) rfl rfl rfl rfl rfl (!((!(stRight (nth o.over k))) || (decide (0 ≤ cmpSt (nth o.over k) o.tm)))) ga_f _ (fun hA v109 hv110 => R_move (v := (.bool (decide (0 < ((k : Nat) : Int))))) (gv_t hA) ⟨rfl, Gr.refl _ _⟩) ?_
   refine Lx_qg (i := 14) (!((!(stRight (nth o.over k))) || (decide (0 ≤ cmpSt (nth o.over k) o.tm)))) (decide (0 < ((k : Nat) : Int))) rfl rfl rfl rfl rfl ((!((!(stRight (nth o.over k))) || (decide (0 ≤ cmpSt (nth o.over k) o.tm)))) && (decide (0 < ((k : Nat) : Int)))) gb_t _ (fun hA v111 hv112 => R_fieldAddr (off := 40) (oo := 40) Tryz.underlying72 rfl rfl Tryz.sizeOf70 rfl rfl ⟨rfl, Gr.refl _ _⟩) ?_
   refine Lx_qg (i := 15) (!((!(stRight (nth o.over k))) || (decide (0 ≤ cmpSt (nth o.over k) o.tm)))) (decide (0 < ((k : Nat) : Int))) rfl rfl rfl rfl rfl ((!((!(stRight (nth o.over k))) || (decide (0 ≤ cmpSt (nth o.over k) o.tm)))) && (decide (0 < ((k : Nat) : Int)))) gb_t _ (fun hA v113 hv114 => R_load1 (v := (slV o.oh o.over)) Tryz.isAgg70 (gv_t hA) ((boxR_at ((H82.ext hv114).getOwn 1 rfl)).chunks 9 1 40 40 _ rfl rfl rfl) ⟨rfl, Gr.refl _ _⟩) ?_
   refine Lx_qg (i := 16) (!((!(stRight (nth o.over k))) || (decide (0 ≤ cmpSt (nth o.over k) o.tm)))) (decide (0 < ((k : Nat) : Int))) rfl rfl rfl rfl rfl ((!((!(stRight (nth o.over k))) || (decide (0 ≤ cmpSt (nth o.over k) o.tm)))) && (decide (0 < ((k : Nat) : Int)))) gb_t _ (fun hA v115 hv116 => R_move (v := (.int .i64 ((k : Nat) : Int))) rfl ⟨rfl, Gr.refl _ _⟩) ?_
   refine Lx_qg (i := 17) (!((!(stRight (nth o.over k))) || (decide (0 ≤ cmpSt (nth o.over k) o.tm)))) (decide (0 < ((k : Nat) : Int))) rfl rfl rfl rfl rfl ((!((!(stRight (nth o.over k))) || (decide (0 ≤ cmpSt (nth o.over k) o.tm)))) && (decide (0 < ((k : Nat) : Int)))) gb_t _ (fun hA v117 hv118 => by
          have hP : (((stRight (nth o.over k)) = true ∧ ¬ (0 ≤ cmpSt (nth o.over k) o.tm)) ∧ (0 < ((k : Nat) : Int))) := (And.imp (fun h => (And.imp (fun h => (notF h)) (fun h => (of_decide_eq_false h)) (orF (notT h)))) (fun h => (of_decide_eq_true h)) (andT hA))
          exact R_arith (a := ((k : Nat) : Int)) (b := 1) (r0 := ((k : Nat) : Int) - 1) (r := ((k - 1 : Nat) : Int)) (gv_t hA) rfl rfl (wrapP _ (by omega) (by omega)) ⟨rfl, Gr.refl _ _⟩) ?_
   refine Lx_qg (i := 18) (!((!(stRight (nth o.over k))) || (decide (0 ≤ cmpSt (nth o.over k) o.tm)))) (decide (0 < ((k : Nat) : Int))) rfl rfl rfl rfl rfl ((!((!(stRight (nth o.over k))) || (decide (0 ≤ cmpSt (nth o.over k) o.tm)))) && (decide (0 < ((k : Nat) : Int)))) gb_t _ (fun hA v119 hv120 => by
          have hP : (((stRight (nth o.over k)) = true ∧ ¬ (0 ≤ cmpSt (nth o.over k) o.tm)) ∧ (0 < ((k : Nat) : Int))) := (And.imp (fun h => (And.imp (fun h => (notF h)) (fun h => (of_decide_eq_false h)) (orF (notT h)))) (fun h => (of_decide_eq_true h)) (andT hA))
          exact R_index_pure (H82.sl 0 rfl) (n := o.over.length) rfl (j := ((k - 1 : Nat) : Int)) (oo := (o.oh.o + (k - 1) * 2)) Tryz.underlying70 Tryz.sizeOf69 (gv_t hA) (gv_t hA) (by omega) (by omega) rfl ⟨rfl, Gr.refl _ _⟩) ?_
   refine Lx_qg (i := 19) (!((!(stRight (nth o.over k))) || (decide (0 ≤ cmpSt (nth o.over k) o.tm)))) (decide (0 < ((k : Nat) : Int))) rfl rfl rfl rfl rfl ((!((!(stRight (nth o.over k))) || (decide (0 ≤ cmpSt (nth o.over k) o.tm)))) && (decide (0 < ((k : Nat) : Int)))) gb_t _ (fun hA v121 hv122 => by
          have hP : (((stRight (nth o.over k)) = true ∧ ¬ (0 ≤ cmpSt (nth o.over k) o.tm)) ∧ (0 < ((k : Nat) : Int))) := (And.imp (fun h => (And.imp (fun h => (notF h)) (fun h => (of_decide_eq_false h)) (orF (notT h)))) (fun h => (of_decide_eq_true h)) (andT hA))
          exact R_loadA (cs := [[(.int .i64 ((nth o.over (k - 1)).T))], [(.int .i64 ((nth o.over (k - 1)).R))]]) Tryz.isAgg69 Tryz.sizeOf69 rfl (gv_t hA) ((Sl.elem ((H82.ext hv122).sl 0 rfl) (i := (k - 1)) (by omega) rfl).chunks 0 2 0 (o.oh.o + (k - 1) * 2) _ rfl rfl rfl) ⟨rfl, Gr.refl _ _⟩) ?_
   refine Lx_qg (i := 20) (!((!(stRight (nth o.over k))) || (decide (0 ≤ cmpSt (nth o.over k) o.tm)))) (decide (0 < ((k : Nat) : Int))) rfl rfl rfl rfl rfl ((!((!(stRight (nth o.over k))) || (decide (0 ≤ cmpSt (nth o.over k) o.tm)))) && (decide (0 < ((k : Nat) : Int)))) gb_t _ (fun hA v123 hv124 => R_loadA (cs := [[(.int .i64 ((nth o.over k).T))], [(.int .i64 ((nth o.over k).R))]]) Tryz.isAgg69 Tryz.sizeOf69 rfl rfl ((boxR_at ((H82.ext hv124).getOwn 0 rfl)).chunks 0 2 0 0 _ rfl rfl rfl) ⟨rfl, Gr.refl _ _⟩) ?_
   refine Lx_qg (i := 21) (!((!(stRight (nth o.over k))) || (decide (0 ≤ cmpSt (nth o.over k) o.tm)))) (decide (0 < ((k : Nat) : Int))) rfl rfl rfl rfl rfl ((!((!(stRight (nth o.over k))) || (decide (0 ≤ cmpSt (nth o.over k) o.tm)))) && (decide (0 < ((k : Nat) : Int)))) gb_t (.int .i64 (cmpSt (nth o.over (k - 1)) (nth o.over k))) (fun hA v125 hv126 => R_callL (vs := [(aggOf (stampCh (nth o.over (k - 1)))), (aggOf (stampCh (nth o.over k)))]) stamp_edit_c84 rfl (lst2 (gv_t hA) (gv_t hA)) (stamp_Cmp (nth o.over (k - 1)) (nth o.over k) v125 )) ?_
   refine Lx_qg (i := 22) (!((!(stRight (nth o.over k))) || (decide (0 ≤ cmpSt (nth o.over k) o.tm)))) (decide (0 < ((k : Nat) : Int))) rfl rfl rfl rfl rfl ((!((!(stRight (nth o.over k))) || (decide (0 ≤ cmpSt (nth o.over k) o.tm)))) && (decide (0 < ((k : Nat) : Int)))) gb_t _ (fun hA v127 hv128 => R_cmp (a := cmpSt (nth o.over (k - 1)) (nth o.over k)) (b := 0) (r := (decide (0 ≤ cmpSt (nth o.over (k - 1)) (nth o.over k)))) (gv_t hA) rfl rfl ⟨rfl, Gr.refl _ _⟩) ?_
   refine Lx_qg (i := 23) true ((!(stRight (nth o.over k))) || (decide (0 ≤ cmpSt (nth o.over k) o.tm))) rfl rfl rfl rfl rfl (!((!(stRight (nth o.over k))) || (decide (0 ≤ cmpSt (nth o.over k) o.tm)))) ga_f _ (fun hA v129 hv130 => R_pick (t := (decide (0 < ((k : Nat) : Int)))) (v := (.bool ((decide (0 < ((k : Nat) : Int))) && (decide (0 ≤ cmpSt (nth o.over (k - 1)) (nth o.over k)))))) (gv_t hA) (pk_andA hA) ⟨rfl, Gr.refl _ _⟩) ?_
   refine Lx_q (i := 24) rfl rfl _ (fun v131 hv132 => R_pick (t := ((!(stRight (nth o.over k))) || (decide (0 ≤ cmpSt (nth o.over k) o.tm)))) (v := (.bool (((!(stRight (nth o.over k))) || (decide (0 ≤ cmpSt (nth o.over k) o.tm))) || ((decide (0 < ((k : Nat) : Int))) && (decide (0 ≤ cmpSt (nth o.over (k - 1)) (nth o.over k))))))) rfl pk_or ⟨rfl, Gr.refl _ _⟩) ?_
   refine Lx_nil (fun w133 hw134 => ?_)
   have H135 := H82.ext hw134
   refine Then_n ?_
   refine W_cond (t := (((!(stRight (nth o.over k))) || (decide (0 ≤ cmpSt (nth o.over k) o.tm))) || ((decide (0 < ((k : Nat) : Int))) && (decide (0 ≤ cmpSt (nth o.over (k - 1)) (nth o.over k)))))) rfl (fun hc136 => ?_) (fun hc136 => ?_)
   ·have hc136 : (((stRight (nth o.over k)) = false ∨ (0 ≤ cmpSt (nth o.over k) o.tm)) ∨ ((0 < ((k : Nat) : Int)) ∧ (0 ≤ cmpSt (nth o.over (k - 1)) (nth o.over k)))) := (Or.imp (fun h => (Or.imp (fun h => (notT h)) (fun h => (of_decide_eq_true h)) (orT h))) (fun h => (And.imp (fun h => (of_decide_eq_true h)) (fun h => (of_decide_eq_true h)) (andT h))) (orT hc136))
    refine W_seq (W_reg ?_)
    refine O_v rfl (R_assign (v := (.bool false)) rfl ?_)
    refine O_nil (Then_n (W_ret (Blk_r (Then_r (Then_r (Blk_r (Then_r ?_)))))))
    refine ret_1 (v := (.bool false)) Tryz.results129 rfl ?_
    exact ⟨(editOk_f2 (k := k) (by omega) (by assumption)), H135.gr⟩
   ·have hc136 : (((stRight (nth o.over k)) = true ∧ ¬ (0 ≤ cmpSt (nth o.over k) o.tm)) ∧ (¬ (0 < ((k : Nat) : Int)) ∨ ¬ (0 ≤ cmpSt (nth o.over (k - 1)) (nth o.over k)))) := (And.imp (fun h => (And.imp (fun h => (notF h)) (fun h => (of_decide_eq_false h)) (orF h))) (fun h => (Or.imp (fun h => (of_decide_eq_false h)) (fun h => (of_decide_eq_false h)) (andF h))) (orF hc136))
    refine W_skip (Blk_n (Then_n (W_reg ?_)))
    refine O_v rfl (R_arith (a := ((k : Nat) : Int)) (b := 1) (r0 := ((k : Nat) : Int) + 1) (r := ((k + 1 : Nat) : Int)) rfl rfl rfl (wrapN _ (by omega)) ?_)
    refine O_v rfl (R_move (v := (.int .i64 ((k + 1 : Nat) : Int))) rfl ?_)
    refine O_nil (Then_n ?_)
    have H137 := H135.sub (B' := [boxR b2 72 [[(.int .i64 o.kind)], [(.int .i64 o.tm.T)], [(.int .i64 o.tm.R)], [(.int .i64 o.node.T)], [(.int .i64 o.node.R)], [(.int .i64 o.par.T)], [(.int .i64 o.par.R)], [(.string o.name)], (idCells o.data), [(slV o.oh o.over)]]]) (I' := [slI (Old w) stampCh 2 o.oh o.over]) (List.Sublist.cons _ (List.Sublist.cons_cons _ List.Sublist.slnil)) (List.forall_mem_cons.2 ⟨List.mem_of_getElem? (i := 0) rfl, fun _ h => (nomatch h)⟩)
    refine ⟨_, ?_, (k + 1), rfl, (by omega), (all_succ hn (overAt_t (by assumption))), _, envL_self ⟨rfl, rfl, rfl, rfl, trivial⟩, H137⟩
    omega
  ·have hc74 : ¬ (((k : Nat) : Int) < ((o.over.length : Nat) : Int)) := (of_decide_eq_false hc74)
   refine W_exit (Then_x (Then_x (Blk_x (Then_n (W_seq (W_reg ?_))))))
   refine O_v rfl (R_assign (v := (.bool true)) rfl ?_)
   refine O_nil (Then_n (W_ret ?_))
   refine ret_1 (v := (.bool true)) Tryz.results129 rfl ?_
   exact ⟨(editOk_t (by assumption) (by rwa [show o.over.length = k from by omega])), H73.gr⟩

end Go.Proofs.YthjdhfoeckfmbaaGreat
/- strings.IndexAny and IndexRune at texts of any bytes (over the kit's bodies). -/
namespace Go.Proofs.YthjdhfoeckfmbaaGreat
set_option linter.unusedVariables false
set_option linter.unusedSimpArgs false
open Go Go.Shelf Go.RowKit Go.Lib Go.Proofs
variable {P : Program} {ρ : Ren}
set_option maxHeartbeats 2000000 in
set_option maxRecDepth 1000000 in
theorem validRune_any (L : Lays.n152 P ρ) (r : Int) (w : World) : Calls P (ρ.f 119) #[.int .i32 r] w fun e w' => e = .returned (.bool (validRune r)) ∧ w' = w := by
  have t4 := L.t4; have a4 := L.a4; have z4 := L.z4; have v4 := L.v4
  have t21 := L.t21; have a21 := L.a21; have z21 := L.z21; have v21 := L.v21
  by_cases h1 : 0 ≤ r <;> by_cases h2 : r < 55296 <;> by_cases h3 : 57343 < r <;> by_cases h4 : r ≤ 1114111
  all_goals (go_enter L.f119, Body.n119_ntmps ρ; go_wp2; go_ret; exact ⟨by simp [validRune, h1, h2, h3, h4] <;> omega, rfl⟩)
set_option maxHeartbeats 4000000 in
set_option maxRecDepth 1000000 in
theorem indexRune_bad (L : Lays.n152 P ρ) (s : ByteArray) (r : Int) (w : World) (h0 : 128 ≤ r) (h65 : ¬ r = 65533) (hv : validRune r = false) :
    Calls P (ρ.f 152) #[.string s, .int .i32 r] w fun e w' => e = .returned (.int .i64 (-1)) ∧ w' = w := by
  have t3 := L.t3; have a3 := L.a3; have z3 := L.z3; have v3 := L.v3
  have t4 := L.t4; have a4 := L.a4; have z4 := L.z4; have v4 := L.v4
  have t5 := L.t5; have a5 := L.a5; have z5 := L.z5; have v5 := L.v5
  have t9 := L.t9; have a9 := L.a9; have z9 := L.z9; have v9 := L.v9
  have t21 := L.t21; have a21 := L.a21; have z21 := L.z21; have v21 := L.v21
  have e119 : ∀ args w, (callFunc (ρ.f 119) args).run P w = .ok (.enter (ρ.f 119) args) w := enters_of L.f119 (by kernel_rfl) rfl
  have h1 : (0 : Int) ≤ r := by omega
  have h2 : ¬ r < 128 := by omega
  have h65 : (r == 65533) = false := beq_eq_false_iff_ne.2 h65
  go_enter L.f152, Body.n152_ntmps ρ
  go_wp2_with (go_at_fn (ρ.f 119); refine (validRune_any L _ _).mono ?_; rintro e w' ⟨rfl, hw⟩; rw [hw, hv])
  go_ret
  exact ⟨rfl, rfl⟩
set_option maxHeartbeats 8000000 in
set_option maxRecDepth 1000000 in
theorem indexRune_err (L : Lays.n152 P ρ) (s : ByteArray) (w : World) (hs : ∀ (j : Nat) b, s.data.toList[j]? = some b → b.toNat < 128) :
    Calls P (ρ.f 152) #[.string s, .int .i32 65533] w fun e w' => e = .returned (.int .i64 (-1)) ∧ ∃ pos, w' = w.iter s pos := by
  have HA : Aside (∀ (j : Nat) b, s.data.toList[j]? = some b → b.toNat < 128) := hs
  clear hs
  have t3 := L.t3; have a3 := L.a3; have z3 := L.z3; have v3 := L.v3
  have t4 := L.t4; have a4 := L.a4; have z4 := L.z4; have v4 := L.v4
  have t5 := L.t5; have a5 := L.a5; have z5 := L.z5; have v5 := L.v5
  have t9 := L.t9; have a9 := L.a9; have z9 := L.z9; have v9 := L.v9
  have t21 := L.t21; have a21 := L.a21; have z21 := L.z21; have v21 := L.v21
  go_enter L.f152, Body.n152_ntmps ρ
  go_wp2
  go_loopg [5, 6] s.size (fun g _ _ wx => ∃ i : Nat, i + g = s.size ∧ wx = w.iter s i)
  case atStart => exact ⟨0, by omega, rfl⟩
  case round =>
    obtain ⟨i, hig, rfl⟩ := hrel
    cases gk with
    | zero =>
      obtain rfl : i = s.size := by omega
      have hnx := run_next_end (P := P) w s s.size
      go_wp2
      go_ret
      exact ⟨rfl, _, rfl⟩
    | succ g =>
      have hi : i < s.size := by omega
      obtain ⟨x, hx⟩ : ∃ x : UInt8, s[i]'hi = x := ⟨_, rfl⟩
      have hxl : s.data.toList[i]? = some x := by rw [← hx]; exact Lib.data_getElem? s i hi
      have hx128 : x.toNat < 128 := HA.out i x hxl
      have hnx := fun ty => run_next_ascii (P := P) w s i ty hi (by rw [hx]; exact hx128)
      rw [hx] at hnx
      have hne : ((x.toNat : Int) == 65533) = false := beq_eq_false_iff_ne.2 (by omega)
      clear hxl hx
      go_wp2
      go_roundg g
      case measure => omega
      case rel => exact ⟨i + 1, by omega, rfl⟩
theorem indexByte_high {l : List UInt8} {c : UInt8} (hs : ∀ b ∈ l, b.toNat < 128) (hc : 128 ≤ c.toNat) : Lib.indexByte l c = -1 := by
  induction l with
  | nil => rfl
  | cons b l ih =>
    have hb := hs b (List.mem_cons_self ..)
    have hne : (b == c) = false := beq_eq_false_iff_ne.2 (fun e => by rw [e] at hb; omega)
    unfold Lib.indexByte
    rw [hne, ih (fun x hx => hs x (List.mem_cons_of_mem _ hx))]
    rfl
set_option maxHeartbeats 8000000 in
set_option maxRecDepth 1000000 in
theorem indexRune_valid (L : Lays.n152 P ρ) (s : ByteArray) (r : Int) (w : World) (hs : ∀ b ∈ s.data.toList, b.toNat < 128) (hsz : s.size < 4294967281) (h0 : 128 ≤ r) (hr : r ≤ 1114111) (h65 : ¬ r = 65533) (hv : validRune r = true) :
    Calls P (ρ.f 152) #[.string s, .int .i32 r] w fun e w' => e = .returned (.int .i64 (-1)) ∧ ∃ n, w' = w.drewN n := by
  have t3 := L.t3; have a3 := L.a3; have z3 := L.z3; have v3 := L.v3
  have t4 := L.t4; have a4 := L.a4; have z4 := L.z4; have v4 := L.v4
  have t5 := L.t5; have a5 := L.a5; have z5 := L.z5; have v5 := L.v5
  have t9 := L.t9; have a9 := L.a9; have z9 := L.z9; have v9 := L.v9
  have t21 := L.t21; have a21 := L.a21; have z21 := L.z21; have v21 := L.v21
  have e119 : ∀ args w, (callFunc (ρ.f 119) args).run P w = .ok (.enter (ρ.f 119) args) w := enters_of L.f119 (by kernel_rfl) rfl
  have h1 : (0 : Int) ≤ r := by omega
  have h2 : ¬ r < 128 := by omega
  have h65 : (r == 65533) = false := beq_eq_false_iff_ne.2 h65
  obtain ⟨f1, f2, f3⟩ := encode_facts r (by rw [validRune_eq]; exact hv) h0
  go_enter L.f152, Body.n152_ntmps ρ
  go_wp2_with (go_at_fn (ρ.f 119); refine (validRune_any L _ _).mono ?_; rintro e w' ⟨rfl, hw⟩; rw [hw, hv])
  have hlen : ((Utf8.encode r).size : Int) - 1 = (((Utf8.encode r).size - 1 : Nat) : Int) := by omega
  refine wp_scope_straight ?_
  go_wp2
  go_loopg [9] 0 (fun g s9 wx => s9 = .int .i64 (((Utf8.encode r).size - 1 : Nat) : Int) ∧ wx = w)
  case atStart => exact ⟨rfl, rfl⟩
  case round =>
    obtain ⟨rfl, rfl⟩ := hrel
    by_cases hlt : (Utf8.encode r).size - 1 < s.size
    · have mixed := L.mixed
      have e137 : ∀ args w, (callFunc (ρ.f 137) args).run P w = .ok (.enter (ρ.f 137) args) w := enters_of L.f137 (by kernel_rfl) rfl
      have hly : (Utf8.encode r).size - 1 < (Utf8.encode r).size := by omega
      obtain ⟨x, hx⟩ : ∃ x : UInt8, s[(Utf8.encode r).size - 1]'hlt = x := ⟨_, rfl⟩
      obtain ⟨y, hy⟩ : ∃ y : UInt8, (Utf8.encode r)[(Utf8.encode r).size - 1]'hly = y := ⟨_, rfl⟩
      have hy128 : 128 ≤ y.toNat := by rw [← hy]; exact f3 hly
      have hx128 : x.toNat < 128 := hs x (by rw [← hx]; exact Array.getElem_mem_toList (xs := s.data) hlt)
      have hne : ((x.toNat : Int) == (y.toNat : Int)) = false := beq_eq_false_iff_ne.2 (by omega)
      have hback : ((y.toNat : Int)).toNat.toUInt8 = y := by simp
      have hib : ∀ a b, Lib.indexByte (s.extract a b).data.toList y = -1 := fun a b => indexByte_high (fun c hc => hs c (mem_extract hc)) hy128
      clear f3
      go_wp2
      refine wp_scope_straight ?_
      have hxo : ∀ h, s[(Utf8.encode r).size - 1]'h = x := fun _ => hx
      have hyo : ∀ h, (Utf8.encode r)[(Utf8.encode r).size - 1]'h = y := fun _ => hy
      go_wp2
      go_quiet_o (fail)
      go_wp2
      clear hxo hyo hx f1 f2
      generalize hk : (Utf8.encode r).size - 1 = k at *
      generalize hR : Utf8.encode r = R at *
      have hb0 : (0 : Int) ≤ (k : Int) + 1 := by omega
      have hb1 : (k : Int) + 1 ≤ (s.size : Int) := by omega
      have hbb : (0 : Int) ≤ (k : Int) + 1 ∧ (k : Int) + 1 ≤ (s.size : Int) := ⟨hb0, hb1⟩
      have hw0 : wrap64 ((k : Int) + 1) = (k : Int) + 1 := IntWalk.wrap64_in _ (by omega)
      have hw1 : IntKind.i64.wrap ((k : Int) + 1) = (k : Int) + 1 := IntWalk.i64_in _ (by omega)
      go_region_with_o (first | (go_at_fn (ρ.f 137); refine (Any.strings_IndexByte { L with } _ _ _).mono ?_; rintro e w' ⟨rfl, hw⟩; rw [hw, hback, hib]))
      go_wp2
      simp only [Exit.noGoto_ret, Exit.noGoto, Exit.inBlock, Exit.then]
      go_ret
      exact ⟨rfl, _, rfl⟩
    · go_wp2
      rw [Exit.noGoto_ret]
      go_ret
      exact ⟨rfl, 0, rfl⟩
theorem below_iter (w : World) (s : ByteArray) (pos : Nat) : Below w.heap.size w (w.iter s pos) := (Below.refl _ _).alloc (Nat.le_refl _) _
theorem below_drewN (w : World) (n : Nat) : Below w.heap.size w (w.drewN n) := ⟨rfl, rfl, rfl, Nat.le_refl _, fun _ _ => rfl⟩
theorem data_lt {s : ByteArray} (hs : ∀ b ∈ s.data.toList, b.toNat < 128) : ∀ (j : Nat) b, s.data.toList[j]? = some b → b.toNat < 128 := fun j b h => hs b (List.mem_of_getElem? h)
theorem indexRune_any (L : Lays.n152 P ρ) (s : ByteArray) (r : Nat) (w : World) (hs : ∀ b ∈ s.data.toList, b.toNat < 128) (hsz : s.size < 4294967281) (hr : r ≤ 2147483647) :
    Calls P (ρ.f 152) #[.string s, .int .i32 (r : Int)] w fun e w' => e = .returned (.int .i64 (if r < 128 then Lib.indexByte s.data.toList r.toUInt8 else -1)) ∧ Below w.heap.size w w' := by
  by_cases h : r < 128
  · rw [if_pos h]
    refine (Any.strings_IndexRune_ascii { L with } s (r : Int) w (by omega) (by omega)).mono ?_
    rintro e w' ⟨rfl, rfl⟩
    exact ⟨by simp, Below.refl _ _⟩
  · rw [if_neg h]
    by_cases h1 : (r : Int) = 65533
    · rw [h1]
      refine (indexRune_err L s w (data_lt hs)).mono ?_
      rintro e w' ⟨rfl, pos, rfl⟩
      exact ⟨rfl, below_iter w s pos⟩
    · cases hv : validRune (r : Int) with
      | false =>
        refine (indexRune_bad L s (r : Int) w (by omega) h1 hv).mono ?_
        rintro e w' ⟨rfl, rfl⟩
        exact ⟨rfl, Below.refl _ _⟩
      | true =>
        have hle : (r : Int) ≤ 1114111 := by
          unfold validRune at hv
          have := of_decide_eq_true hv
          omega
        refine (indexRune_valid L s (r : Int) w hs hsz (by omega) hle h1 hv).mono ?_
        rintro e w' ⟨rfl, n, rfl⟩
        exact ⟨rfl, below_drewN w n⟩
/-- The bytes behind a rune's first one are no ASCII bytes. -/
theorem decode_cont (s : ByteArray) (pos : Nat) (h : pos < s.size) : ∀ j, pos < j → j < pos + (Utf8.decode s pos).2 → j < s.size ∧ 128 ≤ (s.get! j).toNat := by
  intro j h1 h2
  unfold Utf8.decode at h2
  simp only at h2
  have key : ∀ k, (decide (pos + k < s.size) && (s.get! (pos + k)).toNat / 64 == 2) = true → j = pos + k → j < s.size ∧ 128 ≤ (s.get! j).toNat := by
    intro k hk e
    subst e
    simp only [Bool.and_eq_true, decide_eq_true_eq, beq_iff_eq] at hk
    exact ⟨hk.1, by omega⟩
  repeat' split at h2
  all_goals try simp only [Bool.and_eq_true] at *
  all_goals try dsimp only at h2
  all_goals first
    | omega
    | (have e : j = pos + 1 := by omega
       refine key 1 ?_ e
       simp_all; done)
    | (have e : j = pos + 1 ∨ j = pos + 2 := by omega
       refine e.elim (key 1 ?_) (key 2 ?_) <;> (simp_all; done))
    | (have e : j = pos + 1 ∨ j = pos + 2 ∨ j = pos + 3 := by omega
       refine e.elim (key 1 ?_) (fun e => e.elim (key 2 ?_) (key 3 ?_)) <;> (simp_all; done))
theorem get_data (s : ByteArray) {j : Nat} (h : j < s.size) : s.data.toList[j]? = some (s.get! j) := by
  rw [Lib.data_getElem? s j h]
  have := get_at s j h
  rw [Nat.add_zero] at this
  rw [this]
theorem noAny_rune {s chars : ByteArray} {i : Nat} (h : Lib.NoAny s.data.toList chars.data.toList i) (hc : ∀ b ∈ chars.data.toList, b.toNat < 128) (hi : i < s.size) (hx : 128 ≤ (s.get! i).toNat) : Lib.NoAny s.data.toList chars.data.toList (i + (Utf8.decode s i).2) := by
  intro j b hj hb
  by_cases h1 : j < i
  · exact h j b h1 hb
  · have hb128 : 128 ≤ b.toNat := by
      by_cases h2 : j = i
      · subst h2
        rw [get_data s hi] at hb
        rw [← Option.some.inj hb]; exact hx
      · obtain ⟨h3, h4⟩ := decode_cont s i hi j (by omega) hj
        rw [get_data s h3] at hb
        rw [← Option.some.inj hb]; exact h4
    cases hcon : chars.data.toList.contains b with
    | false => rfl
    | true =>
      have := hc b (by simpa using hcon)
      omega
set_option maxHeartbeats 8000000 in
set_option maxRecDepth 1000000 in
/-- s of at most 8 bytes, whatever they are. -/
theorem indexAny_short (L : Lays.n153 P ρ) (s chars : ByteArray) (w : World) (h2 : 2 ≤ chars.size) (hcsz : chars.size < 4294967281) (h8 : s.size ≤ 8) (hc : ∀ b ∈ chars.data.toList, b.toNat < 128) :
    Calls P (ρ.f 153) #[.string s, .string chars] w fun e w' => e = .returned (.int .i64 (Lib.indexAny s.data.toList chars.data.toList)) ∧ Below w.heap.size w w' := by
  have HC : Aside (∀ b ∈ chars.data.toList, b.toNat < 128) := hc
  clear hc
  have hemp : chars.toList.isEmpty = false := by
    rw [Lib.toList_data]
    cases h : chars.data.toList with
    | nil => have := Lib.size_eq chars; rw [h, List.length_nil] at this; omega
    | cons _ _ => rfl
  have hn1 : ((chars.size : Int) == 1) = false := beq_eq_false_iff_ne.2 (by omega)
  have h8z : decide ((8 : Int) < (s.size : Int)) = false := decide_eq_false (by omega)
  have t3 := L.t3; have a3 := L.a3; have z3 := L.z3; have v3 := L.v3
  have t4 := L.t4; have a4 := L.a4; have z4 := L.z4; have v4 := L.v4
  have t5 := L.t5; have a5 := L.a5; have z5 := L.z5; have v5 := L.v5
  have t9 := L.t9; have a9 := L.a9; have z9 := L.z9; have v9 := L.v9
  have t21 := L.t21; have a21 := L.a21; have z21 := L.z21; have v21 := L.v21
  have e152 : ∀ args w, (callFunc (ρ.f 152) args).run P w = .ok (.enter (ρ.f 152) args) w := enters_of L.f152 (by kernel_rfl) rfl
  have e226 : ∀ args w, (callFunc (ρ.f 226) args).run P w = .ok (.enter (ρ.f 226) args) w := enters_of L.f226 (by kernel_rfl) rfl
  go_enter L.f153, Body.n153_ntmps ρ
  go_wp2_with (go_at_fn (ρ.f 226); refine (Any.strings_shouldUseASCIISet { L with } _ _).mono ?_; rintro e w' ⟨rfl, hw⟩; rw [hw, h8z])
  go_loopg [9, 10] s.size (fun g _ _ wx => ∃ i : Nat, i ≤ s.size ∧ i + g = s.size ∧ wx.heap[w.heap.size]? = some (.stringIter s i) ∧ Below w.heap.size w wx ∧ Lib.NoAny s.data.toList chars.data.toList i)
  case atStart => exact ⟨0, by omega, by omega, World.iter_heap w s 0, below_iter w s 0, Lib.NoAny.zero _ _⟩
  case round =>
    obtain ⟨i, hil, hig, hit, hbel, hno⟩ := hrel
    have HN : Aside (Lib.NoAny s.data.toList chars.data.toList i) := hno
    have HB : Aside (Below w.heap.size w wr) := hbel
    clear hno hbel
    by_cases hi : i < s.size
    · by_cases ha : (s[i]'hi).toNat < 128
      · obtain ⟨x, hx⟩ : ∃ x : UInt8, s[i]'hi = x := ⟨_, rfl⟩
        have hxl : s.data.toList[i]? = some x := by rw [← hx]; exact Lib.data_getElem? s i hi
        have hnx := fun ty => run_next_ascii_at (P := P) wr w.heap.size s i ty hit hi ha
        rw [hx] at hnx ha
        have Hx : Aside (s.data.toList[i]? = some x) := hxl
        clear hxl hx
        have HB2 : Aside (Below w.heap.size w (wr.iterAt w.heap.size s (i + 1))) := below_iterAt HB.out (Nat.le_refl _) s (i + 1)
        have HI2 : Aside ((wr.iterAt w.heap.size s (i + 1)).heap[w.heap.size]? = some (.stringIter s (i + 1))) := iterAt_heap wr w.heap.size s i (i + 1) hit
        have hcon := Lib.contains_iff_indexByte chars.data.toList x
        have hback : ((x.toNat : Int)).toNat.toUInt8 = x := by simp
        clear hit
        cases hin : chars.data.toList.contains x
        · rw [hin] at hcon
          have hlt : ¬ ((0 : Int) ≤ Lib.indexByte chars.data.toList x) := of_decide_eq_false hcon.symm
          clear hcon
          go_wp2_with (go_at_fn (ρ.f 152); refine (Any.strings_IndexRune_ascii { L with } _ _ _ (by omega) (by omega)).mono ?_; rintro e w' ⟨rfl, hw⟩; rw [hw, hback])
          go_roundg (s.size - (i + 1))
          case measure => omega
          case rel => exact ⟨i + 1, by omega, by omega, HI2.out, HB2.out, HN.out.succ Hx.out hin⟩
        · rw [hin] at hcon
          have hge : (0 : Int) ≤ Lib.indexByte chars.data.toList x := of_decide_eq_true hcon.symm
          clear hcon
          go_wp2_with (go_at_fn (ρ.f 152); refine (Any.strings_IndexRune_ascii { L with } _ _ _ (by omega) (by omega)).mono ?_; rintro e w' ⟨rfl, hw⟩; rw [hw, hback])
          go_ret
          exact ⟨by rw [Lib.indexAny_hit HN.out Hx.out hin]; rfl, HB2.out⟩
      · have hnx := fun ty => run_next_any_at (P := P) wr w.heap.size s i ty hit hi
        obtain ⟨d1, d2⟩ := decode_high s i hi (by omega)
        have d3 := decode_le s i
        have hxx : 128 ≤ (s.get! i).toNat := by
          have := get_at s i hi
          rw [Nat.add_zero] at this
          rw [this]; omega
        have HN2 : Aside (Lib.NoAny s.data.toList chars.data.toList (i + (Utf8.decode s i).2)) := noAny_rune HN.out HC.out hi hxx
        have d4 : i + (Utf8.decode s i).2 ≤ s.size := by
          by_cases h1 : (Utf8.decode s i).2 = 1
          · omega
          · have := (decode_cont s i hi (i + (Utf8.decode s i).2 - 1) (by omega) (by omega)).1
            omega
        have HB2 : Aside (Below w.heap.size w (wr.iterAt w.heap.size s (i + (Utf8.decode s i).2))) := below_iterAt HB.out (Nat.le_refl _) s _
        have HI2 : Aside ((wr.iterAt w.heap.size s (i + (Utf8.decode s i).2)).heap[w.heap.size]? = some (.stringIter s (i + (Utf8.decode s i).2))) := iterAt_heap wr w.heap.size s i _ hit
        have hlt0 : w.heap.size < (wr.iterAt w.heap.size s (i + (Utf8.decode s i).2)).heap.size := by rw [iterAt_size]; exact (Array.getElem?_eq_some_iff.1 hit).1
        clear hit
        generalize (Utf8.decode s i).1 = r at *
        generalize (Utf8.decode s i).2 = wd at *
        generalize hWi : wr.iterAt w.heap.size s (i + wd) = W1 at *
        have hr128 : ¬ r < 128 := by omega
        have hm1 : ¬ ((0 : Int) ≤ -1) := by omega
        go_wp2_with (go_at_fn (ρ.f 152); refine (indexRune_any { L with } chars r _ HC.out hcsz d3).mono ?_; rintro e w' ⟨rfl, hw⟩; rw [if_neg hr128]; have HW : Aside (Below W1.heap.size W1 w') := hw; clear hw)
        go_roundg (s.size - (i + wd))
        case measure => omega
        case rel => exact ⟨i + wd, by omega, by omega, by rw [HW.out.block _ hlt0]; exact HI2.out, HB2.out.trans (HW.out.mono (by omega)), HN2.out⟩
    · obtain rfl : i = s.size := by omega
      have hnx := fun ty => run_next_end_at (P := P) wr w.heap.size s s.size ty hit hi
      go_wp2
      go_ret
      exact ⟨by rw [Lib.indexAny_none (by rw [← Lib.size_eq]; exact HN.out)]; rfl, HB.out⟩
end Go.Proofs.YthjdhfoeckfmbaaGreat
namespace Go.Proofs.YthjdhfoeckfmbaaGreat
open Go
set_option maxRecDepth 100000
set_option linter.unusedVariables false
set_option linter.unusedSimpArgs false
set_option linter.unusedSectionVars false
def laysC : Go.Shelf.Ren := ⟨fun | 153 => 141 | 152 => 143 | 226 => 144 | 227 => 145 | 228 => 146 | 137 => 147 | 119 => 148 | 224 => 149 | 225 => 150 | 217 => 151 | 266 => 152 | n => n, fun | 0 => 0 | 3 => 3 | 4 => 4 | 5 => 5 | 9 => 9 | 21 => 21 | 46 => 127 | 116 => 182 | 117 => 183 | 124 => 189 | n => n, fun | n => n⟩
theorem laysC153 : Go.Proofs.Lays.n153 Tryz.prog laysC := {
  mixed := by kernel_rfl
  f119 := Tryz.func148.trans (congrArg some (by kernel_rfl))
  f137 := Tryz.func147.trans (congrArg some (by kernel_rfl))
  f152 := Tryz.func143.trans (congrArg some (by kernel_rfl))
  f153 := Tryz.func141.trans (congrArg some (by kernel_rfl))
  f217 := Tryz.func151.trans (congrArg some (by kernel_rfl))
  f224 := Tryz.func149.trans (congrArg some (by kernel_rfl))
  f225 := Tryz.func150.trans (congrArg some (by kernel_rfl))
  f226 := Tryz.func144.trans (congrArg some (by kernel_rfl))
  f227 := Tryz.func145.trans (congrArg some (by kernel_rfl))
  f228 := Tryz.func146.trans (congrArg some (by kernel_rfl))
  f266 := Tryz.func152.trans (congrArg some (by kernel_rfl))
  t0 := Tryz.underlying0
  a0 := Tryz.isAgg0
  z0 := Tryz.sizeOf0
  v0 := Tryz.zeroValue0
  t3 := Tryz.underlying3
  a3 := Tryz.isAgg3
  z3 := Tryz.sizeOf3
  v3 := Tryz.zeroValue3
  t4 := Tryz.underlying4
  a4 := Tryz.isAgg4
  z4 := Tryz.sizeOf4
  v4 := Tryz.zeroValue4
  t5 := Tryz.underlying5
  a5 := Tryz.isAgg5
  z5 := Tryz.sizeOf5
  v5 := Tryz.zeroValue5
  t9 := Tryz.underlying9
  a9 := Tryz.isAgg9
  z9 := Tryz.sizeOf9
  v9 := Tryz.zeroValue9
  t21 := Tryz.underlying21
  a21 := Tryz.isAgg21
  z21 := Tryz.sizeOf21
  v21 := Tryz.zeroValue21
  t46 := Tryz.underlying127
  a46 := Tryz.isAgg127
  z46 := Tryz.sizeOf127
  v46 := Tryz.zeroValue127
  t116 := Tryz.underlying182
  a116 := Tryz.isAgg182
  z116 := Tryz.sizeOf182
  t117 := Tryz.underlying183
  a117 := Tryz.isAgg183
  z117 := Tryz.sizeOf183
  v117 := Tryz.zeroValue183
  t124 := Tryz.underlying189
  a124 := Tryz.isAgg189
  z124 := Tryz.sizeOf189
  v124 := Tryz.zeroValue189 }
theorem laysC116 : (Tryz.prog.info? (laysC.t 116)).map (fun i => (i.zero, i.size)) = some (some (.agg (Array.replicate 256 (.bool false))), 256) := by kernel_rfl

/-- strings.IndexAny at a few ASCII bytes, of a text that is long, or ASCII too. -/
theorem strings_IndexAny (s chars : ByteArray) (w : World) (h2 : 2 ≤ chars.size) (hcs : chars.size < 4294967281) (hs : s.size < 4294967281) (hac : ∀ (j : Nat) b, chars.data.toList[j]? = some b → b.toNat < 128) :
    Calls Tryz.prog 141 #[.string s, .string chars] w (Ret fun v w' => v = .int .i64 (Lib.indexAny s.data.toList chars.data.toList) ∧ Ext w w') := by
  by_cases h8 : 8 < s.size
  · refine (Any.strings_IndexAny_long laysC153 (zero_of_info laysC116).1 (zero_of_info laysC116).2 s chars w h2 h8 hs hcs hac).mono ?_
    rintro e w' ⟨rfl, hw⟩
    refine ⟨_, rfl, rfl, Ext.below ?_ (fun h => h.elim)⟩
    rw [hw]
    exact ((RowKit.Below.refl _ _).alloc (Nat.le_refl _) _).alloc (by simp) _
  · refine (indexAny_short laysC153 s chars w h2 hcs (by omega) (fun b hb => ?_)).mono ?_
    · obtain ⟨j, hj, rfl⟩ := List.getElem_of_mem hb
      exact hac j _ (List.getElem?_eq_getElem hj)
    · rintro e w' ⟨rfl, hw⟩
      exact ⟨_, rfl, rfl, Ext.below hw (fun h => h.elim)⟩

end Go.Proofs.YthjdhfoeckfmbaaGreat
namespace Go.Proofs.YthjdhfoeckfmbaaGreat
open Go
set_option maxRecDepth 100000
set_option linter.unusedVariables false
set_option linter.unusedSimpArgs false
set_option linter.unusedSectionVars false
theorem strings_ContainsAny_c141 : callable Tryz.prog 141 = true := by kernel_rfl
set_option maxHeartbeats 1000000 in
theorem strings_ContainsAny (s : ByteArray) (chars : ByteArray) (w : World) (h2 : 2 ≤ chars.size) (hcs : chars.size < 4294967281) (hs : s.size < 4294967281) (hac : ∀ (j : Nat) b, chars.data.toList[j]? = some b → b.toNat < 128) :
    Calls Tryz.prog 132 #[(.string s), (.string chars)] w (Ret fun v w' => v = (.bool (Lib.containsAny s.data.toList chars.data.toList)) ∧ Ext w w') := by
 refine calls_W Tryz.func132 rfl Tryz.ntmps132 rfl ?_
 have H0 := Ctx.start w nob
 refine W_seq (W_reg ?_)
 refine O_v rfl (R_assign (v := (.bool false)) rfl ?_)
 refine O_nil (Then_n (W_seq (W_reg ?_)))
 refine O_v rfl (R_move (v := (.string s)) rfl ?_)
 refine O_v rfl (R_move (v := (.string chars)) rfl ?_)
 refine O_v rfl (R_callL (vs := [(.string s), (.string chars)]) strings_ContainsAny_c141 rfl rfl ((strings_IndexAny s chars w h2 hcs hs hac).ret ?_))
 rintro _ w1 ⟨rfl, hx2⟩
 have H3 := H0.ext hx2
 refine O_v rfl (R_cmp (a := Lib.indexAny s.data.toList chars.data.toList) (b := 0) (r := (decide (0 ≤ Lib.indexAny s.data.toList chars.data.toList))) rfl rfl rfl ?_)
 refine O_v rfl (R_assign (v := (.bool (decide (0 ≤ Lib.indexAny s.data.toList chars.data.toList)))) rfl ?_)
 refine O_nil (Then_n (W_ret ?_))
 refine ret_1 (v := (.bool (decide (0 ≤ Lib.indexAny s.data.toList chars.data.toList)))) Tryz.results132 rfl ?_
 exact ⟨rfl, H3.gr⟩

end Go.Proofs.YthjdhfoeckfmbaaGreat
namespace Go.Proofs.YthjdhfoeckfmbaaGreat
open Go
set_option maxRecDepth 100000
set_option linter.unusedVariables false
set_option linter.unusedSimpArgs false
set_option linter.unusedSectionVars false
theorem stamp_Name_c132 : callable Tryz.prog 132 = true := by kernel_rfl
set_option maxHeartbeats 1000000 in
theorem stamp_Name (s : ByteArray) (w : World) :
    Calls Tryz.prog 108 #[(.string s)] w (Ret fun v w' => v = (.bool (nameOk s)) ∧ Ext w w') := by
 refine calls_W Tryz.func108 rfl Tryz.ntmps108 rfl ?_
 have H0 := Ctx.start w nob
 refine W_seq (W_reg ?_)
 refine O_v rfl (R_assign (v := (.bool false)) rfl ?_)
 refine O_nil (Then_n (W_seq ?_))
 refine W_rg [(0, .q 0), (1, .q 0), (2, .q 0), (3, .q 0), (4, .q 0), (5, .q 0), (6, .q 0), (7, .q 0), (8, .q 0), (9, .q 0), (10, .q 0), (11, .q 0), (12, .q 0), (13, .q 0), (14, .q 0), (15, .q 0), (16, .q 0), (17, .q 0), (18, .q 0), (19, .q 0), (20, .q 0), (21, .q 0)] (by kernel_rfl) ?_
 refine Lx_q (i := 0) rfl rfl _ (fun v1 hv2 => R_move (v := (.string s)) rfl ⟨rfl, Gr.refl _ _⟩) ?_
 refine Lx_q (i := 1) rfl rfl _ (fun v3 hv4 => R_len_string Tryz.underlying9 rfl ⟨rfl, Gr.refl _ _⟩) ?_
 refine Lx_q (i := 2) rfl rfl _ (fun v5 hv6 => R_cmp (a := ((s.size : Nat) : Int)) (b := 1) (r := (decide (1 ≤ ((s.size : Nat) : Int)))) rfl rfl rfl ⟨rfl, Gr.refl _ _⟩) ?_
 refine Lx_q (i := 3) rfl rfl _ (fun v7 hv8 => R_move (v := (.bool (decide (1 ≤ ((s.size : Nat) : Int))))) rfl ⟨rfl, Gr.refl _ _⟩) ?_
 refine Lx_qg (i := 4) true (decide (1 ≤ ((s.size : Nat) : Int))) rfl rfl rfl rfl rfl (decide (1 ≤ ((s.size : Nat) : Int))) ga_t _ (fun hA v9 hv10 => R_move (v := (.string s)) rfl ⟨rfl, Gr.refl _ _⟩) ?_
 refine Lx_qg (i := 5) true (decide (1 ≤ ((s.size : Nat) : Int))) rfl rfl rfl rfl rfl (decide (1 ≤ ((s.size : Nat) : Int))) ga_t _ (fun hA v11 hv12 => R_len_string Tryz.underlying9 (gv_t hA) ⟨rfl, Gr.refl _ _⟩) ?_
 refine Lx_qg (i := 6) true (decide (1 ≤ ((s.size : Nat) : Int))) rfl rfl rfl rfl rfl (decide (1 ≤ ((s.size : Nat) : Int))) ga_t _ (fun hA v13 hv14 => R_cmp (a := ((s.size : Nat) : Int)) (b := 60) (r := (decide (((s.size : Nat) : Int) ≤ 60))) (gv_t hA) rfl rfl ⟨rfl, Gr.refl _ _⟩) ?_
 refine Lx_q (i := 7) rfl rfl _ (fun v15 hv16 => R_pick (t := (decide (1 ≤ ((s.size : Nat) : Int)))) (v := (.bool ((decide (1 ≤ ((s.size : Nat) : Int))) && (decide (((s.size : Nat) : Int) ≤ 60))))) rfl pk_and ⟨rfl, Gr.refl _ _⟩) ?_
 refine Lx_q (i := 8) rfl rfl _ (fun v17 hv18 => R_move (v := (.bool ((decide (1 ≤ ((s.size : Nat) : Int))) && (decide (((s.size : Nat) : Int) ≤ 60))))) rfl ⟨rfl, Gr.refl _ _⟩) ?_
 refine Lx_qg (i := 9) true ((decide (1 ≤ ((s.size : Nat) : Int))) && (decide (((s.size : Nat) : Int) ≤ 60))) rfl rfl rfl rfl rfl ((decide (1 ≤ ((s.size : Nat) : Int))) && (decide (((s.size : Nat) : Int) ≤ 60))) ga_t _ (fun hA v19 hv20 => R_move (v := (.string s)) rfl ⟨rfl, Gr.refl _ _⟩) ?_
 refine Lx_qg (i := 10) true ((decide (1 ≤ ((s.size : Nat) : Int))) && (decide (((s.size : Nat) : Int) ≤ 60))) rfl rfl rfl rfl rfl ((decide (1 ≤ ((s.size : Nat) : Int))) && (decide (((s.size : Nat) : Int) ≤ 60))) ga_t _ (fun hA v21 hv22 => R_cmpS (a := s) (b := (⟨#[46]⟩ : ByteArray)) (r := (!(decide (s = (⟨#[46]⟩ : ByteArray))))) (gv_t hA) rfl rfl ⟨rfl, Gr.refl _ _⟩) ?_
 refine Lx_q (i := 11) rfl rfl _ (fun v23 hv24 => R_pick (t := ((decide (1 ≤ ((s.size : Nat) : Int))) && (decide (((s.size : Nat) : Int) ≤ 60)))) (v := (.bool (((decide (1 ≤ ((s.size : Nat) : Int))) && (decide (((s.size : Nat) : Int) ≤ 60))) && (!(decide (s = (⟨#[46]⟩ : ByteArray))))))) rfl pk_and ⟨rfl, Gr.refl _ _⟩) ?_
 refine Lx_q (i := 12) rfl rfl _ (fun v25 hv26 => R_move (v := (.bool (((decide (1 ≤ ((s.size : Nat) : Int))) && (decide (((s.size : Nat) : Int) ≤ 60))) && (!(decide (s = (⟨#[46]⟩ : ByteArray))))))) rfl ⟨rfl, Gr.refl _ _⟩) ?_
 refine Lx_qg (i := 13) true (((decide (1 ≤ ((s.size : Nat) : Int))) && (decide (((s.size : Nat) : Int) ≤ 60))) && (!(decide (s = (⟨#[46]⟩ : ByteArray))))) rfl rfl rfl rfl rfl (((decide (1 ≤ ((s.size : Nat) : Int))) && (decide (((s.size : Nat) : Int) ≤ 60))) && (!(decide (s = (⟨#[46]⟩ : ByteArray))))) ga_t _ (fun hA v27 hv28 => R_move (v := (.string s)) rfl ⟨rfl, Gr.refl _ _⟩) ?_
 refine Lx_qg (i := 14) true (((decide (1 ≤ ((s.size : Nat) : Int))) && (decide (((s.size : Nat) : Int) ≤ 60))) && (!(decide (s = (⟨#[46]⟩ : ByteArray))))) rfl rfl rfl rfl rfl (((decide (1 ≤ ((s.size : Nat) : Int))) && (decide (((s.size : Nat) : Int) ≤ 60))) && (!(decide (s = (⟨#[46]⟩ : ByteArray))))) ga_t _ (fun hA v29 hv30 => R_cmpS (a := s) (b := (⟨#[46, 46]⟩ : ByteArray)) (r := (!(decide (s = (⟨#[46, 46]⟩ : ByteArray))))) (gv_t hA) rfl rfl ⟨rfl, Gr.refl _ _⟩) ?_
 refine Lx_q (i := 15) rfl rfl _ (fun v31 hv32 => R_pick (t := (((decide (1 ≤ ((s.size : Nat) : Int))) && (decide (((s.size : Nat) : Int) ≤ 60))) && (!(decide (s = (⟨#[46]⟩ : ByteArray)))))) (v := (.bool ((((decide (1 ≤ ((s.size : Nat) : Int))) && (decide (((s.size : Nat) : Int) ≤ 60))) && (!(decide (s = (⟨#[46]⟩ : ByteArray))))) && (!(decide (s = (⟨#[46, 46]⟩ : ByteArray))))))) rfl pk_and ⟨rfl, Gr.refl _ _⟩) ?_
 refine Lx_q (i := 16) rfl rfl _ (fun v33 hv34 => R_move (v := (.bool ((((decide (1 ≤ ((s.size : Nat) : Int))) && (decide (((s.size : Nat) : Int) ≤ 60))) && (!(decide (s = (⟨#[46]⟩ : ByteArray))))) && (!(decide (s = (⟨#[46, 46]⟩ : ByteArray))))))) rfl ⟨rfl, Gr.refl _ _⟩) ?_
 refine Lx_qg (i := 17) true ((((decide (1 ≤ ((s.size : Nat) : Int))) && (decide (((s.size : Nat) : Int) ≤ 60))) && (!(decide (s = (⟨#[46]⟩ : ByteArray))))) && (!(decide (s = (⟨#[46, 46]⟩ : ByteArray))))) rfl rfl rfl rfl rfl ((((decide (1 ≤ ((s.size : Nat) : Int))) && (decide (((s.size : Nat) : Int) ≤ 60))) && (!(decide (s = (⟨#[46]⟩ : ByteArray))))) && (!(decide (s = (⟨#[46, 46]⟩ : ByteArray))))) ga_t _ (fun hA v35 hv36 => R_move (v := (.string s)) rfl ⟨rfl, Gr.refl _ _⟩) ?_
 refine Lx_qg (i := 18) true ((((decide (1 ≤ ((s.size : Nat) : Int))) && (decide (((s.size : Nat) : Int) ≤ 60))) && (!(decide (s = (⟨#[46]⟩ : ByteArray))))) && (!(decide (s = (⟨#[46, 46]⟩ : ByteArray))))) rfl rfl rfl rfl rfl ((((decide (1 ≤ ((s.size : Nat) : Int))) && (decide (((s.size : Nat) : Int) ≤ 60))) && (!(decide (s = (⟨#[46]⟩ : ByteArray))))) && (!(decide (s = (⟨#[46, 46]⟩ : ByteArray))))) ga_t (.bool (Lib.containsAny s.data.toList (⟨#[0, 47, 10]⟩ : ByteArray).data.toList)) (fun hA v37 hv38 => by
      have hP : ((((1 ≤ ((s.size : Nat) : Int)) ∧ (((s.size : Nat) : Int) ≤ 60)) ∧ ¬ (s = (⟨#[46]⟩ : ByteArray))) ∧ ¬ (s = (⟨#[46, 46]⟩ : ByteArray))) := (And.imp (fun h => (And.imp (fun h => (And.imp (fun h => (of_decide_eq_true h)) (fun h => (of_decide_eq_true h)) (andT h))) (fun h => (of_decide_eq_false (notT h))) (andT h))) (fun h => (of_decide_eq_false (notT h))) (andT hA))
      exact R_callL (vs := [(.string s), (.string (⟨#[0, 47, 10]⟩ : ByteArray))]) stamp_Name_c132 rfl (lst2 (gv_t hA) rfl) (strings_ContainsAny s (⟨#[0, 47, 10]⟩ : ByteArray) v37 (by decide) (by decide) (by omega) bad_ascii)) ?_
 refine Lx_qg (i := 19) true ((((decide (1 ≤ ((s.size : Nat) : Int))) && (decide (((s.size : Nat) : Int) ≤ 60))) && (!(decide (s = (⟨#[46]⟩ : ByteArray))))) && (!(decide (s = (⟨#[46, 46]⟩ : ByteArray))))) rfl rfl rfl rfl rfl ((((decide (1 ≤ ((s.size : Nat) : Int))) && (decide (((s.size : Nat) : Int) ≤ 60))) && (!(decide (s = (⟨#[46]⟩ : ByteArray))))) && (!(decide (s = (⟨#[46, 46]⟩ : ByteArray))))) ga_t _ (fun hA v39 hv40 => R_not (gv_t hA) ⟨rfl, Gr.refl _ _⟩) ?_
 refine Lx_q (i := 20) rfl rfl _ (fun v41 hv42 => R_pick (t := ((((decide (1 ≤ ((s.size : Nat) : Int))) && (decide (((s.size : Nat) : Int) ≤ 60))) && (!(decide (s = (⟨#[46]⟩ : ByteArray))))) && (!(decide (s = (⟨#[46, 46]⟩ : ByteArray)))))) (v := (.bool (((((decide (1 ≤ ((s.size : Nat) : Int))) && (decide (((s.size : Nat) : Int) ≤ 60))) && (!(decide (s = (⟨#[46]⟩ : ByteArray))))) && (!(decide (s = (⟨#[46, 46]⟩ : ByteArray))))) && (!(Lib.containsAny s.data.toList (⟨#[0, 47, 10]⟩ : ByteArray).data.toList))))) rfl pk_and ⟨rfl, Gr.refl _ _⟩) ?_
 refine Lx_q (i := 21) rfl rfl _ (fun v43 hv44 => R_assign (v := (.bool (((((decide (1 ≤ ((s.size : Nat) : Int))) && (decide (((s.size : Nat) : Int) ≤ 60))) && (!(decide (s = (⟨#[46]⟩ : ByteArray))))) && (!(decide (s = (⟨#[46, 46]⟩ : ByteArray))))) && (!(Lib.containsAny s.data.toList (⟨#[0, 47, 10]⟩ : ByteArray).data.toList))))) rfl ⟨rfl, Gr.refl _ _⟩) ?_
 refine Lx_nil (fun w45 hw46 => ?_)
 have H47 := H0.ext hw46
 refine Then_n (W_ret ?_)
 refine ret_1 (v := (.bool (((((decide (1 ≤ ((s.size : Nat) : Int))) && (decide (((s.size : Nat) : Int) ≤ 60))) && (!(decide (s = (⟨#[46]⟩ : ByteArray))))) && (!(decide (s = (⟨#[46, 46]⟩ : ByteArray))))) && (!(Lib.containsAny s.data.toList (⟨#[0, 47, 10]⟩ : ByteArray).data.toList))))) Tryz.results108 rfl ?_
 exact ⟨nameOk_any, H47.gr⟩

end Go.Proofs.YthjdhfoeckfmbaaGreat
namespace Go.Proofs.YthjdhfoeckfmbaaGreat
open Go
set_option maxRecDepth 100000
set_option linter.unusedVariables false
set_option linter.unusedSimpArgs false
set_option linter.unusedSectionVars false
variable [DD]
set_option maxHeartbeats 1000000 in
theorem stamp_fixed (s : Stamp) (w : World) :
    Calls Tryz.prog 140 #[(aggOf (stampCh s))] w (Ret fun v w' => v = (.bool (fixedSt s)) ∧ Ext w w') := by
 refine calls_W Tryz.func140 rfl Tryz.ntmps140 rfl ?_
 have H0 := Ctx.start w nob
 refine W_seq (W_reg ?_)
 refine O_v rfl (C_box H0 [[(.int .i64 s.T)], [(.int .i64 s.R)]] rfl ?_)
 intro b1 w2 hb3 hx4 H5
 refine O_v rfl (R_assign (v := (.bool false)) rfl ?_)
 refine O_nil (Then_n (W_seq ?_))
 refine W_rg [(0, .q 0), (1, .q 0), (2, .q 0), (3, .q 0), (4, .q 0), (5, .q 0), (6, .q 0), (7, .q 0), (8, .q 0), (9, .q 0), (10, .q 0), (11, .q 0), (12, .q 0), (13, .q 0)] (by kernel_rfl) ?_
 refine Lx_q (i := 0) rfl rfl _ (fun v6 hv7 => R_fieldAddr (off := 0) (oo := 0) Tryz.underlying69 rfl rfl Tryz.sizeOf2 rfl rfl ⟨rfl, Gr.refl _ _⟩) ?_
 refine Lx_q (i := 1) rfl rfl _ (fun v8 hv9 => R_load1 (v := (.int .i64 s.T)) Tryz.isAgg2 rfl ((boxR_at ((H5.ext hv9).getOwn 0 rfl)).chunks 0 1 0 0 _ rfl rfl rfl) ⟨rfl, Gr.refl _ _⟩) ?_
 refine Lx_q (i := 2) rfl rfl _ (fun v10 hv11 => R_cmp (a := s.T) (b := 0) (r := (decide (s.T = 0))) rfl rfl rfl ⟨rfl, Gr.refl _ _⟩) ?_
 refine Lx_q (i := 3) rfl rfl _ (fun v12 hv13 => R_move (v := (.bool (decide (s.T = 0)))) rfl ⟨rfl, Gr.refl _ _⟩) ?_
 refine Lx_qg (i := 4) true (decide (s.T = 0)) rfl rfl rfl rfl rfl (decide (s.T = 0)) ga_t _ (fun hA v14 hv15 => R_fieldAddr (off := 1) (oo := 1) Tryz.underlying69 rfl rfl Tryz.sizeOf3 rfl rfl ⟨rfl, Gr.refl _ _⟩) ?_
 refine Lx_qg (i := 5) true (decide (s.T = 0)) rfl rfl rfl rfl rfl (decide (s.T = 0)) ga_t _ (fun hA v16 hv17 => R_load1 (v := (.int .i64 s.R)) Tryz.isAgg3 (gv_t hA) ((boxR_at ((H5.ext hv17).getOwn 0 rfl)).chunks 1 1 1 1 _ rfl rfl rfl) ⟨rfl, Gr.refl _ _⟩) ?_
 refine Lx_qg (i := 6) true (decide (s.T = 0)) rfl rfl rfl rfl rfl (decide (s.T = 0)) ga_t _ (fun hA v18 hv19 => R_cmp (a := s.R) (b := 0) (r := (decide (s.R = 0))) (gv_t hA) rfl rfl ⟨rfl, Gr.refl _ _⟩) ?_
 refine Lx_qg (i := 7) true (decide (s.T = 0)) rfl rfl rfl rfl rfl (decide (s.T = 0)) ga_t _ (fun hA v20 hv21 => R_move (v := (.bool (decide (s.R = 0)))) (gv_t hA) ⟨rfl, Gr.refl _ _⟩) ?_
 refine Lx_qg (i := 8) (decide (s.T = 0)) (decide (s.R = 0)) rfl rfl rfl rfl rfl ((decide (s.T = 0)) && (!(decide (s.R = 0)))) gb_f _ (fun hA v22 hv23 => R_fieldAddr (off := 1) (oo := 1) Tryz.underlying69 rfl rfl Tryz.sizeOf3 rfl rfl ⟨rfl, Gr.refl _ _⟩) ?_
 refine Lx_qg (i := 9) (decide (s.T = 0)) (decide (s.R = 0)) rfl rfl rfl rfl rfl ((decide (s.T = 0)) && (!(decide (s.R = 0)))) gb_f _ (fun hA v24 hv25 => R_load1 (v := (.int .i64 s.R)) Tryz.isAgg3 (gv_t hA) ((boxR_at ((H5.ext hv25).getOwn 0 rfl)).chunks 1 1 1 1 _ rfl rfl rfl) ⟨rfl, Gr.refl _ _⟩) ?_
 refine Lx_qg (i := 10) (decide (s.T = 0)) (decide (s.R = 0)) rfl rfl rfl rfl rfl ((decide (s.T = 0)) && (!(decide (s.R = 0)))) gb_f _ (fun hA v26 hv27 => R_cmp (a := s.R) (b := 1) (r := (decide (s.R = 1))) (gv_t hA) rfl rfl ⟨rfl, Gr.refl _ _⟩) ?_
 refine Lx_qg (i := 11) true (decide (s.T = 0)) rfl rfl rfl rfl rfl (decide (s.T = 0)) ga_t _ (fun hA v28 hv29 => R_pick (t := (decide (s.R = 0))) (v := (.bool ((decide (s.R = 0)) || (decide (s.R = 1))))) (gv_t hA) (pk_orA hA) ⟨rfl, Gr.refl _ _⟩) ?_
 refine Lx_q (i := 12) rfl rfl _ (fun v30 hv31 => R_pick (t := (decide (s.T = 0))) (v := (.bool ((decide (s.T = 0)) && ((decide (s.R = 0)) || (decide (s.R = 1)))))) rfl pk_and ⟨rfl, Gr.refl _ _⟩) ?_
 refine Lx_q (i := 13) rfl rfl _ (fun v32 hv33 => R_assign (v := (.bool ((decide (s.T = 0)) && ((decide (s.R = 0)) || (decide (s.R = 1)))))) rfl ⟨rfl, Gr.refl _ _⟩) ?_
 refine Lx_nil (fun w34 hw35 => ?_)
 have H36 := H5.ext hw35
 refine Then_n (W_ret ?_)
 refine ret_1 (v := (.bool ((decide (s.T = 0)) && ((decide (s.R = 0)) || (decide (s.R = 1)))))) Tryz.results140 rfl ?_
 exact ⟨(boolE (by simp only [Bool.and_eq_true, Bool.or_eq_true, decide_eq_true_eq])), H36.gr⟩

end Go.Proofs.YthjdhfoeckfmbaaGreat
namespace Go.Proofs.YthjdhfoeckfmbaaGreat
open Go
set_option maxRecDepth 100000
set_option linter.unusedVariables false
set_option linter.unusedSimpArgs false
set_option linter.unusedSectionVars false
theorem stamp_move_c84 : callable Tryz.prog 84 = true := by kernel_rfl
theorem stamp_move_c100 : callable Tryz.prog 100 = true := by kernel_rfl
theorem stamp_move_c108 : callable Tryz.prog 108 = true := by kernel_rfl
theorem stamp_move_c140 : callable Tryz.prog 140 = true := by kernel_rfl
set_option maxHeartbeats 1000000 in
theorem stamp_move (o : OpS) (w : World) (So_over : Sl (Old w) stampCh 2 o.oh o.over w) :
    Calls Tryz.prog 128 #[(aggOf (opCh o))] w (Ret fun v w' => v = (.bool (moveOk o)) ∧ Ext w w') := by
 refine calls_W Tryz.func128 rfl Tryz.ntmps128 rfl ?_
 have H0 := Ctx.start w nob
 have H1 := H0.addSl _ So_over (fun b hb => ⟨hb, fun _ ho => (nomatch ho)⟩)
 have LSo_over := So_over.len
 refine W_seq (W_reg ?_)
 refine O_v rfl (C_box H1 [[(.int .i64 o.kind)], [(.int .i64 o.tm.T)], [(.int .i64 o.tm.R)], [(.int .i64 o.node.T)], [(.int .i64 o.node.R)], [(.int .i64 o.par.T)], [(.int .i64 o.par.R)], [(.string o.name)], (idCells o.data), [(slV o.oh o.over)]] rfl ?_)
 intro b2 w3 hb4 hx5 H6
 refine O_v rfl (R_assign (v := (.bool false)) rfl ?_)
 refine O_nil (Then_n (W_seq ?_))
 refine W_rg [(0, .q 0), (1, .q 0), (2, .q 0), (3, .q 0), (4, .q 0), (5, .q 0), (6, .q 0), (7, .q 0), (8, .q 0), (9, .q 0), (10, .q 0), (11, .q 0), (12, .q 0), (13, .q 0), (14, .q 0), (15, .q 0), (16, .q 0), (17, .q 0), (18, .q 0), (19, .q 0), (20, .q 0), (21, .q 0), (22, .q 0), (23, .q 0), (24, .q 0), (25, .q 0), (26, .q 0), (27, .q 0), (28, .q 0), (29, .q 0), (30, .q 0), (31, .q 0), (32, .q 0), (33, .q 0)] (by kernel_rfl) ?_
 refine Lx_q (i := 0) rfl rfl _ (fun v7 hv8 => R_fieldAddr (off := 3) (oo := 3) Tryz.underlying72 rfl rfl Tryz.sizeOf69 rfl rfl ⟨rfl, Gr.refl _ _⟩) ?_
 refine Lx_q (i := 1) rfl rfl _ (fun v9 hv10 => R_loadA (cs := [[(.int .i64 o.node.T)], [(.int .i64 o.node.R)]]) Tryz.isAgg69 Tryz.sizeOf69 rfl rfl ((boxR_at ((H6.ext hv10).getOwn 0 rfl)).chunks 3 2 3 3 _ rfl rfl rfl) ⟨rfl, Gr.refl _ _⟩) ?_
 refine Lx_q (i := 2) rfl rfl _ (fun v11 hv12 => R_fieldAddr (off := 1) (oo := 1) Tryz.underlying72 rfl rfl Tryz.sizeOf69 rfl rfl ⟨rfl, Gr.refl _ _⟩) ?_
 refine Lx_q (i := 3) rfl rfl _ (fun v13 hv14 => R_loadA (cs := [[(.int .i64 o.tm.T)], [(.int .i64 o.tm.R)]]) Tryz.isAgg69 Tryz.sizeOf69 rfl rfl ((boxR_at ((H6.ext hv14).getOwn 0 rfl)).chunks 1 2 1 1 _ rfl rfl rfl) ⟨rfl, Gr.refl _ _⟩) ?_
 refine Lx_q (i := 4) rfl rfl (.int .i64 (cmpSt o.node o.tm)) (fun v15 hv16 => R_callL (vs := [(aggOf (stampCh o.node)), (aggOf (stampCh o.tm))]) stamp_move_c84 rfl rfl (stamp_Cmp o.node o.tm v15 )) ?_
 refine Lx_q (i := 5) rfl rfl _ (fun v17 hv18 => R_cmp (a := cmpSt o.node o.tm) (b := 0) (r := (decide (cmpSt o.node o.tm ≤ 0))) rfl rfl rfl ⟨rfl, Gr.refl _ _⟩) ?_
 refine Lx_q (i := 6) rfl rfl _ (fun v19 hv20 => R_move (v := (.bool (decide (cmpSt o.node o.tm ≤ 0)))) rfl ⟨rfl, Gr.refl _ _⟩) ?_
 refine Lx_qg (i := 7) true (decide (cmpSt o.node o.tm ≤ 0)) rfl rfl rfl rfl rfl (decide (cmpSt o.node o.tm ≤ 0)) ga_t _ (fun hA v21 hv22 => R_fieldAddr (off := 5) (oo := 5) Tryz.underlying72 rfl rfl Tryz.sizeOf69 rfl rfl ⟨rfl, Gr.refl _ _⟩) ?_
 refine Lx_qg (i := 8) true (decide (cmpSt o.node o.tm ≤ 0)) rfl rfl rfl rfl rfl (decide (cmpSt o.node o.tm ≤ 0)) ga_t _ (fun hA v23 hv24 => R_loadA (cs := [[(.int .i64 o.par.T)], [(.int .i64 o.par.R)]]) Tryz.isAgg69 Tryz.sizeOf69 rfl (gv_t hA) ((boxR_at ((H6.ext hv24).getOwn 0 rfl)).chunks 5 2 5 5 _ rfl rfl rfl) ⟨rfl, Gr.refl _ _⟩) ?_
 refine Lx_qg (i := 9) true (decide (cmpSt o.node o.tm ≤ 0)) rfl rfl rfl rfl rfl (decide (cmpSt o.node o.tm ≤ 0)) ga_t (.bool (stRight o.par)) (fun hA v25 hv26 => R_callL (vs := [(aggOf (stampCh o.par))]) stamp_move_c100 rfl (lst1 (gv_t hA)) (stamp_Right o.par v25 )) ?_
 refine Lx_qg (i := 10) true (decide (cmpSt o.node o.tm ≤ 0)) rfl rfl rfl rfl rfl (decide (cmpSt o.node o.tm ≤ 0)) ga_t _ (fun hA v27 hv28 => R_move (v := (.bool (stRight o.par))) (gv_t hA) ⟨rfl, Gr.refl _ _⟩) ?_
 refine Lx_qg (i := 11) (decide (cmpSt o.node o.tm ≤ 0)) (stRight o.par) rfl rfl rfl rfl rfl ((decide (cmpSt o.node o.tm ≤ 0)) && (!(stRight o.par))) gb_f _ (fun hA v29 hv30 => R_fieldAddr (off := 5) (oo := 5) Tryz.underlying72 rfl rfl Tryz.sizeOf69 rfl rfl ⟨rfl, Gr.refl _ _⟩) ?_
 refine Lx_qg (i := 12) (decide (cmpSt o.node o.tm ≤ 0)) (stRight o.par) rfl rfl rfl rfl rfl ((decide (cmpSt o.node o.tm ≤ 0)) && (!(stRight o.par))) gb_f _ (fun hA v31 hv32 => R_loadA (cs := [[(.int .i64 o.par.T)], [(.int .i64 o.par.R)]]) Tryz.isAgg69 Tryz.sizeOf69 rfl (gv_t hA) ((boxR_at ((H6.ext hv32).getOwn 0 rfl)).chunks 5 2 5 5 _ rfl rfl rfl) ⟨rfl, Gr.refl _ _⟩) ?_
 refine Lx_qg (i := 13) (decide (cmpSt o.node o.tm ≤ 0)) (stRight o.par) rfl rfl rfl rfl rfl ((decide (cmpSt o.node o.tm ≤ 0)) && (!(stRight o.par))) gb_f (.bool (fixedSt o.par)) (fun hA v33 hv34 => R_callL (vs := [(aggOf (stampCh o.par))]) stamp_move_c140 rfl (lst1 (gv_t hA)) (stamp_fixed o.par v33 )) ?_
 refine Lx_qg (i := 14) true (decide (cmpSt o.node o.tm ≤ 0)) rfl rfl rfl rfl rfl (decide (cmpSt o.node o.tm ≤ 0)) ga_t _ (fun hA v35 hv36 => R_pick (t := (stRight o.par)) (v := (.bool ((stRight o.par) || (fixedSt o.par)))) (gv_t hA) (pk_orA hA) ⟨rfl, Gr.refl _ _⟩) ?_
 refine Lx_q (i := 15) rfl rfl _ (fun v37 hv38 => R_pick (t := (decide (cmpSt o.node o.tm ≤ 0))) (v := (.bool ((decide (cmpSt o.node o.tm ≤ 0)) && ((stRight o.par) || (fixedSt o.par))))) rfl pk_and ⟨rfl, Gr.refl _ _⟩) ?_
 refine Lx_q (i := 16) rfl rfl _ (fun v39 hv40 => R_move (v := (.bool ((decide (cmpSt o.node o.tm ≤ 0)) && ((stRight o.par) || (fixedSt o.par))))) rfl ⟨rfl, Gr.refl _ _⟩) ?_
 refine Lx_qg (i := 17) true ((decide (cmpSt o.node o.tm ≤ 0)) && ((stRight o.par) || (fixedSt o.par))) rfl rfl rfl rfl rfl ((decide (cmpSt o.node o.tm ≤ 0)) && ((stRight o.par) || (fixedSt o.par))) ga_t _ (fun hA v41 hv42 => R_fieldAddr (off := 7) (oo := 7) Tryz.underlying72 rfl rfl Tryz.sizeOf9 rfl rfl ⟨rfl, Gr.refl _ _⟩) ?_
 refine Lx_qg (i := 18) true ((decide (cmpSt o.node o.tm ≤ 0)) && ((stRight o.par) || (fixedSt o.par))) rfl rfl rfl rfl rfl ((decide (cmpSt o.node o.tm ≤ 0)) && ((stRight o.par) || (fixedSt o.par))) ga_t _ (fun hA v43 hv44 => R_load1 (v := (.string o.name)) Tryz.isAgg9 (gv_t hA) ((boxR_at ((H6.ext hv44).getOwn 0 rfl)).chunks 7 1 7 7 _ rfl rfl rfl) ⟨rfl, Gr.refl _ _⟩) ?_
 refine Lx_qg (i := 19) true ((decide (cmpSt o.node o.tm ≤ 0)) && ((stRight o.par) || (fixedSt o.par))) rfl rfl rfl rfl rfl ((decide (cmpSt o.node o.tm ≤ 0)) && ((stRight o.par) || (fixedSt o.par))) ga_t (.bool (nameOk o.name)) (fun hA v45 hv46 => R_callL (vs := [(.string o.name)]) stamp_move_c108 rfl (lst1 (gv_t hA)) (stamp_Name o.name v45 )) ?_
 refine Lx_q (i := 20) rfl rfl _ (fun v47 hv48 => R_pick (t := ((decide (cmpSt o.node o.tm ≤ 0)) && ((stRight o.par) || (fixedSt o.par)))) (v := (.bool (((decide (cmpSt o.node o.tm ≤ 0)) && ((stRight o.par) || (fixedSt o.par))) && (nameOk o.name)))) rfl pk_and ⟨rfl, Gr.refl _ _⟩) ?_
 refine Lx_q (i := 21) rfl rfl _ (fun v49 hv50 => R_move (v := (.bool (((decide (cmpSt o.node o.tm ≤ 0)) && ((stRight o.par) || (fixedSt o.par))) && (nameOk o.name)))) rfl ⟨rfl, Gr.refl _ _⟩) ?_
 refine Lx_qg (i := 22) true (((decide (cmpSt o.node o.tm ≤ 0)) && ((stRight o.par) || (fixedSt o.par))) && (nameOk o.name)) rfl rfl rfl rfl rfl (((decide (cmpSt o.node o.tm ≤ 0)) && ((stRight o.par) || (fixedSt o.par))) && (nameOk o.name)) ga_t _ (fun hA v51 hv52 => R_fieldAddr (off := 8) (oo := 8) Tryz.underlying72 rfl rfl Tryz.sizeOf45 rfl rfl ⟨rfl, Gr.refl _ _⟩) ?_
 refine Lx_qg (i := 23) true (((decide (cmpSt o.node o.tm ≤ 0)) && ((stRight o.par) || (fixedSt o.par))) && (nameOk o.name)) rfl rfl rfl rfl rfl (((decide (cmpSt o.node o.tm ≤ 0)) && ((stRight o.par) || (fixedSt o.par))) && (nameOk o.name)) ga_t _ (fun hA v53 hv54 => R_loadA (cs := [(idCells o.data)]) Tryz.isAgg45 Tryz.sizeOf45 rfl (gv_t hA) ((boxR_at ((H6.ext hv54).getOwn 0 rfl)).chunks 8 1 8 8 _ rfl rfl rfl) ⟨rfl, Gr.refl _ _⟩) ?_
 refine Lx_qg (i := 24) true (((decide (cmpSt o.node o.tm ≤ 0)) && ((stRight o.par) || (fixedSt o.par))) && (nameOk o.name)) rfl rfl rfl rfl rfl (((decide (cmpSt o.node o.tm ≤ 0)) && ((stRight o.par) || (fixedSt o.par))) && (nameOk o.name)) ga_t _ (fun hA v55 hv56 => R_buildL (vs := []) (v := aggOf [(idCells zeroId)]) rfl (fun _ => by kernel_rfl) ⟨rfl, Gr.refl _ _⟩) ?_
 refine Lx_qg (i := 25) true (((decide (cmpSt o.node o.tm ≤ 0)) && ((stRight o.par) || (fixedSt o.par))) && (nameOk o.name)) rfl rfl rfl rfl rfl (((decide (cmpSt o.node o.tm ≤ 0)) && ((stRight o.par) || (fixedSt o.par))) && (nameOk o.name)) ga_t _ (fun hA v57 hv58 => R_eqv (a := o.data) (b := zeroId) eqv_ID45 rfl Tryz.eqGuardType45 (gv_t hA) (gv_t hA) ⟨rfl, Gr.refl _ _⟩) ?_
 refine Lx_q (i := 26) rfl rfl _ (fun v59 hv60 => R_pick (t := (((decide (cmpSt o.node o.tm ≤ 0)) && ((stRight o.par) || (fixedSt o.par))) && (nameOk o.name))) (v := (.bool ((((decide (cmpSt o.node o.tm ≤ 0)) && ((stRight o.par) || (fixedSt o.par))) && (nameOk o.name)) && (decide (o.data = zeroId))))) rfl pk_and ⟨rfl, Gr.refl _ _⟩) ?_
 refine Lx_q (i := 27) rfl rfl _ (fun v61 hv62 => R_move (v := (.bool ((((decide (cmpSt o.node o.tm ≤ 0)) && ((stRight o.par) || (fixedSt o.par))) && (nameOk o.name)) && (decide (o.data = zeroId))))) rfl ⟨rfl, Gr.refl _ _⟩) ?_
 refine Lx_qg (i := 28) true ((((decide (cmpSt o.node o.tm ≤ 0)) && ((stRight o.par) || (fixedSt o.par))) && (nameOk o.name)) && (decide (o.data = zeroId))) rfl rfl rfl rfl rfl ((((decide (cmpSt o.node o.tm ≤ 0)) && ((stRight o.par) || (fixedSt o.par))) && (nameOk o.name)) && (decide (o.data = zeroId))) ga_t _ (fun hA v63 hv64 => R_fieldAddr (off := 40) (oo := 40) Tryz.underlying72 rfl rfl Tryz.sizeOf70 rfl rfl ⟨rfl, Gr.refl _ _⟩) ?_
 refine Lx_qg (i := 29) true ((((decide (cmpSt o.node o.tm ≤ 0)) && ((stRight o.par) || (fixedSt o.par))) && (nameOk o.name)) && (decide (o.data = zeroId))) rfl rfl rfl rfl rfl ((((decide (cmpSt o.node o.tm ≤ 0)) && ((stRight o.par) || (fixedSt o.par))) && (nameOk o.name)) && (decide (o.data = zeroId))) ga_t _ (fun hA v65 hv66 => R_load1 (v := (slV o.oh o.over)) Tryz.isAgg70 (gv_t hA) ((boxR_at ((H6.ext hv66).getOwn 0 rfl)).chunks 9 1 40 40 _ rfl rfl rfl) ⟨rfl, Gr.refl _ _⟩) ?_
 refine Lx_qg (i := 30) true ((((decide (cmpSt o.node o.tm ≤ 0)) && ((stRight o.par) || (fixedSt o.par))) && (nameOk o.name)) && (decide (o.data = zeroId))) rfl rfl rfl rfl rfl ((((decide (cmpSt o.node o.tm ≤ 0)) && ((stRight o.par) || (fixedSt o.par))) && (nameOk o.name)) && (decide (o.data = zeroId))) ga_t _ (fun hA v67 hv68 => R_len_slice (a := o.oh.a) (n := o.over.length) (c := o.oh.c) Tryz.underlying70 (gv_t hA) ⟨rfl, Gr.refl _ _⟩) ?_
 refine Lx_qg (i := 31) true ((((decide (cmpSt o.node o.tm ≤ 0)) && ((stRight o.par) || (fixedSt o.par))) && (nameOk o.name)) && (decide (o.data = zeroId))) rfl rfl rfl rfl rfl ((((decide (cmpSt o.node o.tm ≤ 0)) && ((stRight o.par) || (fixedSt o.par))) && (nameOk o.name)) && (decide (o.data = zeroId))) ga_t _ (fun hA v69 hv70 => R_cmp (a := ((o.over.length : Nat) : Int)) (b := 0) (r := (decide (((o.over.length : Nat) : Int) = 0))) (gv_t hA) rfl rfl ⟨rfl, Gr.refl _ _⟩) ?_
 refine Lx_q (i := 32) rfl rfl _ (fun v71 hv72 => R_pick (t := ((((decide (cmpSt o.node o.tm ≤ 0)) && ((stRight o.par) || (fixedSt o.par))) && (nameOk o.name)) && (decide (o.data = zeroId)))) (v := (.bool (((((decide (cmpSt o.node o.tm ≤ 0)) && ((stRight o.par) || (fixedSt o.par))) && (nameOk o.name)) && (decide (o.data = zeroId))) && (decide (((o.over.length : Nat) : Int) = 0))))) rfl pk_and ⟨rfl, Gr.refl _ _⟩) ?_
 refine Lx_q (i := 33) rfl rfl _ (fun v73 hv74 => R_assign (v := (.bool (((((decide (cmpSt o.node o.tm ≤ 0)) && ((stRight o.par) || (fixedSt o.par))) && (nameOk o.name)) && (decide (o.data = zeroId))) && (decide (((o.over.length : Nat) : Int) = 0))))) rfl ⟨rfl, Gr.refl _ _⟩) ?_
 refine Lx_nil (fun w75 hw76 => ?_)
 have H77 := H6.ext hw76
 refine Then_n (W_ret ?_)
 refine ret_1 (v := (.bool (((((decide (cmpSt o.node o.tm ≤ 0)) && ((stRight o.par) || (fixedSt o.par))) && (nameOk o.name)) && (decide (o.data = zeroId))) && (decide (((o.over.length : Nat) : Int) = 0))))) Tryz.results128 rfl ?_
 exact ⟨moveOk_e, H77.gr⟩

end Go.Proofs.YthjdhfoeckfmbaaGreat
namespace Go.Proofs.YthjdhfoeckfmbaaGreat
open Go
set_option maxRecDepth 100000
set_option linter.unusedVariables false
set_option linter.unusedSimpArgs false
set_option linter.unusedSectionVars false
theorem stamp_Good_c100 : callable Tryz.prog 100 = true := by kernel_rfl
theorem stamp_Good_c128 : callable Tryz.prog 128 = true := by kernel_rfl
theorem stamp_Good_c129 : callable Tryz.prog 129 = true := by kernel_rfl
set_option maxHeartbeats 1000000 in
theorem stamp_Good (o : OpS) (w : World) (So_over : Sl (Old w) stampCh 2 o.oh o.over w) :
    Calls Tryz.prog 97 #[(aggOf (opCh o))] w (Ret fun v w' => v = (.bool (goodOp o)) ∧ Ext w w') := by
 refine calls_W Tryz.func97 rfl Tryz.ntmps97 rfl ?_
 have H0 := Ctx.start w nob
 have H1 := H0.addSl _ So_over (fun b hb => ⟨hb, fun _ ho => (nomatch ho)⟩)
 have LSo_over := So_over.len
 refine W_seq (W_reg ?_)
 refine O_v rfl (C_box H1 [[(.int .i64 o.kind)], [(.int .i64 o.tm.T)], [(.int .i64 o.tm.R)], [(.int .i64 o.node.T)], [(.int .i64 o.node.R)], [(.int .i64 o.par.T)], [(.int .i64 o.par.R)], [(.string o.name)], (idCells o.data), [(slV o.oh o.over)]] rfl ?_)
 intro b2 w3 hb4 hx5 H6
 refine O_v rfl (R_assign (v := (.bool false)) rfl ?_)
 refine O_nil (Then_n (W_seq (W_seq ?_)))
 refine W_rg [(0, .q 0), (1, .q 0), (2, .q 0), (3, .q 0), (4, .q 0), (5, .q 0), (6, .q 0), (7, .q 0), (8, .q 0), (9, .q 0)] (by kernel_rfl) ?_
 refine Lx_q (i := 0) rfl rfl _ (fun v7 hv8 => R_fieldAddr (off := 1) (oo := 1) Tryz.underlying72 rfl rfl Tryz.sizeOf69 rfl rfl ⟨rfl, Gr.refl _ _⟩) ?_
 refine Lx_q (i := 1) rfl rfl _ (fun v9 hv10 => R_loadA (cs := [[(.int .i64 o.tm.T)], [(.int .i64 o.tm.R)]]) Tryz.isAgg69 Tryz.sizeOf69 rfl rfl ((boxR_at ((H6.ext hv10).getOwn 0 rfl)).chunks 1 2 1 1 _ rfl rfl rfl) ⟨rfl, Gr.refl _ _⟩) ?_
 refine Lx_q (i := 2) rfl rfl (.bool (stRight o.tm)) (fun v11 hv12 => R_callL (vs := [(aggOf (stampCh o.tm))]) stamp_Good_c100 rfl rfl (stamp_Right o.tm v11 )) ?_
 refine Lx_q (i := 3) rfl rfl _ (fun v13 hv14 => R_not rfl ⟨rfl, Gr.refl _ _⟩) ?_
 refine Lx_q (i := 4) rfl rfl _ (fun v15 hv16 => R_move (v := (.bool (!(stRight o.tm)))) rfl ⟨rfl, Gr.refl _ _⟩) ?_
 refine Lx_qg (i := 5) true (!(stRight o.tm)) rfl rfl rfl rfl rfl (!(!(stRight o.tm))) ga_f _ (fun hA v17 hv18 => R_fieldAddr (off := 3) (oo := 3) Tryz.underlying72 rfl rfl Tryz.sizeOf69 rfl rfl ⟨rfl, Gr.refl _ _⟩) ?_
 refine Lx_qg (i := 6) true (!(stRight o.tm)) rfl rfl rfl rfl rfl (!(!(stRight o.tm))) ga_f _ (fun hA v19 hv20 => R_loadA (cs := [[(.int .i64 o.node.T)], [(.int .i64 o.node.R)]]) Tryz.isAgg69 Tryz.sizeOf69 rfl (gv_t hA) ((boxR_at ((H6.ext hv20).getOwn 0 rfl)).chunks 3 2 3 3 _ rfl rfl rfl) ⟨rfl, Gr.refl _ _⟩) ?_
 refine Lx_qg (i := 7) true (!(stRight o.tm)) rfl rfl rfl rfl rfl (!(!(stRight o.tm))) ga_f (.bool (stRight o.node)) (fun hA v21 hv22 => R_callL (vs := [(aggOf (stampCh o.node))]) stamp_Good_c100 rfl (lst1 (gv_t hA)) (stamp_Right o.node v21 )) ?_
 refine Lx_qg (i := 8) true (!(stRight o.tm)) rfl rfl rfl rfl rfl (!(!(stRight o.tm))) ga_f _ (fun hA v23 hv24 => R_not (gv_t hA) ⟨rfl, Gr.refl _ _⟩) ?_
 refine Lx_q (i := 9) rfl rfl _ (fun v25 hv26 => R_pick (t := (!(stRight o.tm))) (v := (.bool ((!(stRight o.tm)) || (!(stRight o.node))))) rfl pk_or ⟨rfl, Gr.refl _ _⟩) ?_
 refine Lx_nil (fun w27 hw28 => ?_)
 have H29 := H6.ext hw28
 refine Then_n ?_
 refine W_cond (t := ((!(stRight o.tm)) || (!(stRight o.node)))) rfl (fun hc30 => ?_) (fun hc30 => ?_)
 ·have hc30 : ((stRight o.tm) = false ∨ (stRight o.node) = false) := (Or.imp (fun h => (notT h)) (fun h => (notT h)) (orT hc30))
  refine W_seq (W_reg ?_)
  refine O_v rfl (R_assign (v := (.bool false)) rfl ?_)
  refine O_nil (Then_n (W_ret (Then_r ?_)))
  refine ret_1 (v := (.bool false)) Tryz.results97 rfl ?_
  exact ⟨(good_f (by assumption)), H29.gr⟩
 ·have hc30 : ((stRight o.tm) = true ∧ (stRight o.node) = true) := (And.imp (fun h => (notF h)) (fun h => (notF h)) (orF hc30))
  refine W_skip (Then_n (W_seq (W_seq (W_reg ?_))))
  refine O_v rfl (R_fieldAddr (off := 0) (oo := 0) Tryz.underlying72 rfl rfl Tryz.sizeOf3 rfl rfl ?_)
  refine O_v rfl (R_load1 (v := (.int .i64 o.kind)) Tryz.isAgg3 rfl ((boxR_at (H29.getOwn 0 rfl)).chunks 0 1 0 0 _ rfl rfl rfl) ?_)
  refine O_nil (Then_n (W_block (W_seq (W_reg ?_))))
  refine O_v rfl (R_cmp (a := o.kind) (b := 1) (r := (decide (o.kind = 1))) rfl rfl rfl ?_)
  refine O_v rfl (R_assign (v := (.bool (decide (o.kind = 1)))) rfl ?_)
  refine O_nil (Then_n ?_)
  refine W_cond (t := (decide (o.kind = 1))) rfl (fun hc31 => ?_) (fun hc31 => ?_)
  ·have hc31 : (o.kind = 1) := (of_decide_eq_true hc31)
   refine W_seq (W_reg ?_)
   refine O_v rfl (R_loadA (cs := [[(.int .i64 o.kind)], [(.int .i64 o.tm.T)], [(.int .i64 o.tm.R)], [(.int .i64 o.node.T)], [(.int .i64 o.node.R)], [(.int .i64 o.par.T)], [(.int .i64 o.par.R)], [(.string o.name)], (idCells o.data), [(slV o.oh o.over)]]) Tryz.isAgg72 Tryz.sizeOf72 rfl rfl ((boxR_at (H29.getOwn 0 rfl)).chunks 0 10 0 0 _ rfl rfl rfl) ?_)
   refine O_v rfl (R_callL (vs := [(aggOf (opCh o))]) stamp_Good_c128 rfl rfl ((stamp_move o w27 (H29.slOld 0 rfl)).ret ?_))
   rintro _ w32 ⟨rfl, hx33⟩
   have H34 := H29.ext hx33
   refine O_v rfl (R_assign (v := (.bool (moveOk o))) rfl ?_)
   refine O_nil (Then_n (W_ret (Blk_r (Then_r ?_))))
   refine ret_1 (v := (.bool (moveOk o))) Tryz.results97 rfl ?_
   exact ⟨(good_m (by assumption) (by assumption)), H34.gr⟩
  ·have hc31 : ¬ (o.kind = 1) := (of_decide_eq_false hc31)
   refine W_seq (W_reg ?_)
   refine O_v rfl (R_cmp (a := o.kind) (b := 2) (r := (decide (o.kind = 2))) rfl rfl rfl ?_)
   refine O_v rfl (R_assign (v := (.bool (decide (o.kind = 2)))) rfl ?_)
   refine O_nil (Then_n ?_)
   refine W_cond (t := (decide (o.kind = 2))) rfl (fun hc35 => ?_) (fun hc35 => ?_)
   ·have hc35 : (o.kind = 2) := (of_decide_eq_true hc35)
    refine W_seq (W_reg ?_)
    refine O_v rfl (R_loadA (cs := [[(.int .i64 o.kind)], [(.int .i64 o.tm.T)], [(.int .i64 o.tm.R)], [(.int .i64 o.node.T)], [(.int .i64 o.node.R)], [(.int .i64 o.par.T)], [(.int .i64 o.par.R)], [(.string o.name)], (idCells o.data), [(slV o.oh o.over)]]) Tryz.isAgg72 Tryz.sizeOf72 rfl rfl ((boxR_at (H29.getOwn 0 rfl)).chunks 0 10 0 0 _ rfl rfl rfl) ?_)
    refine O_v rfl (R_callL (vs := [(aggOf (opCh o))]) stamp_Good_c129 rfl rfl ((stamp_edit o w27 (H29.slOld 0 rfl)).ret ?_))
    rintro _ w36 ⟨rfl, hx37⟩
    have H38 := H29.ext hx37
    refine O_v rfl (R_assign (v := (.bool (editOk o))) rfl ?_)
    refine O_nil (Then_n (W_ret (Blk_r (Then_r ?_))))
    refine ret_1 (v := (.bool (editOk o))) Tryz.results97 rfl ?_
    exact ⟨(good_e (by assumption) (by assumption)), H38.gr⟩
   ·have hc35 : ¬ (o.kind = 2) := (of_decide_eq_false hc35)
    refine W_skip (Blk_n (Then_n (W_seq (W_reg ?_))))
    refine O_v rfl (R_assign (v := (.bool false)) rfl ?_)
    refine O_nil (Then_n (W_ret ?_))
    refine ret_1 (v := (.bool false)) Tryz.results97 rfl ?_
    exact ⟨(good_n (by assumption) (by assumption)), H29.gr⟩

end Go.Proofs.YthjdhfoeckfmbaaGreat
