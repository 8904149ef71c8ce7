/- Proved: for every input, pollardlaw04.ObjKeeps returns true and leaves its arguments as they were. No condition. -/
import Derived.Shelf.SlSortCmp.WholeK
import Derived.Test.YthjdhfoeckfmbaaX2
namespace Go.Proofs.Ythjdhfoeckfmbaa
open Go
set_option maxRecDepth 100000
set_option linter.unusedVariables false
set_option linter.unusedSimpArgs false
set_option linter.unusedSectionVars false
variable [DD]
set_option maxHeartbeats 1000000 in
theorem enc_Id (hb : SlH) (b : List UInt8) (id : ID) (w : World) (Sb : Sl (Old w) encB 1 hb b w) (hl : b.length ≤ 70368744177664) :
    Calls Try.prog 18 #[(slV hb b), (aggOf (idCh id))] w (Ret fun v w' => ∃ h, v = slV h (b ++ idList id) ∧ Ext w w' ∧ OwnS w.heap.size 5 1 encB h (b ++ idList id) w') := by
 refine calls_W Try.func18 rfl Try.ntmps18 rfl ?_
 have H0 := Ctx.start w nob
 have H1 := H0.addSl _ Sb (fun b hb => ⟨hb, fun _ ho => (nomatch ho)⟩)
 have LSb := Sb.len
 refine W_seq (W_reg ?_)
 refine O_v rfl (C_box H1 [(idCells id)] rfl ?_)
 intro b2 w3 hb4 hx5 H6
 refine O_as (v := (.slice none 0 0)) rfl rfl ?_
 refine O_nil (Then_n (W_seq ?_))
 refine W_rgdM TryMixed nob (fun i => if i == 3 then 2 else 0) [(0, .q 2), (2, .q 2), (1, .c 0), (3, .c 2), (4, .q 2)] (by kernel_rfl) ?_
 refine Lx_mv (v := (slV hb b)) rfl rfl rfl (Lx_q rfl rfl _ (fun v9 hv10 => R_slice_arr Try.underlying25 Try.sizeOf5 rfl (by decide) qk) ?_)
 refine Lx_c rfl rfl (fun w11 hw12 => ?_)
 have H13 := H6.ext hw12
 refine (R_callL (vs := [(slV hb b)]) cF47 rfl rfl ((Clone_byte hb b w11 (H13.slOld 0 rfl) (by omega)).ret ?_))
 rintro _ w15 ⟨h14, rfl, hx16, ho17⟩
 have H18 := H13.addRow hx16 ho17
 refine ⟨GrF.ofExt hx16, ?_⟩
 refine Lx_c rfl rfl (fun w19 hw20 => ?_)
 have H21 := H18.ext hw20
 refine (C_append H21 0 rfl (bytes := 1) (l := b) (ys := (idList id)) Try.underlying31 rfl rfl rfl rfl rfl (by decide) rfl rfl (Sl_box (H21.getOwn 1 rfl)) (fun _ => rfl) (fun _ => rfl) (by rw [idList_len]; omega) (by decide) ?_)
 intro h22 w23 hg24 H25
 refine ⟨Gr.mono (M' := fun _ => True) hg24 (fun _ _ => trivial), ?_⟩
 refine Lx_q rfl rfl _ (fun v26 hv27 => R_assign (v := (slV h22 (b ++ (idList id)))) rfl qk) ?_
 refine Lx_nil (fun w28 hw29 => ?_)
 have H30 := H25.ext hw29
 refine Then_n (W_ret ?_)
 refine ret_1 (v := (slV h22 (b ++ (idList id)))) Try.results18 rfl ?_
 exact ⟨h22, rfl, H30.gr, H30.retRow 0 rfl⟩
set_option maxHeartbeats 1000000 in
theorem enc_Num (hb : SlH) (b : List UInt8) (n : Int) (w : World) (Sb : Sl (Old w) encB 1 hb b w) (hl : b.length ≤ 70368744177664) :
    Calls Try.prog 17 #[(slV hb b), (.int .i64 n)] w (Ret fun v w' => ∃ h, v = slV h (b ++ numB n) ∧ Ext w w' ∧ OwnS w.heap.size 5 1 encB h (b ++ numB n) w') := by
 refine calls_W Try.func17 rfl Try.ntmps17 rfl ?_
 have H0 := Ctx.start w nob
 have H1 := H0.addSl _ Sb (fun b hb => ⟨hb, fun _ ho => (nomatch ho)⟩)
 have LSb := Sb.len
 refine W_seq (W_reg ?_)
 refine O_as (v := (.slice none 0 0)) rfl rfl ?_
 refine O_nil (Then_n (W_seq (W_reg ?_)))
 refine O_mv (v := (slV hb b)) rfl rfl ?_
 refine O_v rfl (R_callL (vs := [(slV hb b)]) cF47 rfl rfl ((Clone_byte hb b w (H1.slOld 0 rfl) (by omega)).ret ?_))
 rintro _ w3 ⟨h2, rfl, hx4, ho5⟩
 have H6 := H1.addRow hx4 ho5
 refine O_as (v := (slV h2 b)) rfl rfl ?_
 refine O_nil (Then_n (W_seq (W_reg ?_)))
 refine O_mv (v := (.int .i64 n)) rfl rfl ?_
 refine O_v rfl (R_max2L (a := n) (b := 0) rfl ?_)
 refine O_v rfl (R_min2L (a := (max n 0)) (b := 4611686018427387904) rfl ?_)
 refine O_v rfl (R_conv_int (a := (min (max n 0) 4611686018427387904)) (r := ((numClamp n : Nat) : Int)) Try.underlying2 Try.underlying86 rfl (conv_clamp n) ?_)
 refine O_as (v := (.int .u64 ((numClamp n : Nat) : Int))) rfl rfl ?_
 refine O_nil (Then_n (W_seq (W_block ?_)))
 refine W_loop (fun m8 e9 w10 => ∃ (u : Nat), ∃ (acc : List UInt8), ∃ (h7 : SlH), m8 = u + 1 ∧ (acc ++ numGo u = b ++ numB n) ∧ ∃ eb11, e9 = envL [(4, (.slice none 0 0)), (5, (slV h7 acc)), (6, (.int .u64 (u : Int)))] eb11 ∧ Ctx w nob w10 [rowR 5 1 encB h7 acc] [slI (Old w) encB 1 hb b]) _ ⟨(numClamp n), b, h2, rfl, rfl, _, envL_self ⟨rfl, rfl, rfl, trivial⟩, H6⟩ ?_
 rintro m8 _ w10 ⟨u, acc, h7, rfl, ha, eb11, rfl, H12⟩
 refine W_seq (W_seq (W_reg ?_))
 refine O_mv (v := (.int .u64 (u : Int))) rfl rfl ?_
 refine O_v rfl (R_cmp (a := (u : Int)) (b := 127) (r := (decide (127 < (u : Int)))) rfl rfl rfl ?_)
 refine O_nil (Then_n ?_)
 refine W_cond rfl (fun hc13 => ?_) (fun hc13 => ?_)
 ·have hc13 := (of_decide_eq_true hc13)
  refine W_skip (Then_n (W_block (W_seq (W_reg ?_))))
  refine O_mv (v := (slV h7 acc)) rfl rfl (O_mv (v := (.int .u64 (u : Int))) rfl rfl ?_)
  refine O_v rfl (R_conv_int (a := (u : Int)) (r := ((UInt8.ofNat u).toNat : Int)) Try.underlying86 Try.underlying5 rfl (conv_u8 _) ?_)
  refine O_v rfl (R_bits (k := .u8) (a := ((UInt8.ofNat u).toNat : Int)) (b := ((128 : UInt8).toNat : Int)) (r := (((UInt8.ofNat u) ||| (128 : UInt8)).toNat : Int)) rfl rfl (bit_or8 _ _) ?_)
  refine O_v rfl (C_buildSliceL H12 (enc := encB) (val := byteV) ([((UInt8.ofNat u) ||| (128 : UInt8))] : List UInt8) Try.underlying31 Try.sizeOf5 Try.zeroValue5 rfl (by decide) (fun _ => rfl) (fun _ => rfl) rfl rfl (by decide) ?_)
  intro b14 w15 hb16 hx17 H18
  refine O_v rfl (C_append H18 1 rfl (bytes := 1) (l := acc) (ys := ([((UInt8.ofNat u) ||| (128 : UInt8))] : List UInt8)) Try.underlying31 rfl rfl rfl rfl rfl (by decide) rfl rfl (OwnS.sl (H18.getOwn 0 rfl) (fun _ => rfl)) (fun _ => rfl) (fun _ => rfl) (by have := num_room ha; simp only [List.length_append, List.length_cons, List.length_nil]; omega) (by decide) ?_)
  intro h19 w20 hg21 H22
  refine O_as (v := (slV h19 (acc ++ ([((UInt8.ofNat u) ||| (128 : UInt8))] : List UInt8)))) rfl rfl ?_
  refine O_nil (Then_n (W_reg ?_))
  refine O_mv (v := (.int .u64 (u : Int))) rfl rfl ?_
  refine O_v rfl (R_shr (a := (u : Int)) (b := ((7 : Nat) : Int)) (r := ((u / 128 : Nat) : Int)) rfl rfl (by decide) (shr_nat _ _ (by decide)) ?_)
  refine O_as (v := (.int .u64 ((u / 128 : Nat) : Int))) rfl rfl ?_
  refine O_nil (Blk_n (Then_n ?_))
  have H23 := H22.sub (List.Sublist.cons _ (List.Sublist.cons_cons _ List.Sublist.slnil)) (List.forall_mem_cons.2 ⟨List.mem_of_getElem? (i := 0) rfl, memN⟩)
  refine ⟨_, ?_, (u / 128), (acc ++ ([((UInt8.ofNat u) ||| (128 : UInt8))] : List UInt8)), h19, rfl, (num_step ha (by omega)), _, envL_self ⟨rfl, rfl, rfl, trivial⟩, H23⟩
  omega
 ·have hc13 := (of_decide_eq_false hc13)
  refine W_exit (Then_x (Then_x (Blk_x (Then_n (W_seq (W_reg ?_))))))
  refine O_mv (v := (slV h7 acc)) rfl rfl (O_mv (v := (.int .u64 (u : Int))) rfl rfl ?_)
  refine O_v rfl (R_conv_int (a := (u : Int)) (r := ((UInt8.ofNat u).toNat : Int)) Try.underlying86 Try.underlying5 rfl (conv_u8 _) ?_)
  refine O_v rfl (C_buildSliceL H12 (enc := encB) (val := byteV) ([(UInt8.ofNat u)] : List UInt8) Try.underlying31 Try.sizeOf5 Try.zeroValue5 rfl (by decide) (fun _ => rfl) (fun _ => rfl) rfl rfl (by decide) ?_)
  intro b24 w25 hb26 hx27 H28
  refine O_v rfl (C_append H28 1 rfl (bytes := 1) (l := acc) (ys := ([(UInt8.ofNat u)] : List UInt8)) Try.underlying31 rfl rfl rfl rfl rfl (by decide) rfl rfl (OwnS.sl (H28.getOwn 0 rfl) (fun _ => rfl)) (fun _ => rfl) (fun _ => rfl) (by have := num_room ha; simp only [List.length_append, List.length_cons, List.length_nil]; omega) (by decide) ?_)
  intro h29 w30 hg31 H32
  refine O_as (v := (slV h29 (acc ++ ([(UInt8.ofNat u)] : List UInt8)))) rfl rfl ?_
  refine O_nil (Then_n (W_ret ?_))
  refine ret_1 (v := (slV h29 (acc ++ ([(UInt8.ofNat u)] : List UInt8)))) Try.results17 rfl ?_
  have hE : acc ++ ([(UInt8.ofNat u)] : List UInt8) = b ++ numB n := (num_end ha (by omega))
  refine ⟨h29, ?_, H32.gr, ?_⟩
  · exact congrArg (fun l => slV h29 l) hE
  · have hO := H32.retRow 1 rfl
    exact hE ▸ hO
theorem cF17 : callable Try.prog 17 = true := by kernel_rfl
set_option maxHeartbeats 1000000 in
theorem enc_Text (hb : SlH) (b : List UInt8) (s : ByteArray) (w : World) (Sb : Sl (Old w) encB 1 hb b w) (hl : b.length + s.size ≤ 70368744177664) :
    Calls Try.prog 20 #[(slV hb b), (.string s)] w (Ret fun v w' => ∃ h, v = slV h (b ++ textB s) ∧ Ext w w' ∧ OwnS w.heap.size 5 1 encB h (b ++ textB s) w') := by
 refine calls_W Try.func20 rfl Try.ntmps20 rfl ?_
 have H0 := Ctx.start w nob
 have H1 := H0.addSl _ Sb (fun b hb => ⟨hb, fun _ ho => (nomatch ho)⟩)
 have LSb := Sb.len
 refine W_seq (W_reg ?_)
 refine O_as (v := (.slice none 0 0)) rfl rfl ?_
 refine O_nil (Then_n (W_seq (W_reg ?_)))
 refine O_mv (v := (slV hb b)) rfl rfl (O_mv (v := (.string s)) rfl rfl ?_)
 refine O_v rfl (R_len_string Try.underlying9 rfl ?_)
 refine O_v rfl (R_callL (vs := [(slV hb b), (.int .i64 (s.size : Int))]) cF17 rfl rfl ((enc_Num hb b (s.size : Int) w (H1.slOld 0 rfl) (by omega)).ret ?_))
 rintro _ w3 ⟨h2, rfl, hx4, ho5⟩
 have H6 := H1.addRow hx4 ho5
 refine O_mv (v := (.string s)) rfl rfl ?_
 refine O_v rfl (C_appendS H6 0 rfl (l := (b ++ numB (s.size : Int))) (str := s) Try.underlying31 Try.underlying9 rfl rfl rfl rfl rfl rfl (by have := numB_len s.size; simp only [List.length_append]; omega) ?_)
 intro h7 w8 hg9 H10
 refine O_as (v := (slV h7 ((b ++ numB (s.size : Int)) ++ s.data.toList))) rfl rfl ?_
 refine O_nil (Then_n (W_ret ?_))
 refine ret_1 (v := (slV h7 ((b ++ numB (s.size : Int)) ++ s.data.toList))) Try.results20 rfl ?_
 have hE : (b ++ numB (s.size : Int)) ++ s.data.toList = b ++ textB s := (List.append_assoc _ _ _)
 refine ⟨h7, ?_, H10.gr, ?_⟩
 · exact congrArg (fun l => slV h7 l) hE
 · have hO := H10.retRow 0 rfl
   exact hE ▸ hO
set_option maxHeartbeats 1000000 in
theorem stamp_put (hb : SlH) (b : List UInt8) (s : Stamp) (w : World) (Sb : Sl (Old w) encB 1 hb b w) (hl : b.length ≤ 35184372088832) :
    Calls Try.prog 48 #[(slV hb b), (aggOf (stampCh s))] w (Ret fun v w' => ∃ h, v = slV h (b ++ atB s) ∧ Ext w w' ∧ OwnS w.heap.size 5 1 encB h (b ++ atB s) w') := by
 refine calls_W Try.func48 rfl Try.ntmps48 rfl ?_
 have H0 := Ctx.start w nob
 have H1 := H0.addSl _ Sb (fun b hb => ⟨hb, fun _ ho => (nomatch ho)⟩)
 have LSb := Sb.len
 refine W_seq (W_reg ?_)
 refine O_v rfl (C_box H1 [[(.int .i64 s.T)], [(.int .i64 s.R)]] rfl ?_)
 intro b2 w3 hb4 hx5 H6
 refine O_as (v := (.slice none 0 0)) rfl rfl ?_
 refine O_nil (Then_n (W_seq ?_))
 refine W_rgd TryMixed [(0, .q 0), (1, .q 0), (2, .q 0), (4, .q 0), (5, .q 0), (3, .c 0), (6, .c 0), (7, .q 0)] (by kernel_rfl) ?_
 refine Lx_mv (v := (slV hb b)) rfl rfl rfl (Lx_q rfl rfl _ (fun v9 hv10 => R_fieldAddr (off := 0) (oo := 0) Try.underlying46 rfl rfl Try.sizeOf2 rfl rfl qk) (Lx_q rfl rfl _ (fun v11 hv12 => R_load1 (v := (.int .i64 s.T)) Try.isAgg2 rfl ((H6.ext hv12).bx 0 rfl 0 1 0 0 _ rfl rfl rfl) qk) (Lx_q rfl rfl _ (fun v13 hv14 => R_fieldAddr (off := 1) (oo := 1) Try.underlying46 rfl rfl Try.sizeOf3 rfl rfl qk) ?_)))
 refine Lx_q rfl rfl _ (fun v15 hv16 => R_load1 (v := (.int .i64 s.R)) Try.isAgg3 rfl ((H6.ext hv16).bx 0 rfl 1 1 1 1 _ rfl rfl rfl) qk) ?_
 refine Lx_c rfl rfl (fun w17 hw18 => ?_)
 have H19 := H6.ext hw18
 refine (R_callL (vs := [(slV hb b), (.int .i64 s.T)]) cF17 rfl rfl ((enc_Num hb b s.T w17 (H19.slOld 0 rfl) (by omega)).ret ?_))
 rintro _ w21 ⟨h20, rfl, hx22, ho23⟩
 have H24 := H19.addRow hx22 ho23
 refine ⟨GrF.ofExt hx22, ?_⟩
 refine Lx_c rfl rfl (fun w25 hw26 => ?_)
 have H27 := H24.ext hw26
 refine (R_callL (vs := [(slV h20 (b ++ numB s.T)), (.int .i64 s.R)]) cF17 rfl rfl ((enc_Num h20 (b ++ numB s.T) s.R w25 (H27.rowSl 0 rfl (fun _ => rfl)) (by have := numB_len s.T; simp only [List.length_append]; omega)).ret ?_))
 rintro _ w29 ⟨h28, rfl, hx30, ho31⟩
 have H32 := H27.addRow hx30 ho31
 refine ⟨GrF.ofExt hx30, ?_⟩
 refine Lx_q rfl rfl _ (fun v33 hv34 => R_assign (v := (slV h28 ((b ++ numB s.T) ++ numB s.R))) rfl qk) ?_
 refine Lx_nil (fun w35 hw36 => ?_)
 have H37 := H32.ext hw36
 refine Then_n (W_ret ?_)
 refine ret_1 (v := (slV h28 ((b ++ numB s.T) ++ numB s.R))) Try.results48 rfl ?_
 have hE : (b ++ numB s.T) ++ numB s.R = b ++ atB s := (List.append_assoc _ _ _)
 refine ⟨h28, ?_, H37.gr, ?_⟩
 · exact congrArg (fun l => slV h28 l) hE
 · have hO := H37.retRow 0 rfl
   exact hE ▸ hO
end Go.Proofs.Ythjdhfoeckfmbaa
namespace Go.Proofs.Ythjdhfoeckfmbaa
open Go
set_option maxRecDepth 100000
set_option linter.unusedVariables false
set_option linter.unusedSimpArgs false
set_option linter.unusedSectionVars false
theorem cF18 : callable Try.prog 18 = true := by kernel_rfl
theorem cF20 : callable Try.prog 20 = true := by kernel_rfl
theorem cF48 : callable Try.prog 48 = true := by kernel_rfl
set_option maxHeartbeats 2000000 in
theorem stamp_Put (hb : SlH) (b : List UInt8) (o : OpS) (w : World) (Sb : Sl (Old w) encB 1 hb b w) (So_over : Sl (Old w) stampCh 2 o.oh o.over w) (hl : b.length ≤ 1099511627776) :
    Calls Try.prog 19 #[(slV hb b), (aggOf (opCh o))] w (Ret fun v w' => ∃ h, v = slV h (b ++ putOpB o) ∧ Ext w w' ∧ OwnS w.heap.size 5 1 encB h (b ++ putOpB o) w') := by
 refine calls_W Try.func19 rfl Try.ntmps19 rfl ?_
 have H0 := Ctx.start w nob
 have H1 := H0.addSl _ Sb (fun b hb => ⟨hb, fun _ ho => (nomatch ho)⟩)
 have LSb := Sb.len
 have H2 := H1.addSl _ So_over (fun b hb => ⟨hb, fun _ ho => (nomatch ho)⟩)
 have LSo_over := So_over.len
 refine W_seq (W_reg ?_)
 refine O_v rfl (C_box H2 [[(.int .i64 o.kind)], [(.int .i64 o.tm.T)], [(.int .i64 o.tm.R)], [(.int .i64 o.node.T)], [(.int .i64 o.node.R)], [(.int .i64 o.par.T)], [(.int .i64 o.par.R)], [(.string o.name)], (idCells o.data), [(slV o.oh o.over)]] rfl ?_)
 intro b3 w4 hb5 hx6 H7
 refine O_as (v := (.slice none 0 0)) rfl rfl ?_
 refine O_nil (Then_n (W_seq (W_seq (W_reg ?_))))
 refine O_v rfl (R_loadA (cs := [[(.int .i64 o.kind)], [(.int .i64 o.tm.T)], [(.int .i64 o.tm.R)], [(.int .i64 o.node.T)], [(.int .i64 o.node.R)], [(.int .i64 o.par.T)], [(.int .i64 o.par.R)], [(.string o.name)], (idCells o.data), [(slV o.oh o.over)]]) Try.isAgg56 Try.sizeOf56 rfl rfl (H7.bx 0 rfl 0 10 0 0 _ rfl rfl rfl) ?_)
 refine O_v rfl (R_callL (vs := [(aggOf (opCh o))]) cF38 rfl rfl ((stamp_Good o w4 (H7.slOld 0 rfl)).ret ?_))
 rintro _ w8 ⟨rfl, hx9⟩
 have H10 := H7.ext hx9
 refine O_v rfl (R_not rfl ?_)
 refine O_nil (Then_n ?_)
 refine W_cond rfl (fun hc11 => ?_) (fun hc11 => ?_)
 ·have hc11 : (goodOp o) = false := (notT hc11)
  refine W_seq (W_reg ?_)
  refine O_mv (v := (slV hb b)) rfl rfl ?_
  refine O_v rfl (R_callL (vs := [(slV hb b)]) cF47 rfl rfl ((Clone_byte hb b w8 (H10.slOld 1 rfl) (by omega)).ret ?_))
  rintro _ w13 ⟨h12, rfl, hx14, ho15⟩
  have H16 := H10.addRow hx14 ho15
  refine O_as (v := (slV h12 b)) rfl rfl ?_
  refine O_nil (Then_n (W_ret (Then_r ?_)))
  refine ret_1 (v := (slV h12 b)) Try.results19 rfl ?_
  have hE : b = b ++ putOpB o := (putOp_no (by assumption))
  refine ⟨h12, ?_, H16.gr, ?_⟩
  · exact congrArg (fun l => slV h12 l) hE
  · have hO := H16.retRow 0 rfl
    exact hE ▸ hO
 ·have hc11 : (goodOp o) = true := (notF hc11)
  have hG := hc11
  refine W_skip (Then_n (W_seq ?_))
  refine W_rgd TryMixed [(0, .q 0), (1, .q 0), (2, .q 0), (4, .q 0), (5, .q 0), (7, .q 0), (8, .q 0), (3, .c 0), (6, .c 0), (9, .c 0), (10, .q 0)] (by kernel_rfl) ?_
  refine Lx_mv (v := (slV hb b)) rfl rfl rfl (Lx_q rfl rfl _ (fun v19 hv20 => R_fieldAddr (off := 0) (oo := 0) Try.underlying56 rfl rfl Try.sizeOf3 rfl rfl qk) (Lx_q rfl rfl _ (fun v21 hv22 => R_load1 (v := (.int .i64 o.kind)) Try.isAgg3 rfl ((H10.ext hv22).bx 0 rfl 0 1 0 0 _ rfl rfl rfl) qk) (Lx_q rfl rfl _ (fun v23 hv24 => R_fieldAddr (off := 1) (oo := 1) Try.underlying56 rfl rfl Try.sizeOf46 rfl rfl qk) ?_)))
  refine Lx_q rfl rfl _ (fun v25 hv26 => R_loadA (cs := [[(.int .i64 o.tm.T)], [(.int .i64 o.tm.R)]]) Try.isAgg46 Try.sizeOf46 rfl rfl ((H10.ext hv26).bx 0 rfl 1 2 1 1 _ rfl rfl rfl) qk) (Lx_q rfl rfl _ (fun v27 hv28 => R_fieldAddr (off := 3) (oo := 3) Try.underlying56 rfl rfl Try.sizeOf46 rfl rfl qk) (Lx_q rfl rfl _ (fun v29 hv30 => R_loadA (cs := [[(.int .i64 o.node.T)], [(.int .i64 o.node.R)]]) Try.isAgg46 Try.sizeOf46 rfl rfl ((H10.ext hv30).bx 0 rfl 3 2 3 3 _ rfl rfl rfl) qk) ?_))
  refine Lx_c rfl rfl (fun w31 hw32 => ?_)
  have H33 := H10.ext hw32
  refine (R_callL (vs := [(slV hb b), (.int .i64 o.kind)]) cF17 rfl rfl ((enc_Num hb b o.kind w31 (H33.slOld 1 rfl) (by omega)).ret ?_))
  rintro _ w35 ⟨h34, rfl, hx36, ho37⟩
  have H38 := H33.addRow hx36 ho37
  refine ⟨GrF.ofExt hx36, ?_⟩
  refine Lx_c rfl rfl (fun w39 hw40 => ?_)
  have H41 := H38.ext hw40
  refine (R_callL (vs := [(slV h34 (b ++ numB o.kind)), (aggOf (stampCh o.tm))]) cF48 rfl rfl ((stamp_put h34 (b ++ numB o.kind) o.tm w39 (H41.rowSl 0 rfl (fun _ => rfl)) (by have h1 := numB_len o.kind; have h2 := atB_len o.tm; have h3 := atB_len o.node; have h4 := atB_len o.par; have h5 := numB_len (o.over.length : Int); have h6 := good_lens hG; simp only [List.length_append, idList_len]; omega)).ret ?_))
  rintro _ w43 ⟨h42, rfl, hx44, ho45⟩
  have H46 := H41.addRow hx44 ho45
  refine ⟨GrF.ofExt hx44, ?_⟩
  refine Lx_c rfl rfl (fun w47 hw48 => ?_)
  have H49 := H46.ext hw48
  refine (R_callL (vs := [(slV h42 ((b ++ numB o.kind) ++ atB o.tm)), (aggOf (stampCh o.node))]) cF48 rfl rfl ((stamp_put h42 ((b ++ numB o.kind) ++ atB o.tm) o.node w47 (H49.rowSl 0 rfl (fun _ => rfl)) (by have h1 := numB_len o.kind; have h2 := atB_len o.tm; have h3 := atB_len o.node; have h4 := atB_len o.par; have h5 := numB_len (o.over.length : Int); have h6 := good_lens hG; simp only [List.length_append, idList_len]; omega)).ret ?_))
  rintro _ w51 ⟨h50, rfl, hx52, ho53⟩
  have H54 := H49.addRow hx52 ho53
  refine ⟨GrF.ofExt hx52, ?_⟩
  refine Lx_q rfl rfl _ (fun v55 hv56 => R_assign (v := (slV h50 (((b ++ numB o.kind) ++ atB o.tm) ++ atB o.node))) rfl qk) ?_
  refine Lx_nil (fun w57 hw58 => ?_)
  have H59 := H54.ext hw58
  refine Then_n (W_seq (W_seq (W_reg ?_)))
  refine O_v rfl (R_fieldAddr (off := 0) (oo := 0) Try.underlying56 rfl rfl Try.sizeOf3 rfl rfl ?_)
  refine O_v rfl (R_load1 (v := (.int .i64 o.kind)) Try.isAgg3 rfl (H59.bx 3 rfl 0 1 0 0 _ rfl rfl rfl) ?_)
  refine O_v rfl (R_cmp (a := o.kind) (b := 1) (r := (decide (o.kind = 1))) rfl rfl rfl ?_)
  refine O_nil (Then_n ?_)
  refine W_cond rfl (fun hc60 => ?_) (fun hc60 => ?_)
  ·have hc60 := (of_decide_eq_true hc60)
   have hK := hc60
   refine W_seq ?_
   refine W_rgd TryMixed [(0, .q 0), (1, .q 0), (2, .q 0), (4, .q 0), (5, .q 0), (3, .c 0), (6, .c 0), (7, .q 0)] (by kernel_rfl) ?_
   refine Lx_mv (v := (slV h50 (((b ++ numB o.kind) ++ atB o.tm) ++ atB o.node))) rfl rfl rfl (Lx_q rfl rfl _ (fun v63 hv64 => R_fieldAddr (off := 5) (oo := 5) Try.underlying56 rfl rfl Try.sizeOf46 rfl rfl qk) (Lx_q rfl rfl _ (fun v65 hv66 => R_loadA (cs := [[(.int .i64 o.par.T)], [(.int .i64 o.par.R)]]) Try.isAgg46 Try.sizeOf46 rfl rfl ((H59.ext hv66).bx 3 rfl 5 2 5 5 _ rfl rfl rfl) qk) (Lx_q rfl rfl _ (fun v67 hv68 => R_fieldAddr (off := 7) (oo := 7) Try.underlying56 rfl rfl Try.sizeOf9 rfl rfl qk) ?_)))
   refine Lx_q rfl rfl _ (fun v69 hv70 => R_load1 (v := (.string o.name)) Try.isAgg9 rfl ((H59.ext hv70).bx 3 rfl 7 1 7 7 _ rfl rfl rfl) qk) ?_
   refine Lx_c rfl rfl (fun w71 hw72 => ?_)
   have H73 := H59.ext hw72
   refine (R_callL (vs := [(slV h50 (((b ++ numB o.kind) ++ atB o.tm) ++ atB o.node)), (aggOf (stampCh o.par))]) cF48 rfl rfl ((stamp_put h50 (((b ++ numB o.kind) ++ atB o.tm) ++ atB o.node) o.par w71 (H73.rowSl 0 rfl (fun _ => rfl)) (by have h1 := numB_len o.kind; have h2 := atB_len o.tm; have h3 := atB_len o.node; have h4 := atB_len o.par; have h5 := numB_len (o.over.length : Int); have h6 := good_lens hG; simp only [List.length_append, idList_len]; omega)).ret ?_))
   rintro _ w75 ⟨h74, rfl, hx76, ho77⟩
   have H78 := H73.addRow hx76 ho77
   refine ⟨GrF.ofExt hx76, ?_⟩
   refine Lx_c rfl rfl (fun w79 hw80 => ?_)
   have H81 := H78.ext hw80
   refine (R_callL (vs := [(slV h74 ((((b ++ numB o.kind) ++ atB o.tm) ++ atB o.node) ++ atB o.par)), (.string o.name)]) cF20 rfl rfl ((enc_Text h74 ((((b ++ numB o.kind) ++ atB o.tm) ++ atB o.node) ++ atB o.par) o.name w79 (H81.rowSl 0 rfl (fun _ => rfl)) (by have h6 := good_name hG hK; have h1 := numB_len o.kind; have h2 := atB_len o.tm; have h3 := atB_len o.node; have h4 := atB_len o.par; simp only [List.length_append]; omega)).ret ?_))
   rintro _ w83 ⟨h82, rfl, hx84, ho85⟩
   have H86 := H81.addRow hx84 ho85
   refine ⟨GrF.ofExt hx84, ?_⟩
   refine Lx_q rfl rfl _ (fun v87 hv88 => R_assign (v := (slV h82 (((((b ++ numB o.kind) ++ atB o.tm) ++ atB o.node) ++ atB o.par) ++ textB o.name))) rfl qk) ?_
   refine Lx_nil (fun w89 hw90 => ?_)
   have H91 := H86.ext hw90
   refine Then_n (W_ret (Then_r ?_))
   refine ret_1 (v := (slV h82 (((((b ++ numB o.kind) ++ atB o.tm) ++ atB o.node) ++ atB o.par) ++ textB o.name))) Try.results19 rfl ?_
   have hE : ((((b ++ numB o.kind) ++ atB o.tm) ++ atB o.node) ++ atB o.par) ++ textB o.name = b ++ putOpB o := (putOp_move hG hK)
   refine ⟨h82, ?_, H91.gr, ?_⟩
   · exact congrArg (fun l => slV h82 l) hE
   · have hO := H91.retRow 0 rfl
     exact hE ▸ hO
  ·have hc60 := (of_decide_eq_false hc60)
   have hK := hc60
   refine W_skip (Then_n (W_seq ?_))
   refine W_rgd TryMixed [(0, .q 0), (1, .q 0), (2, .q 0), (4, .q 0), (5, .q 0), (6, .q 0), (3, .c 0), (7, .c 0), (8, .q 0)] (by kernel_rfl) ?_
   refine Lx_mv (v := (slV h50 (((b ++ numB o.kind) ++ atB o.tm) ++ atB o.node))) rfl rfl rfl (Lx_q rfl rfl _ (fun v94 hv95 => R_fieldAddr (off := 8) (oo := 8) Try.underlying56 rfl rfl Try.sizeOf25 rfl rfl qk) (Lx_q rfl rfl _ (fun v96 hv97 => R_loadA (cs := [(idCells o.data)]) Try.isAgg25 Try.sizeOf25 rfl rfl ((H59.ext hv97).bx 3 rfl 8 1 8 8 _ rfl rfl rfl) qk) (Lx_q rfl rfl _ (fun v98 hv99 => R_fieldAddr (off := 40) (oo := 40) Try.underlying56 rfl rfl Try.sizeOf54 rfl rfl qk) ?_)))
   refine Lx_q rfl rfl _ (fun v100 hv101 => R_load1 (v := (slV o.oh o.over)) Try.isAgg54 rfl ((H59.ext hv101).bx 3 rfl 9 1 40 40 _ rfl rfl rfl) qk) (Lx_q rfl rfl _ (fun v102 hv103 => R_len_slice (a := o.oh.a) (n := o.over.length) (c := o.oh.c) Try.underlying54 rfl qk) ?_)
   refine Lx_c rfl rfl (fun w104 hw105 => ?_)
   have H106 := H59.ext hw105
   refine (R_callL (vs := [(slV h50 (((b ++ numB o.kind) ++ atB o.tm) ++ atB o.node)), (aggOf (idCh o.data))]) cF18 rfl rfl ((enc_Id h50 (((b ++ numB o.kind) ++ atB o.tm) ++ atB o.node) o.data w104 (H106.rowSl 0 rfl (fun _ => rfl)) (by have h1 := numB_len o.kind; have h2 := atB_len o.tm; have h3 := atB_len o.node; have h4 := atB_len o.par; have h5 := numB_len (o.over.length : Int); have h6 := good_lens hG; simp only [List.length_append, idList_len]; omega)).ret ?_))
   rintro _ w108 ⟨h107, rfl, hx109, ho110⟩
   have H111 := H106.addRow hx109 ho110
   refine ⟨GrF.ofExt hx109, ?_⟩
   refine Lx_c rfl rfl (fun w112 hw113 => ?_)
   have H114 := H111.ext hw113
   refine (R_callL (vs := [(slV h107 ((((b ++ numB o.kind) ++ atB o.tm) ++ atB o.node) ++ idList o.data)), (.int .i64 (o.over.length : Int))]) cF17 rfl rfl ((enc_Num h107 ((((b ++ numB o.kind) ++ atB o.tm) ++ atB o.node) ++ idList o.data) (o.over.length : Int) w112 (H114.rowSl 0 rfl (fun _ => rfl)) (by have h1 := numB_len o.kind; have h2 := atB_len o.tm; have h3 := atB_len o.node; have h4 := atB_len o.par; have h5 := numB_len (o.over.length : Int); have h6 := good_lens hG; simp only [List.length_append, idList_len]; omega)).ret ?_))
   rintro _ w116 ⟨h115, rfl, hx117, ho118⟩
   have H119 := H114.addRow hx117 ho118
   refine ⟨GrF.ofExt hx117, ?_⟩
   refine Lx_q rfl rfl _ (fun v120 hv121 => R_assign (v := (slV h115 (((((b ++ numB o.kind) ++ atB o.tm) ++ atB o.node) ++ idList o.data) ++ numB (o.over.length : Int)))) rfl qk) ?_
   refine Lx_nil (fun w122 hw123 => ?_)
   have H124 := H119.ext hw123
   refine Then_n (W_seq (W_seq (W_reg ?_)))
   refine O_v rfl (R_fieldAddr (off := 40) (oo := 40) Try.underlying56 rfl rfl Try.sizeOf54 rfl rfl ?_)
   refine O_v rfl (R_load1 (v := (slV o.oh o.over)) Try.isAgg54 rfl (H124.bx 5 rfl 9 1 40 40 _ rfl rfl rfl) ?_)
   refine O_v rfl (R_len_slice (a := o.oh.a) (n := o.over.length) (c := o.oh.c) Try.underlying54 rfl ?_)
   refine O_mv (v := (.int .i64 0)) rfl rfl ?_
   refine O_nil (Then_n (W_block ?_))
   refine W_loop (fun m126 e127 w128 => ∃ (k : Nat), ∃ (acc : List UInt8), ∃ (h125 : SlH), m126 = o.over.length - k ∧ (k ≤ o.over.length) ∧ (acc = overTo b o k) ∧ (acc.length ≤ b.length + 200 + 18 * k) ∧ ∃ eb129, e127 = envL [(0, (slV h125 acc)), (4, (.slice none 0 0)), (41, (slV o.oh o.over)), (42, (.int .i64 (o.over.length : Int))), (43, (.int .i64 (k : Int)))] eb129 ∧ Ctx w nob w128 [rowR 5 1 encB h125 acc, rowR 5 1 encB h107 ((((b ++ numB o.kind) ++ atB o.tm) ++ atB o.node) ++ idList o.data), rowR 5 1 encB h50 (((b ++ numB o.kind) ++ atB o.tm) ++ atB o.node), rowR 5 1 encB h42 ((b ++ numB o.kind) ++ atB o.tm), rowR 5 1 encB h34 (b ++ numB o.kind), boxR b3 56 [[(.int .i64 o.kind)], [(.int .i64 o.tm.T)], [(.int .i64 o.tm.R)], [(.int .i64 o.node.T)], [(.int .i64 o.node.R)], [(.int .i64 o.par.T)], [(.int .i64 o.par.R)], [(.string o.name)], (idCells o.data), [(slV o.oh o.over)]]] [slI (Old w) stampCh 2 o.oh o.over, slI (Old w) encB 1 hb b]) _ ⟨0, (((((b ++ numB o.kind) ++ atB o.tm) ++ atB o.node) ++ idList o.data) ++ numB (o.over.length : Int)), h115, rfl, (by omega), (overTo_zero b o), (by have h1 := numB_len o.kind; have h2 := atB_len o.tm; have h3 := atB_len o.node; have h4 := atB_len o.par; have h5 := numB_len (o.over.length : Int); have h6 := good_lens hG; simp only [List.length_append, idList_len]; omega), _, envL_self ⟨rfl, rfl, rfl, rfl, rfl, trivial⟩, H124⟩ ?_
   rintro m126 _ w128 ⟨k, acc, h125, rfl, hk, ha, hal, eb129, rfl, H130⟩
   refine W_seq (W_reg ?_)
   refine O_v rfl (R_cmp (a := (k : Int)) (b := (o.over.length : Int)) (r := (decide ((k : Int) < (o.over.length : Int)))) rfl rfl rfl ?_)
   refine O_nil (Then_n (W_seq ?_))
   refine W_cond rfl (fun hc131 => ?_) (fun hc131 => ?_)
   ·have hc131 := (of_decide_eq_true hc131)
    refine W_skip (Then_n (W_seq (W_block (W_seq (W_reg ?_)))))
    refine O_v rfl (R_index_pure (H130.sl 0 rfl) (n := o.over.length) rfl (j := (k : Int)) (oo := (o.oh.o + k * 2)) Try.underlying54 Try.sizeOf46 rfl rfl (by omega) (by omega) rfl ?_)
    refine O_v rfl (R_loadA (cs := [[(.int .i64 ((nth o.over k).T))], [(.int .i64 ((nth o.over k).R))]]) Try.isAgg46 Try.sizeOf46 rfl rfl ((Sl.elem (H130.sl 0 rfl) (i := k) (by omega) rfl).chunks 0 2 0 (o.oh.o + k * 2) _ rfl rfl rfl) ?_)
    refine O_v rfl (C_alloc H130 [[(.int .i64 0)], [(.int .i64 0)]] Try.zeroValue46 ?_)
    intro b132 w133 hb134 hx135 H136
    refine O_u (C_storeW H136 0 rfl (sub := [[(.int .i64 ((nth o.over k).T))], [(.int .i64 ((nth o.over k).R))]]) Try.sizeOf46 rfl rfl rfl rfl rfl ?_)
    intro w137 hg138 H139
    refine O_nil (Then_n (W_reg ?_))
    refine O_mv (v := (slV h125 acc)) rfl rfl ?_
    refine O_v rfl (R_loadA (cs := [[(.int .i64 ((nth o.over k).T))], [(.int .i64 ((nth o.over k).R))]]) Try.isAgg46 Try.sizeOf46 rfl rfl (H139.bx 0 rfl 0 2 0 0 _ rfl rfl rfl) ?_)
    refine O_v rfl (R_callL (vs := [(slV h125 acc), (aggOf (stampCh (nth o.over k)))]) cF48 rfl rfl ((stamp_put h125 acc (nth o.over k) w137 (H139.rowSl 1 rfl (fun _ => rfl)) (by have := good_lens hG; omega)).ret ?_))
    rintro _ w141 ⟨h140, rfl, hx142, ho143⟩
    have H144 := H139.addRow hx142 ho143
    refine O_as (v := (slV h140 (acc ++ atB (nth o.over k)))) rfl rfl ?_
    refine O_nil (Blk_n (Then_n (W_reg ?_)))
    refine O_v rfl (R_arith (a := (k : Int)) (b := 1) (r0 := (k : Int) + 1) (r := ((k + 1 : Nat) : Int)) rfl rfl rfl (wrapN _ (by omega)) ?_)
    refine O_mv (v := (.int .i64 ((k + 1 : Nat) : Int))) rfl rfl ?_
    refine O_nil (Then_n ?_)
    have H145 := H144.sub (List.Sublist.cons_cons _ (List.Sublist.cons _ (List.Sublist.cons _ (List.Sublist.cons_cons _ (List.Sublist.cons_cons _ (List.Sublist.cons_cons _ (List.Sublist.cons_cons _ (List.Sublist.cons_cons _ List.Sublist.slnil)))))))) (List.forall_mem_cons.2 ⟨List.mem_of_getElem? (i := 0) rfl, List.forall_mem_cons.2 ⟨List.mem_of_getElem? (i := 1) rfl, memN⟩⟩)
    refine ⟨_, ?_, (k + 1), (acc ++ atB (nth o.over k)), h140, rfl, (by omega), (overTo_succ ha (by omega)), (by have := atB_len (nth o.over k); simp only [List.length_append]; omega), _, envL_self ⟨rfl, rfl, rfl, rfl, rfl, trivial⟩, H145⟩
    omega
   ·have hc131 := (of_decide_eq_false hc131)
    refine W_exit (Then_x (Then_x (Blk_x (Then_n (W_seq (W_reg ?_))))))
    refine O_mv (v := (slV h125 acc)) rfl rfl (O_as (v := (slV h125 acc)) rfl rfl ?_)
    refine O_nil (Then_n (W_ret ?_))
    refine ret_1 (v := (slV h125 acc)) Try.results19 rfl ?_
    have hE : acc = b ++ putOpB o := (putOp_edit hG hK ha (by omega))
    refine ⟨h125, ?_, H130.gr, ?_⟩
    · exact congrArg (fun l => slV h125 l) hE
    · have hO := H130.retRow 0 rfl
      exact hE ▸ hO
theorem cF19 : callable Try.prog 19 = true := by kernel_rfl
set_option maxHeartbeats 2000000 in
theorem obj_PutChange (c : ChangeS) (w : World) (Sc_parents : Sl (Old w) idCh 32 c.ph c.parents w) (Sc_ops : Sl (Old w) opCh 41 c.oh c.ops w) (Dc_over : ∀ x ∈ c.ops, Sl (Old w) stampCh 2 x.oh x.over w) :
    Calls Try.prog 6 #[(aggOf (changeCh c))] w (Ret fun v w' => ∃ h0, v = .tuple #[slV h0 (putChangeB c), (.int .i64 (putChangeE c))] ∧ Ext w w' ∧ OwnS w.heap.size 5 1 encB h0 (putChangeB c) w') := by
 refine calls_W Try.func6 rfl Try.ntmps6 rfl ?_
 have H0 := Ctx.start w nob
 have H1 := H0.addSl _ Sc_parents (fun b hb => ⟨hb, fun _ ho => (nomatch ho)⟩)
 have LSc_parents := Sc_parents.len
 have H2 := H1.addSl _ Sc_ops (fun b hb => ⟨hb, fun _ ho => (nomatch ho)⟩)
 have LSc_ops := Sc_ops.len
 have H3 := H2.addImm' (deepI (Old w) stampCh 2 (fun x : OpS => x.oh) (fun x : OpS => x.over) c.ops) Dc_over (fun b hb => ⟨hb, fun _ ho => (nomatch ho)⟩)
 refine W_seq (W_reg ?_)
 refine O_v rfl (C_box H3 [[(slV c.ph c.parents)], [(.int .i64 c.time)], [(.int .i64 c.r)], [(slV c.oh c.ops)], (idCells c.tree), [(.string c.msg)]] rfl ?_)
 intro b4 w5 hb6 hx7 H8
 refine O_as (v := (.slice none 0 0)) rfl rfl (O_as (v := (.int .i64 0)) rfl rfl ?_)
 refine O_nil (Then_n (W_seq (W_seq (W_reg ?_))))
 refine O_v rfl (R_loadA (cs := [[(slV c.ph c.parents)], [(.int .i64 c.time)], [(.int .i64 c.r)], [(slV c.oh c.ops)], (idCells c.tree), [(.string c.msg)]]) Try.isAgg27 Try.sizeOf27 rfl rfl (H8.bx 0 rfl 0 6 0 0 _ rfl rfl rfl) ?_)
 refine O_v rfl (R_callL (vs := [(aggOf (changeCh c))]) cF16 rfl rfl ((obj_rightChange c w5 (H8.slOld 2 rfl) (H8.slOld 1 rfl) (H8.deepOld 0 rfl)).ret ?_))
 rintro _ w9 ⟨rfl, hx10⟩
 have H11 := H8.ext hx10
 refine O_v rfl (R_not rfl ?_)
 refine O_nil (Then_n ?_)
 refine W_cond rfl (fun hc12 => ?_) (fun hc12 => ?_)
 ·have hc12 : (changeOk c) = false := (notT hc12)
  refine W_seq (W_reg ?_)
  refine O_as (v := (.slice none 0 0)) rfl rfl (O_as (v := (.int .i64 1)) rfl rfl ?_)
  refine O_nil (Then_n (W_ret (Then_r ?_)))
  refine ret_2 (v := (.slice none 0 0)) (v' := (.int .i64 1)) Try.results6 rfl rfl ?_
  have H13 := H11.addNil 5 1 encB
  have hE : [] = putChangeB c := (putChange_f (by assumption)).1
  have hV : 1 = putChangeE c := (putChange_f (by assumption)).2
  refine ⟨nilH, ?_, H13.gr, ?_⟩
  · exact two_eq (fun l n => Value.tuple #[slV nilH l, Value.int .i64 n]) hE hV
  · have hO := H13.retRow 0 rfl
    exact hE ▸ hO
 ·have hc12 : (changeOk c) = true := (notF hc12)
  refine W_skip (Then_n (W_seq (W_reg ?_)))
  refine O_v rfl (C_buildSliceL H11 (enc := encB) (val := byteV) ([3] : List UInt8) Try.underlying31 Try.sizeOf5 Try.zeroValue5 rfl (by decide) (fun _ => rfl) (fun _ => rfl) rfl rfl (by decide) ?_)
  intro b14 w15 hb16 hx17 H18
  refine O_v rfl (R_fieldAddr (off := 0) (oo := 0) Try.underlying27 rfl rfl Try.sizeOf22 rfl rfl ?_)
  refine O_v rfl (R_load1 (v := (slV c.ph c.parents)) Try.isAgg22 rfl (H18.bx 1 rfl 0 1 0 0 _ rfl rfl rfl) ?_)
  refine O_v rfl (R_len_slice (a := c.ph.a) (n := c.parents.length) (c := c.ph.c) Try.underlying22 rfl ?_)
  refine O_v rfl (R_callL (vs := [(slV ⟨some ⟨b14, 0, none⟩, b14, 0, 1⟩ ([3] : List UInt8)), (.int .i64 (c.parents.length : Int))]) cF17 rfl rfl ((enc_Num ⟨some ⟨b14, 0, none⟩, b14, 0, 1⟩ ([3] : List UInt8) (c.parents.length : Int) w15 (H18.rowSl 0 rfl (fun _ => rfl)) (by simp only [List.length_cons, List.length_nil]; omega)).ret ?_))
  rintro _ w20 ⟨h19, rfl, hx21, ho22⟩
  have H23 := H18.addRow hx21 ho22
  refine O_as (v := (slV h19 (([3] : List UInt8) ++ numB (c.parents.length : Int)))) rfl rfl ?_
  refine O_nil (Then_n (W_seq (W_seq (W_reg ?_))))
  refine O_v rfl (R_fieldAddr (off := 0) (oo := 0) Try.underlying27 rfl rfl Try.sizeOf22 rfl rfl ?_)
  refine O_v rfl (R_load1 (v := (slV c.ph c.parents)) Try.isAgg22 rfl (H23.bx 2 rfl 0 1 0 0 _ rfl rfl rfl) ?_)
  refine O_v rfl (R_len_slice (a := c.ph.a) (n := c.parents.length) (c := c.ph.c) Try.underlying22 rfl ?_)
  refine O_mv (v := (.int .i64 0)) rfl rfl ?_
  refine O_nil (Then_n (W_block ?_))
  refine W_loop (fun m25 e26 w27 => ∃ (k : Nat), ∃ (acc : List UInt8), ∃ (h24 : SlH), m25 = c.parents.length - k ∧ (k ≤ c.parents.length) ∧ (acc = parTo c k) ∧ (acc.length ≤ 10 + 32 * k) ∧ (changeOk c = true) ∧ ∃ eb28, e26 = envL [(1, (.pointer (some ⟨b4, 0, none⟩))), (2, (.slice none 0 0)), (3, (.int .i64 0)), (4, (slV h24 acc)), (18, (slV c.ph c.parents)), (19, (.int .i64 (c.parents.length : Int))), (20, (.int .i64 (k : Int)))] eb28 ∧ Ctx w nob w27 [rowR 5 1 encB h24 acc, rowR 5 1 encB ⟨some ⟨b14, 0, none⟩, b14, 0, 1⟩ ([3] : List UInt8), boxR b4 27 [[(slV c.ph c.parents)], [(.int .i64 c.time)], [(.int .i64 c.r)], [(slV c.oh c.ops)], (idCells c.tree), [(.string c.msg)]]] [deepI (Old w) stampCh 2 (fun x : OpS => x.oh) (fun x : OpS => x.over) c.ops, slI (Old w) opCh 41 c.oh c.ops, slI (Old w) idCh 32 c.ph c.parents]) _ ⟨0, (([3] : List UInt8) ++ numB (c.parents.length : Int)), h19, rfl, (by omega), (parTo_zero c), (by have h1 := numB_len (c.parents.length : Int); simp only [List.length_append, List.length_cons, List.length_nil]; omega), (by assumption), _, envL_self ⟨rfl, rfl, rfl, rfl, rfl, rfl, rfl, trivial⟩, H23⟩ ?_
  rintro m25 _ w27 ⟨k, acc, h24, rfl, hk, ha, hal, hC, eb28, rfl, H29⟩
  refine W_seq (W_reg ?_)
  refine O_v rfl (R_cmp (a := (k : Int)) (b := (c.parents.length : Int)) (r := (decide ((k : Int) < (c.parents.length : Int)))) rfl rfl rfl ?_)
  refine O_nil (Then_n (W_seq ?_))
  refine W_cond rfl (fun hc30 => ?_) (fun hc30 => ?_)
  ·have hc30 := (of_decide_eq_true hc30)
   refine W_skip (Then_n (W_seq (W_block (W_seq (W_reg ?_)))))
   refine O_v rfl (R_index_pure (H29.sl 2 rfl) (n := c.parents.length) rfl (j := (k : Int)) (oo := (c.ph.o + k * 32)) Try.underlying22 Try.sizeOf25 rfl rfl (by omega) (by omega) rfl ?_)
   refine O_v rfl (R_loadA (cs := [(idCells (nth c.parents k))]) Try.isAgg25 Try.sizeOf25 rfl rfl ((Sl.elem (H29.sl 2 rfl) (i := k) (by omega) rfl).chunks 0 1 0 (c.ph.o + k * 32) _ rfl rfl rfl) ?_)
   refine O_v rfl (C_alloc H29 [(idCells zeroId)] Try.zeroValue25 ?_)
   intro b31 w32 hb33 hx34 H35
   refine O_u (C_storeW H35 0 rfl (sub := [(idCells (nth c.parents k))]) Try.sizeOf25 rfl rfl rfl rfl rfl ?_)
   intro w36 hg37 H38
   refine O_nil (Then_n (W_reg ?_))
   refine O_mv (v := (slV h24 acc)) rfl rfl ?_
   refine O_v rfl (R_loadA (cs := [(idCells (nth c.parents k))]) Try.isAgg25 Try.sizeOf25 rfl rfl (H38.bx 0 rfl 0 1 0 0 _ rfl rfl rfl) ?_)
   refine O_v rfl (R_callL (vs := [(slV h24 acc), (aggOf (idCh (nth c.parents k)))]) cF18 rfl rfl ((enc_Id h24 acc (nth c.parents k) w36 (H38.rowSl 1 rfl (fun _ => rfl)) (by have := change_lens hC; omega)).ret ?_))
   rintro _ w40 ⟨h39, rfl, hx41, ho42⟩
   have H43 := H38.addRow hx41 ho42
   refine O_as (v := (slV h39 (acc ++ idList (nth c.parents k)))) rfl rfl ?_
   refine O_nil (Blk_n (Then_n (W_reg ?_)))
   refine O_v rfl (R_arith (a := (k : Int)) (b := 1) (r0 := (k : Int) + 1) (r := ((k + 1 : Nat) : Int)) rfl rfl rfl (wrapN _ (by omega)) ?_)
   refine O_mv (v := (.int .i64 ((k + 1 : Nat) : Int))) rfl rfl ?_
   refine O_nil (Then_n ?_)
   have H44 := H43.sub (List.Sublist.cons_cons _ (List.Sublist.cons _ (List.Sublist.cons _ (List.Sublist.cons_cons _ (List.Sublist.cons_cons _ List.Sublist.slnil))))) (List.forall_mem_cons.2 ⟨List.mem_of_getElem? (i := 0) rfl, List.forall_mem_cons.2 ⟨List.mem_of_getElem? (i := 1) rfl, List.forall_mem_cons.2 ⟨List.mem_of_getElem? (i := 2) rfl, memN⟩⟩⟩)
   refine ⟨_, ?_, (k + 1), (acc ++ idList (nth c.parents k)), h39, rfl, (by omega), (parTo_succ ha (by omega)), (by simp only [List.length_append, idList_len]; omega), hC, _, envL_self ⟨rfl, rfl, rfl, rfl, rfl, rfl, rfl, trivial⟩, H44⟩
   omega
  ·have hc30 := (of_decide_eq_false hc30)
   refine W_exit (Then_x (Then_x (Blk_x (Then_n (W_seq ?_)))))
   refine W_rgd TryMixed [(0, .q 0), (1, .q 0), (2, .q 0), (4, .q 0), (5, .q 0), (7, .q 0), (8, .q 0), (9, .q 0), (3, .c 0), (6, .c 0), (10, .c 0), (11, .q 0)] (by kernel_rfl) ?_
   refine Lx_mv (v := (slV h24 acc)) rfl rfl rfl (Lx_q rfl rfl _ (fun v47 hv48 => R_fieldAddr (off := 1) (oo := 1) Try.underlying27 rfl rfl Try.sizeOf2 rfl rfl qk) (Lx_q rfl rfl _ (fun v49 hv50 => R_load1 (v := (.int .i64 c.time)) Try.isAgg2 rfl ((H29.ext hv50).bx 2 rfl 1 1 1 1 _ rfl rfl rfl) qk) (Lx_q rfl rfl _ (fun v51 hv52 => R_fieldAddr (off := 2) (oo := 2) Try.underlying27 rfl rfl Try.sizeOf3 rfl rfl qk) ?_)))
   refine Lx_q rfl rfl _ (fun v53 hv54 => R_load1 (v := (.int .i64 c.r)) Try.isAgg3 rfl ((H29.ext hv54).bx 2 rfl 2 1 2 2 _ rfl rfl rfl) qk) (Lx_q rfl rfl _ (fun v55 hv56 => R_fieldAddr (off := 3) (oo := 3) Try.underlying27 rfl rfl Try.sizeOf23 rfl rfl qk) (Lx_q rfl rfl _ (fun v57 hv58 => R_load1 (v := (slV c.oh c.ops)) Try.isAgg23 rfl ((H29.ext hv58).bx 2 rfl 3 1 3 3 _ rfl rfl rfl) qk) (Lx_q rfl rfl _ (fun v59 hv60 => R_len_slice (a := c.oh.a) (n := c.ops.length) (c := c.oh.c) Try.underlying23 rfl qk) ?_)))
   refine Lx_c rfl rfl (fun w61 hw62 => ?_)
   have H63 := H29.ext hw62
   refine (R_callL (vs := [(slV h24 acc), (.int .i64 c.time)]) cF17 rfl rfl ((enc_Num h24 acc c.time w61 (H63.rowSl 0 rfl (fun _ => rfl)) (by have h1 := numB_len (c.parents.length : Int); have h2 := numB_len c.time; have h3 := numB_len c.r; have h4 := numB_len (c.ops.length : Int); have h5 := change_lens hC; (try simp only [List.length_append, List.length_cons, List.length_nil, idList_len]); omega)).ret ?_))
   rintro _ w65 ⟨h64, rfl, hx66, ho67⟩
   have H68 := H63.addRow hx66 ho67
   refine ⟨GrF.ofExt hx66, ?_⟩
   refine Lx_c rfl rfl (fun w69 hw70 => ?_)
   have H71 := H68.ext hw70
   refine (R_callL (vs := [(slV h64 (acc ++ numB c.time)), (.int .i64 c.r)]) cF17 rfl rfl ((enc_Num h64 (acc ++ numB c.time) c.r w69 (H71.rowSl 0 rfl (fun _ => rfl)) (by have h1 := numB_len (c.parents.length : Int); have h2 := numB_len c.time; have h3 := numB_len c.r; have h4 := numB_len (c.ops.length : Int); have h5 := change_lens hC; (try simp only [List.length_append, List.length_cons, List.length_nil, idList_len]); omega)).ret ?_))
   rintro _ w73 ⟨h72, rfl, hx74, ho75⟩
   have H76 := H71.addRow hx74 ho75
   refine ⟨GrF.ofExt hx74, ?_⟩
   refine Lx_c rfl rfl (fun w77 hw78 => ?_)
   have H79 := H76.ext hw78
   refine (R_callL (vs := [(slV h72 ((acc ++ numB c.time) ++ numB c.r)), (.int .i64 (c.ops.length : Int))]) cF17 rfl rfl ((enc_Num h72 ((acc ++ numB c.time) ++ numB c.r) (c.ops.length : Int) w77 (H79.rowSl 0 rfl (fun _ => rfl)) (by have h1 := numB_len (c.parents.length : Int); have h2 := numB_len c.time; have h3 := numB_len c.r; have h4 := numB_len (c.ops.length : Int); have h5 := change_lens hC; (try simp only [List.length_append, List.length_cons, List.length_nil, idList_len]); omega)).ret ?_))
   rintro _ w81 ⟨h80, rfl, hx82, ho83⟩
   have H84 := H79.addRow hx82 ho83
   refine ⟨GrF.ofExt hx82, ?_⟩
   refine Lx_q rfl rfl _ (fun v85 hv86 => R_assign (v := (slV h80 (((acc ++ numB c.time) ++ numB c.r) ++ numB (c.ops.length : Int)))) rfl qk) ?_
   refine Lx_nil (fun w87 hw88 => ?_)
   have H89 := H84.ext hw88
   refine Then_n (W_seq (W_seq (W_reg ?_)))
   refine O_v rfl (R_fieldAddr (off := 3) (oo := 3) Try.underlying27 rfl rfl Try.sizeOf23 rfl rfl ?_)
   refine O_v rfl (R_load1 (v := (slV c.oh c.ops)) Try.isAgg23 rfl (H89.bx 5 rfl 3 1 3 3 _ rfl rfl rfl) ?_)
   refine O_v rfl (R_len_slice (a := c.oh.a) (n := c.ops.length) (c := c.oh.c) Try.underlying23 rfl ?_)
   refine O_mv (v := (.int .i64 0)) rfl rfl ?_
   refine O_nil (Then_n (W_block ?_))
   refine W_loop (fun m91 e92 w93 => ∃ (j : Nat), ∃ (acc2 : List UInt8), ∃ (h90 : SlH), m91 = c.ops.length - j ∧ (j ≤ c.ops.length) ∧ (acc2 = opsTo c j) ∧ (acc2.length ≤ 200 + 1400 * j) ∧ ∃ eb94, e92 = envL [(1, (.pointer (some ⟨b4, 0, none⟩))), (2, (.slice none 0 0)), (3, (.int .i64 0)), (4, (slV h90 acc2)), (40, (slV c.oh c.ops)), (41, (.int .i64 (c.ops.length : Int))), (42, (.int .i64 (j : Int)))] eb94 ∧ Ctx w nob w93 [rowR 5 1 encB h90 acc2, rowR 5 1 encB h72 ((acc ++ numB c.time) ++ numB c.r), rowR 5 1 encB h64 (acc ++ numB c.time), rowR 5 1 encB h24 acc, rowR 5 1 encB ⟨some ⟨b14, 0, none⟩, b14, 0, 1⟩ ([3] : List UInt8), boxR b4 27 [[(slV c.ph c.parents)], [(.int .i64 c.time)], [(.int .i64 c.r)], [(slV c.oh c.ops)], (idCells c.tree), [(.string c.msg)]]] [deepI (Old w) stampCh 2 (fun x : OpS => x.oh) (fun x : OpS => x.over) c.ops, slI (Old w) opCh 41 c.oh c.ops, slI (Old w) idCh 32 c.ph c.parents]) _ ⟨0, (((acc ++ numB c.time) ++ numB c.r) ++ numB (c.ops.length : Int)), h80, rfl, (by omega), (opsTo_zero ha (by omega)), (by have h1 := numB_len (c.parents.length : Int); have h2 := numB_len c.time; have h3 := numB_len c.r; have h4 := numB_len (c.ops.length : Int); have h5 := change_lens hC; (try simp only [List.length_append, List.length_cons, List.length_nil, idList_len]); omega), _, envL_self ⟨rfl, rfl, rfl, rfl, rfl, rfl, rfl, trivial⟩, H89⟩ ?_
   rintro m91 _ w93 ⟨j, acc2, h90, rfl, hj, ha2, hal2, eb94, rfl, H95⟩
   refine W_seq (W_reg ?_)
   refine O_v rfl (R_cmp (a := (j : Int)) (b := (c.ops.length : Int)) (r := (decide ((j : Int) < (c.ops.length : Int)))) rfl rfl rfl ?_)
   refine O_nil (Then_n (W_seq ?_))
   refine W_cond rfl (fun hc96 => ?_) (fun hc96 => ?_)
   ·have hc96 := (of_decide_eq_true hc96)
    refine W_skip (Then_n (W_seq (W_block (W_seq (W_reg ?_)))))
    refine O_v rfl (R_index_pure (H95.sl 1 rfl) (n := c.ops.length) rfl (j := (j : Int)) (oo := (c.oh.o + j * 41)) Try.underlying23 Try.sizeOf56 rfl rfl (by omega) (by omega) rfl ?_)
    refine O_v rfl (R_loadA (cs := [[(.int .i64 ((nth c.ops j).kind))], [(.int .i64 (((nth c.ops j).tm).T))], [(.int .i64 (((nth c.ops j).tm).R))], [(.int .i64 (((nth c.ops j).node).T))], [(.int .i64 (((nth c.ops j).node).R))], [(.int .i64 (((nth c.ops j).par).T))], [(.int .i64 (((nth c.ops j).par).R))], [(.string ((nth c.ops j).name))], (idCells ((nth c.ops j).data)), [(slV ((nth c.ops j).oh) ((nth c.ops j).over))]]) Try.isAgg56 Try.sizeOf56 rfl rfl ((Sl.elem (H95.sl 1 rfl) (i := j) (by omega) rfl).chunks 0 10 0 (c.oh.o + j * 41) _ rfl rfl rfl) ?_)
    refine O_v rfl (C_alloc H95 [[(.int .i64 0)], [(.int .i64 0)], [(.int .i64 0)], [(.int .i64 0)], [(.int .i64 0)], [(.int .i64 0)], [(.int .i64 0)], [(.string ByteArray.empty)], (idCells zeroId), [(.slice none 0 0)]] Try.zeroValue56 ?_)
    intro b97 w98 hb99 hx100 H101
    refine O_u (C_storeW H101 0 rfl (sub := [[(.int .i64 ((nth c.ops j).kind))], [(.int .i64 (((nth c.ops j).tm).T))], [(.int .i64 (((nth c.ops j).tm).R))], [(.int .i64 (((nth c.ops j).node).T))], [(.int .i64 (((nth c.ops j).node).R))], [(.int .i64 (((nth c.ops j).par).T))], [(.int .i64 (((nth c.ops j).par).R))], [(.string ((nth c.ops j).name))], (idCells ((nth c.ops j).data)), [(slV ((nth c.ops j).oh) ((nth c.ops j).over))]]) Try.sizeOf56 rfl rfl rfl rfl rfl ?_)
    intro w102 hg103 H104
    refine O_nil (Then_n (W_reg ?_))
    refine O_mv (v := (slV h90 acc2)) rfl rfl ?_
    refine O_v rfl (R_loadA (cs := [[(.int .i64 ((nth c.ops j).kind))], [(.int .i64 (((nth c.ops j).tm).T))], [(.int .i64 (((nth c.ops j).tm).R))], [(.int .i64 (((nth c.ops j).node).T))], [(.int .i64 (((nth c.ops j).node).R))], [(.int .i64 (((nth c.ops j).par).T))], [(.int .i64 (((nth c.ops j).par).R))], [(.string ((nth c.ops j).name))], (idCells ((nth c.ops j).data)), [(slV ((nth c.ops j).oh) ((nth c.ops j).over))]]) Try.isAgg56 Try.sizeOf56 rfl rfl (H104.bx 0 rfl 0 10 0 0 _ rfl rfl rfl) ?_)
    refine O_v rfl (R_callL (vs := [(slV h90 acc2), (aggOf (opCh (nth c.ops j)))]) cF19 rfl rfl ((stamp_Put h90 acc2 (nth c.ops j) w102 (H104.rowSl 1 rfl (fun _ => rfl)) (H104.deepOld 0 rfl _ (nth_mem (by omega))) (by have := change_lens hC; omega)).ret ?_))
    rintro _ w106 ⟨h105, rfl, hx107, ho108⟩
    have H109 := H104.addRow hx107 ho108
    refine O_as (v := (slV h105 (acc2 ++ putOpB (nth c.ops j)))) rfl rfl ?_
    refine O_nil (Blk_n (Then_n (W_reg ?_)))
    refine O_v rfl (R_arith (a := (j : Int)) (b := 1) (r0 := (j : Int) + 1) (r := ((j + 1 : Nat) : Int)) rfl rfl rfl (wrapN _ (by omega)) ?_)
    refine O_mv (v := (.int .i64 ((j + 1 : Nat) : Int))) rfl rfl ?_
    refine O_nil (Then_n ?_)
    have H110 := H109.sub (List.Sublist.cons_cons _ (List.Sublist.cons _ (List.Sublist.cons _ (List.Sublist.cons_cons _ (List.Sublist.cons_cons _ (List.Sublist.cons_cons _ (List.Sublist.cons_cons _ (List.Sublist.cons_cons _ List.Sublist.slnil)))))))) (List.forall_mem_cons.2 ⟨List.mem_of_getElem? (i := 0) rfl, List.forall_mem_cons.2 ⟨List.mem_of_getElem? (i := 1) rfl, List.forall_mem_cons.2 ⟨List.mem_of_getElem? (i := 2) rfl, memN⟩⟩⟩)
    refine ⟨_, ?_, (j + 1), (acc2 ++ putOpB (nth c.ops j)), h105, rfl, (by omega), (opsTo_succ ha2 (by omega)), (by have := putOpB_len (nth c.ops j); simp only [List.length_append]; omega), _, envL_self ⟨rfl, rfl, rfl, rfl, rfl, rfl, rfl, trivial⟩, H110⟩
    omega
   ·have hc96 := (of_decide_eq_false hc96)
    refine W_exit (Then_x (Then_x (Blk_x (Then_n (W_seq ?_)))))
    refine W_rgd TryMixed [(0, .q 0), (1, .q 0), (2, .q 0), (4, .q 0), (5, .q 0), (3, .c 0), (6, .c 0), (7, .q 0), (8, .q 0)] (by kernel_rfl) ?_
    refine Lx_mv (v := (slV h90 acc2)) rfl rfl rfl (Lx_q rfl rfl _ (fun v113 hv114 => R_fieldAddr (off := 4) (oo := 4) Try.underlying27 rfl rfl Try.sizeOf25 rfl rfl qk) (Lx_q rfl rfl _ (fun v115 hv116 => R_loadA (cs := [(idCells c.tree)]) Try.isAgg25 Try.sizeOf25 rfl rfl ((H95.ext hv116).bx 5 rfl 4 1 4 4 _ rfl rfl rfl) qk) (Lx_q rfl rfl _ (fun v117 hv118 => R_fieldAddr (off := 36) (oo := 36) Try.underlying27 rfl rfl Try.sizeOf9 rfl rfl qk) ?_)))
    refine Lx_q rfl rfl _ (fun v119 hv120 => R_load1 (v := (.string c.msg)) Try.isAgg9 rfl ((H95.ext hv120).bx 5 rfl 5 1 36 36 _ rfl rfl rfl) qk) ?_
    refine Lx_c rfl rfl (fun w121 hw122 => ?_)
    have H123 := H95.ext hw122
    refine (R_callL (vs := [(slV h90 acc2), (aggOf (idCh c.tree))]) cF18 rfl rfl ((enc_Id h90 acc2 c.tree w121 (H123.rowSl 0 rfl (fun _ => rfl)) (by have := change_lens hC; omega)).ret ?_))
    rintro _ w125 ⟨h124, rfl, hx126, ho127⟩
    have H128 := H123.addRow hx126 ho127
    refine ⟨GrF.ofExt hx126, ?_⟩
    refine Lx_c rfl rfl (fun w129 hw130 => ?_)
    have H131 := H128.ext hw130
    refine (R_callL (vs := [(slV h124 (acc2 ++ idList c.tree)), (.string c.msg)]) cF20 rfl rfl ((enc_Text h124 (acc2 ++ idList c.tree) c.msg w129 (H131.rowSl 0 rfl (fun _ => rfl)) (by have := change_lens hC; simp only [List.length_append, idList_len]; omega)).ret ?_))
    rintro _ w133 ⟨h132, rfl, hx134, ho135⟩
    have H136 := H131.addRow hx134 ho135
    refine ⟨GrF.ofExt hx134, ?_⟩
    refine Lx_q rfl rfl _ (fun v137 hv138 => R_assign (v := (slV h132 ((acc2 ++ idList c.tree) ++ textB c.msg))) rfl qk) (Lx_q rfl rfl _ (fun v139 hv140 => R_assign (v := (.int .i64 0)) rfl qk) ?_)
    refine Lx_nil (fun w141 hw142 => ?_)
    have H143 := H136.ext hw142
    refine Then_n (W_ret ?_)
    refine ret_2 (v := (slV h132 ((acc2 ++ idList c.tree) ++ textB c.msg))) (v' := (.int .i64 0)) Try.results6 rfl rfl ?_
    have hE : (acc2 ++ idList c.tree) ++ textB c.msg = putChangeB c := (putChange_t hC ha2 (by omega)).1
    have hV : 0 = putChangeE c := (putChange_t hC ha2 (by omega)).2
    refine ⟨h132, ?_, H143.gr, ?_⟩
    · exact two_eq (fun l n => Value.tuple #[slV h132 l, Value.int .i64 n]) hE hV
    · have hO := H143.retRow 0 rfl
      exact hE ▸ hO
end Go.Proofs.Ythjdhfoeckfmbaa
namespace Go.Proofs.Ythjdhfoeckfmbaa
open Go
set_option maxRecDepth 100000
set_option linter.unusedVariables false
set_option linter.unusedSimpArgs false
set_option linter.unusedSectionVars false
variable [DD]
set_option maxHeartbeats 1000000 in
theorem obj_at (hb : SlH) (b : List UInt8) (s : Stamp) (w : World) (Sb : Sl (Old w) encB 1 hb b w) (hl : b.length ≤ 35184372088832) :
    Calls Try.prog 31 #[(slV hb b), (aggOf (stampCh s))] w (Ret fun v w' => ∃ h, v = slV h (b ++ atB s) ∧ Ext w w' ∧ OwnS w.heap.size 5 1 encB h (b ++ atB s) w') := by
 refine calls_W Try.func31 rfl Try.ntmps31 rfl ?_
 have H0 := Ctx.start w nob
 have H1 := H0.addSl _ Sb (fun b hb => ⟨hb, fun _ ho => (nomatch ho)⟩)
 have LSb := Sb.len
 refine W_seq (W_reg ?_)
 refine O_v rfl (C_box H1 [[(.int .i64 s.T)], [(.int .i64 s.R)]] rfl ?_)
 intro b2 w3 hb4 hx5 H6
 refine O_as (v := (.slice none 0 0)) rfl rfl ?_
 refine O_nil (Then_n (W_seq ?_))
 refine W_rgd TryMixed [(0, .q 0), (1, .q 0), (2, .q 0), (4, .q 0), (5, .q 0), (3, .c 0), (6, .c 0), (7, .q 0)] (by kernel_rfl) ?_
 refine Lx_mv (v := (slV hb b)) rfl rfl rfl (Lx_q rfl rfl _ (fun v9 hv10 => R_fieldAddr (off := 0) (oo := 0) Try.underlying46 rfl rfl Try.sizeOf2 rfl rfl qk) (Lx_q rfl rfl _ (fun v11 hv12 => R_load1 (v := (.int .i64 s.T)) Try.isAgg2 rfl ((H6.ext hv12).bx 0 rfl 0 1 0 0 _ rfl rfl rfl) qk) (Lx_q rfl rfl _ (fun v13 hv14 => R_fieldAddr (off := 1) (oo := 1) Try.underlying46 rfl rfl Try.sizeOf3 rfl rfl qk) ?_)))
 refine Lx_q rfl rfl _ (fun v15 hv16 => R_load1 (v := (.int .i64 s.R)) Try.isAgg3 rfl ((H6.ext hv16).bx 0 rfl 1 1 1 1 _ rfl rfl rfl) qk) ?_
 refine Lx_c rfl rfl (fun w17 hw18 => ?_)
 have H19 := H6.ext hw18
 refine (R_callL (vs := [(slV hb b), (.int .i64 s.T)]) cF17 rfl rfl ((enc_Num hb b s.T w17 (H19.slOld 0 rfl) (by omega)).ret ?_))
 rintro _ w21 ⟨h20, rfl, hx22, ho23⟩
 have H24 := H19.addRow hx22 ho23
 refine ⟨GrF.ofExt hx22, ?_⟩
 refine Lx_c rfl rfl (fun w25 hw26 => ?_)
 have H27 := H24.ext hw26
 refine (R_callL (vs := [(slV h20 (b ++ numB s.T)), (.int .i64 s.R)]) cF17 rfl rfl ((enc_Num h20 (b ++ numB s.T) s.R w25 (H27.rowSl 0 rfl (fun _ => rfl)) (by have := numB_len s.T; simp only [List.length_append]; omega)).ret ?_))
 rintro _ w29 ⟨h28, rfl, hx30, ho31⟩
 have H32 := H27.addRow hx30 ho31
 refine ⟨GrF.ofExt hx30, ?_⟩
 refine Lx_q rfl rfl _ (fun v33 hv34 => R_assign (v := (slV h28 ((b ++ numB s.T) ++ numB s.R))) rfl qk) ?_
 refine Lx_nil (fun w35 hw36 => ?_)
 have H37 := H32.ext hw36
 refine Then_n (W_ret ?_)
 refine ret_1 (v := (slV h28 ((b ++ numB s.T) ++ numB s.R))) Try.results31 rfl ?_
 have hE : (b ++ numB s.T) ++ numB s.R = b ++ atB s := (List.append_assoc _ _ _)
 refine ⟨h28, ?_, H37.gr, ?_⟩
 · exact congrArg (fun l => slV h28 l) hE
 · have hO := H37.retRow 0 rfl
   exact hE ▸ hO
end Go.Proofs.Ythjdhfoeckfmbaa
namespace Go.Proofs.Ythjdhfoeckfmbaa
open Go
set_option maxRecDepth 100000
set_option linter.unusedVariables false
set_option linter.unusedSimpArgs false
set_option linter.unusedSectionVars false
theorem cF31 : callable Try.prog 31 = true := by kernel_rfl
set_option maxHeartbeats 2000000 in
theorem obj_PutDir (hitems : SlH) (items : List ItemS) (w : World) (Sitems : Sl (Old w) itemCh 38 hitems items w) (Ditems_heads : ∀ x ∈ items, Sl (Old w) headCh 34 x.hh x.heads w) :
    Calls Try.prog 12 #[(slV hitems items)] w (Ret fun v w' => ∃ h0, v = .tuple #[slV h0 (putDirB items), (.int .i64 (putDirE items))] ∧ Ext w w' ∧ OwnS w.heap.size 5 1 encB h0 (putDirB items) w') := by
 refine calls_W Try.func12 rfl Try.ntmps12 rfl ?_
 have H0 := Ctx.start w nob
 have H1 := H0.addSl _ Sitems (fun b hb => ⟨hb, fun _ ho => (nomatch ho)⟩)
 have LSitems := Sitems.len
 have H2 := H1.addImm' (deepI (Old w) headCh 34 (fun x : ItemS => x.hh) (fun x : ItemS => x.heads) items) Ditems_heads (fun b hb => ⟨hb, fun _ ho => (nomatch ho)⟩)
 refine W_seq (W_reg ?_)
 refine O_as (v := (.slice none 0 0)) rfl rfl (O_as (v := (.int .i64 0)) rfl rfl ?_)
 refine O_nil (Then_n (W_seq (W_seq (W_reg ?_))))
 refine O_mv (v := (slV hitems items)) rfl rfl ?_
 refine O_v rfl (R_callL (vs := [(slV hitems items)]) cF29 rfl rfl ((obj_rightDir hitems items w (H2.slOld 1 rfl) (H2.deepOld 0 rfl)).ret ?_))
 rintro _ w3 ⟨rfl, hx4⟩
 have H5 := H2.ext hx4
 refine O_v rfl (R_not rfl ?_)
 refine O_nil (Then_n ?_)
 refine W_cond rfl (fun hc6 => ?_) (fun hc6 => ?_)
 ·have hc6 : (dirOk items) = false := (notT hc6)
  refine W_seq (W_reg ?_)
  refine O_as (v := (.slice none 0 0)) rfl rfl (O_as (v := (.int .i64 1)) rfl rfl ?_)
  refine O_nil (Then_n (W_ret (Then_r ?_)))
  refine ret_2 (v := (.slice none 0 0)) (v' := (.int .i64 1)) Try.results12 rfl rfl ?_
  have H7 := H5.addNil 5 1 encB
  have hE : [] = putDirB items := (putDir_no (by assumption)).1
  have hV : 1 = putDirE items := (putDir_no (by assumption)).2
  refine ⟨nilH, ?_, H7.gr, ?_⟩
  · exact two_eq (fun l n => Value.tuple #[slV nilH l, Value.int .i64 n]) hE hV
  · have hO := H7.retRow 0 rfl
    exact hE ▸ hO
 ·have hc6 : (dirOk items) = true := (notF hc6)
  refine W_skip (Then_n (W_seq (W_reg ?_)))
  refine O_v rfl (C_buildSliceL H5 (enc := encB) (val := byteV) ([2] : List UInt8) Try.underlying31 Try.sizeOf5 Try.zeroValue5 rfl (by decide) (fun _ => rfl) (fun _ => rfl) rfl rfl (by decide) ?_)
  intro b8 w9 hb10 hx11 H12
  refine O_mv (v := (slV hitems items)) rfl rfl ?_
  refine O_v rfl (R_len_slice (a := hitems.a) (n := items.length) (c := hitems.c) Try.underlying39 rfl ?_)
  refine O_v rfl (R_callL (vs := [(slV ⟨some ⟨b8, 0, none⟩, b8, 0, 1⟩ ([2] : List UInt8)), (.int .i64 (items.length : Int))]) cF17 rfl rfl ((enc_Num ⟨some ⟨b8, 0, none⟩, b8, 0, 1⟩ ([2] : List UInt8) (items.length : Int) w9 (H12.rowSl 0 rfl (fun _ => rfl)) (by decide)).ret ?_))
  rintro _ w14 ⟨h13, rfl, hx15, ho16⟩
  have H17 := H12.addRow hx15 ho16
  refine O_as (v := (slV h13 (([2] : List UInt8) ++ numB (items.length : Int)))) rfl rfl ?_
  refine O_nil (Then_n (W_seq (W_seq (W_reg ?_))))
  refine O_mv (v := (slV hitems items)) rfl rfl ?_
  refine O_v rfl (R_len_slice (a := hitems.a) (n := items.length) (c := hitems.c) Try.underlying39 rfl ?_)
  refine O_mv (v := (.int .i64 0)) rfl rfl ?_
  refine O_nil (Then_n (W_block ?_))
  refine W_loop (fun m19 e20 w21 => ∃ (k : Nat), ∃ (acc : List UInt8), ∃ (h18 : SlH), m19 = items.length - k ∧ (k ≤ items.length) ∧ (acc = dirTo items k) ∧ (acc.length ≤ 10 + k * 51000) ∧ (dirOk items = true) ∧ ∃ eb22, e20 = envL [(2, (.slice none 0 0)), (3, (.int .i64 0)), (4, (slV h18 acc)), (16, (slV hitems items)), (17, (.int .i64 (items.length : Int))), (18, (.int .i64 (k : Int)))] eb22 ∧ Ctx w nob w21 [rowR 5 1 encB h18 acc, rowR 5 1 encB ⟨some ⟨b8, 0, none⟩, b8, 0, 1⟩ ([2] : List UInt8)] [deepI (Old w) headCh 34 (fun x : ItemS => x.hh) (fun x : ItemS => x.heads) items, slI (Old w) itemCh 38 hitems items]) _ ⟨0, (([2] : List UInt8) ++ numB (items.length : Int)), h13, rfl, (by omega), (dirTo_zero items), (by have := numB_len (items.length : Nat); simp only [List.length_append, List.length_cons, List.length_nil]; omega), (by assumption), _, envL_self ⟨rfl, rfl, rfl, rfl, rfl, rfl, trivial⟩, H17⟩ ?_
  rintro m19 _ w21 ⟨k, acc, h18, rfl, hk, ha, hal, hD, eb22, rfl, H23⟩
  refine W_seq (W_reg ?_)
  refine O_v rfl (R_cmp (a := (k : Int)) (b := (items.length : Int)) (r := (decide ((k : Int) < (items.length : Int)))) rfl rfl rfl ?_)
  refine O_nil (Then_n (W_seq ?_))
  refine W_cond rfl (fun hc24 => ?_) (fun hc24 => ?_)
  ·have hc24 := (of_decide_eq_true hc24)
   refine W_skip (Then_n (W_seq (W_block (W_seq (W_reg ?_)))))
   refine O_v rfl (R_index_pure (H23.sl 1 rfl) (n := items.length) rfl (j := (k : Int)) (oo := (hitems.o + k * 38)) Try.underlying39 Try.sizeOf49 rfl rfl (by omega) (by omega) rfl ?_)
   refine O_v rfl (R_loadA (cs := [[(.int .i64 (((nth items k).node).T))], [(.int .i64 (((nth items k).node).R))], [(.int .i64 (((nth items k).tm).T))], [(.int .i64 (((nth items k).tm).R))], [(.string ((nth items k).name))], (idCells ((nth items k).sub)), [(slV ((nth items k).hh) ((nth items k).heads))]]) Try.isAgg49 Try.sizeOf49 rfl rfl ((Sl.elem (H23.sl 1 rfl) (i := k) (by omega) rfl).chunks 0 7 0 (hitems.o + k * 38) _ rfl rfl rfl) ?_)
   refine O_v rfl (C_alloc H23 [[(.int .i64 0)], [(.int .i64 0)], [(.int .i64 0)], [(.int .i64 0)], [(.string ByteArray.empty)], (idCells zeroId), [(.slice none 0 0)]] Try.zeroValue49 ?_)
   intro b25 w26 hb27 hx28 H29
   refine O_u (C_storeW H29 0 rfl (sub := [[(.int .i64 (((nth items k).node).T))], [(.int .i64 (((nth items k).node).R))], [(.int .i64 (((nth items k).tm).T))], [(.int .i64 (((nth items k).tm).R))], [(.string ((nth items k).name))], (idCells ((nth items k).sub)), [(slV ((nth items k).hh) ((nth items k).heads))]]) Try.sizeOf49 rfl rfl rfl rfl rfl ?_)
   intro w30 hg31 H32
   refine O_nil (Then_n (W_seq ?_))
   refine W_rgdM TryMixed nob (fun i => if i == 17 then 2 else 0) [(0, .q 2), (1, .q 2), (2, .q 0), (4, .q 2), (5, .q 0), (7, .q 2), (8, .q 0), (10, .q 2), (11, .q 0), (13, .q 2), (14, .q 0), (15, .q 2), (3, .c 0), (6, .c 0), (9, .c 0), (12, .c 0), (16, .c 0), (17, .c 2), (18, .q 2)] (by kernel_rfl) ?_
   refine Lx_mv (v := (slV h18 acc)) rfl rfl rfl (Lx_q rfl rfl _ (fun v35 hv36 => R_fieldAddr (off := 0) (oo := 0) Try.underlying49 rfl rfl Try.sizeOf46 rfl rfl qk) (Lx_q rfl rfl _ (fun v37 hv38 => R_loadA (cs := [[(.int .i64 (((nth items k).node).T))], [(.int .i64 (((nth items k).node).R))]]) Try.isAgg46 Try.sizeOf46 rfl rfl ((H32.ext hv38).bx 0 rfl 0 2 0 0 _ rfl rfl rfl) qk) (Lx_q rfl rfl _ (fun v39 hv40 => R_fieldAddr (off := 2) (oo := 2) Try.underlying49 rfl rfl Try.sizeOf46 rfl rfl qk) ?_)))
   refine Lx_q rfl rfl _ (fun v41 hv42 => R_loadA (cs := [[(.int .i64 (((nth items k).tm).T))], [(.int .i64 (((nth items k).tm).R))]]) Try.isAgg46 Try.sizeOf46 rfl rfl ((H32.ext hv42).bx 0 rfl 2 2 2 2 _ rfl rfl rfl) qk) (Lx_q rfl rfl _ (fun v43 hv44 => R_fieldAddr (off := 4) (oo := 4) Try.underlying49 rfl rfl Try.sizeOf9 rfl rfl qk) (Lx_q rfl rfl _ (fun v45 hv46 => R_load1 (v := (.string ((nth items k).name))) Try.isAgg9 rfl ((H32.ext hv46).bx 0 rfl 4 1 4 4 _ rfl rfl rfl) qk) (Lx_q rfl rfl _ (fun v47 hv48 => R_fieldAddr (off := 5) (oo := 5) Try.underlying49 rfl rfl Try.sizeOf25 rfl rfl qk) ?_)))
   refine Lx_q rfl rfl _ (fun v49 hv50 => R_loadA (cs := [(idCells ((nth items k).sub))]) Try.isAgg25 Try.sizeOf25 rfl rfl ((H32.ext hv50).bx 0 rfl 5 1 5 5 _ rfl rfl rfl) qk) (Lx_q rfl rfl _ (fun v51 hv52 => R_fieldAddr (off := 37) (oo := 37) Try.underlying49 rfl rfl Try.sizeOf47 rfl rfl qk) (Lx_q rfl rfl _ (fun v53 hv54 => R_load1 (v := (slV ((nth items k).hh) ((nth items k).heads))) Try.isAgg47 rfl ((H32.ext hv54).bx 0 rfl 6 1 37 37 _ rfl rfl rfl) qk) (Lx_q rfl rfl _ (fun v55 hv56 => R_len_slice (a := ((nth items k).hh).a) (n := ((nth items k).heads).length) (c := ((nth items k).hh).c) Try.underlying47 rfl qk) ?_)))
   refine Lx_c rfl rfl (fun w57 hw58 => ?_)
   have H59 := H32.ext hw58
   refine (R_callL (vs := [(.slice none 0 0), (aggOf (stampCh ((nth items k).node)))]) cF31 rfl rfl ((obj_at nilH [] ((nth items k).node) w57 (Sl.nil _ _ _ _) (by decide)).ret ?_))
   rintro _ w61 ⟨h60, rfl, hx62, ho63⟩
   have H64 := H59.addRow hx62 ho63
   refine ⟨GrF.ofExt hx62, ?_⟩
   refine Lx_c rfl rfl (fun w65 hw66 => ?_)
   have H67 := H64.ext hw66
   refine (R_callL (vs := [(slV h60 ([] ++ atB ((nth items k).node))), (aggOf (stampCh ((nth items k).tm)))]) cF31 rfl rfl ((obj_at h60 ([] ++ atB ((nth items k).node)) ((nth items k).tm) w65 (H67.rowSl 0 rfl (fun _ => rfl)) (by have h1 := atB_len (nth items k).node; have h2 := atB_len (nth items k).tm; have h3 := (dirOk_lens hD (show k < items.length by omega)); have h4 := textB_len (nth items k).name; have h5 := numB_len ((nth items k).heads.length : Nat); simp only [List.length_append, List.length_nil, idList_len]; omega)).ret ?_))
   rintro _ w69 ⟨h68, rfl, hx70, ho71⟩
   have H72 := H67.addRow hx70 ho71
   refine ⟨GrF.ofExt hx70, ?_⟩
   refine Lx_c rfl rfl (fun w73 hw74 => ?_)
   have H75 := H72.ext hw74
   refine (R_callL (vs := [(slV h68 (([] ++ atB ((nth items k).node)) ++ atB ((nth items k).tm))), (.string ((nth items k).name))]) cF20 rfl rfl ((enc_Text h68 (([] ++ atB ((nth items k).node)) ++ atB ((nth items k).tm)) ((nth items k).name) w73 (H75.rowSl 0 rfl (fun _ => rfl)) (by have h1 := atB_len (nth items k).node; have h2 := atB_len (nth items k).tm; have h3 := (dirOk_lens hD (show k < items.length by omega)); have h4 := textB_len (nth items k).name; have h5 := numB_len ((nth items k).heads.length : Nat); simp only [List.length_append, List.length_nil, idList_len]; omega)).ret ?_))
   rintro _ w77 ⟨h76, rfl, hx78, ho79⟩
   have H80 := H75.addRow hx78 ho79
   refine ⟨GrF.ofExt hx78, ?_⟩
   refine Lx_c rfl rfl (fun w81 hw82 => ?_)
   have H83 := H80.ext hw82
   refine (R_callL (vs := [(slV h76 ((([] ++ atB ((nth items k).node)) ++ atB ((nth items k).tm)) ++ textB ((nth items k).name))), (aggOf (idCh ((nth items k).sub)))]) cF18 rfl rfl ((enc_Id h76 ((([] ++ atB ((nth items k).node)) ++ atB ((nth items k).tm)) ++ textB ((nth items k).name)) ((nth items k).sub) w81 (H83.rowSl 0 rfl (fun _ => rfl)) (by have h1 := atB_len (nth items k).node; have h2 := atB_len (nth items k).tm; have h3 := (dirOk_lens hD (show k < items.length by omega)); have h4 := textB_len (nth items k).name; have h5 := numB_len ((nth items k).heads.length : Nat); simp only [List.length_append, List.length_nil, idList_len]; omega)).ret ?_))
   rintro _ w85 ⟨h84, rfl, hx86, ho87⟩
   have H88 := H83.addRow hx86 ho87
   refine ⟨GrF.ofExt hx86, ?_⟩
   refine Lx_c rfl rfl (fun w89 hw90 => ?_)
   have H91 := H88.ext hw90
   refine (R_callL (vs := [(slV h84 (((([] ++ atB ((nth items k).node)) ++ atB ((nth items k).tm)) ++ textB ((nth items k).name)) ++ idList ((nth items k).sub))), (.int .i64 ((((nth items k).heads).length : Nat) : Int))]) cF17 rfl rfl ((enc_Num h84 (((([] ++ atB ((nth items k).node)) ++ atB ((nth items k).tm)) ++ textB ((nth items k).name)) ++ idList ((nth items k).sub)) ((((nth items k).heads).length : Nat) : Int) w89 (H91.rowSl 0 rfl (fun _ => rfl)) (by have h1 := atB_len (nth items k).node; have h2 := atB_len (nth items k).tm; have h3 := (dirOk_lens hD (show k < items.length by omega)); have h4 := textB_len (nth items k).name; have h5 := numB_len ((nth items k).heads.length : Nat); simp only [List.length_append, List.length_nil, idList_len]; omega)).ret ?_))
   rintro _ w93 ⟨h92, rfl, hx94, ho95⟩
   have H96 := H91.addRow hx94 ho95
   refine ⟨GrF.ofExt hx94, ?_⟩
   refine Lx_c rfl rfl (fun w97 hw98 => ?_)
   have H99 := H96.ext hw98
   refine (C_append H99 6 rfl (bytes := 1) (l := acc) (ys := ((((([] ++ atB ((nth items k).node)) ++ atB ((nth items k).tm)) ++ textB ((nth items k).name)) ++ idList ((nth items k).sub)) ++ numB ((((nth items k).heads).length : Nat) : Int))) Try.underlying31 rfl rfl rfl rfl rfl (by decide) rfl rfl (OwnS.sl (H99.getOwn 0 rfl) (fun _ => rfl)) (fun _ => rfl) (fun _ => rfl) (by have h1 := atB_len (nth items k).node; have h2 := atB_len (nth items k).tm; have h3 := (dirOk_lens hD (show k < items.length by omega)); have h4 := textB_len (nth items k).name; have h5 := numB_len ((nth items k).heads.length : Nat); simp only [List.length_append, List.length_nil, idList_len]; omega) (by decide) ?_)
   intro h100 w101 hg102 H103
   refine ⟨Gr.mono (M' := fun _ => True) hg102 (fun _ _ => trivial), ?_⟩
   refine Lx_q rfl rfl _ (fun v104 hv105 => R_assign (v := (slV h100 (acc ++ ((((([] ++ atB ((nth items k).node)) ++ atB ((nth items k).tm)) ++ textB ((nth items k).name)) ++ idList ((nth items k).sub)) ++ numB ((((nth items k).heads).length : Nat) : Int))))) rfl qk) ?_
   refine Lx_nil (fun w106 hw107 => ?_)
   have H108 := H103.ext hw107
   refine Then_n (W_seq (W_reg ?_))
   refine O_v rfl (R_fieldAddr (off := 37) (oo := 37) Try.underlying49 rfl rfl Try.sizeOf47 rfl rfl ?_)
   refine O_v rfl (R_load1 (v := (slV ((nth items k).hh) ((nth items k).heads))) Try.isAgg47 rfl (H108.bx 5 rfl 6 1 37 37 _ rfl rfl rfl) ?_)
   refine O_v rfl (R_len_slice (a := ((nth items k).hh).a) (n := ((nth items k).heads).length) (c := ((nth items k).hh).c) Try.underlying47 rfl ?_)
   refine O_mv (v := (.int .i64 0)) rfl rfl ?_
   refine O_nil (Then_n (W_block ?_))
   refine W_loop (fun m110 e111 w112 => ∃ (j : Nat), ∃ (acc2 : List UInt8), ∃ (h109 : SlH), m110 = (nth items k).heads.length - j ∧ (j ≤ (nth items k).heads.length) ∧ (acc2 = acc ++ itemTo (nth items k) j) ∧ (acc2.length ≤ 10 + k * 51000 + 200 + j * 50) ∧ ((nth items k).heads.length ≤ 1000) ∧ (items.length ≤ 1000) ∧ ∃ eb113, e111 = envL [(2, (.slice none 0 0)), (3, (.int .i64 0)), (4, (slV h109 acc2)), (6, (.pointer (some ⟨b25, 0, none⟩))), (16, (slV hitems items)), (17, (.int .i64 (items.length : Int))), (18, (.int .i64 (k : Int))), (19, (.bool (decide ((k : Int) < (items.length : Int))))), (20, (.pointer (some ⟨hitems.b, (hitems.o + k * 38), none⟩))), (21, (aggOf (itemCh (nth items k)))), (22, (slV h18 acc)), (23, (.pointer (some ⟨b25, 0, none⟩))), (24, (aggOf (stampCh ((nth items k).node)))), (25, (slV h60 ([] ++ atB ((nth items k).node)))), (26, (.pointer (some ⟨b25, 2, none⟩))), (27, (aggOf (stampCh ((nth items k).tm)))), (28, (slV h68 (([] ++ atB ((nth items k).node)) ++ atB ((nth items k).tm)))), (29, (.pointer (some ⟨b25, 4, none⟩))), (30, (.string ((nth items k).name))), (31, (slV h76 ((([] ++ atB ((nth items k).node)) ++ atB ((nth items k).tm)) ++ textB ((nth items k).name)))), (32, (.pointer (some ⟨b25, 5, none⟩))), (33, (aggOf (idCh ((nth items k).sub)))), (34, (slV h84 (((([] ++ atB ((nth items k).node)) ++ atB ((nth items k).tm)) ++ textB ((nth items k).name)) ++ idList ((nth items k).sub)))), (35, (.pointer (some ⟨b25, 37, none⟩))), (36, (slV ((nth items k).hh) ((nth items k).heads))), (37, (.int .i64 ((((nth items k).heads).length : Nat) : Int))), (38, (slV h92 ((((([] ++ atB ((nth items k).node)) ++ atB ((nth items k).tm)) ++ textB ((nth items k).name)) ++ idList ((nth items k).sub)) ++ numB ((((nth items k).heads).length : Nat) : Int)))), (39, (slV h100 (acc ++ ((((([] ++ atB ((nth items k).node)) ++ atB ((nth items k).tm)) ++ textB ((nth items k).name)) ++ idList ((nth items k).sub)) ++ numB ((((nth items k).heads).length : Nat) : Int))))), (40, (.pointer (some ⟨b25, 37, none⟩))), (41, (slV ((nth items k).hh) ((nth items k).heads))), (42, (.int .i64 ((((nth items k).heads).length : Nat) : Int))), (43, (.int .i64 (j : Int)))] eb113 ∧ Ctx w nob w112 [rowR 5 1 encB h92 ((((([] ++ atB ((nth items k).node)) ++ atB ((nth items k).tm)) ++ textB ((nth items k).name)) ++ idList ((nth items k).sub)) ++ numB ((((nth items k).heads).length : Nat) : Int)), rowR 5 1 encB h84 (((([] ++ atB ((nth items k).node)) ++ atB ((nth items k).tm)) ++ textB ((nth items k).name)) ++ idList ((nth items k).sub)), rowR 5 1 encB h76 ((([] ++ atB ((nth items k).node)) ++ atB ((nth items k).tm)) ++ textB ((nth items k).name)), rowR 5 1 encB h68 (([] ++ atB ((nth items k).node)) ++ atB ((nth items k).tm)), rowR 5 1 encB h60 ([] ++ atB ((nth items k).node)), boxR b25 49 [[(.int .i64 (((nth items k).node).T))], [(.int .i64 (((nth items k).node).R))], [(.int .i64 (((nth items k).tm).T))], [(.int .i64 (((nth items k).tm).R))], [(.string ((nth items k).name))], (idCells ((nth items k).sub)), [(slV ((nth items k).hh) ((nth items k).heads))]], rowR 5 1 encB h109 acc2, rowR 5 1 encB ⟨some ⟨b8, 0, none⟩, b8, 0, 1⟩ ([2] : List UInt8)] [deepI (Old w) headCh 34 (fun x : ItemS => x.hh) (fun x : ItemS => x.heads) items, slI (Old w) itemCh 38 hitems items]) _ ⟨0, (acc ++ ((((([] ++ atB ((nth items k).node)) ++ atB ((nth items k).tm)) ++ textB ((nth items k).name)) ++ idList ((nth items k).sub)) ++ numB ((((nth items k).heads).length : Nat) : Int))), h100, rfl, (by omega), (item_start acc (nth items k)), (by have h1 := atB_len (nth items k).node; have h2 := atB_len (nth items k).tm; have h3 := (dirOk_lens hD (show k < items.length by omega)); have h4 := textB_len (nth items k).name; have h5 := numB_len ((nth items k).heads.length : Nat); simp only [List.length_append, List.length_nil, idList_len]; omega), (dirOk_lens hD (show k < items.length by omega)).2.1, (dirOk_lens hD (show k < items.length by omega)).2.2, _, envL_self ⟨rfl, rfl, rfl, rfl, rfl, rfl, rfl, rfl, rfl, rfl, rfl, rfl, rfl, rfl, rfl, rfl, rfl, rfl, rfl, rfl, rfl, rfl, rfl, rfl, rfl, rfl, rfl, rfl, rfl, rfl, rfl, rfl, trivial⟩, H108⟩ ?_
   rintro m110 _ w112 ⟨j, acc2, h109, rfl, hj, ha2, hal2, hx, hki, eb113, rfl, H114⟩
   refine W_seq (W_reg ?_)
   refine O_v rfl (R_cmp (a := (j : Int)) (b := ((((nth items k).heads).length : Nat) : Int)) (r := (decide ((j : Int) < ((((nth items k).heads).length : Nat) : Int)))) rfl rfl rfl ?_)
   refine O_nil (Then_n (W_seq ?_))
   refine W_cond rfl (fun hc115 => ?_) (fun hc115 => ?_)
   ·have hc115 := (of_decide_eq_true hc115)
    refine W_skip (Then_n (W_seq (W_block (W_seq (W_reg ?_)))))
    refine O_v rfl (R_index_pure (Sl.as ((nth items k).hh) ((nth items k).heads) ((H114.getImm 0 rfl) _ (nth_mem (by omega)))) (n := ((nth items k).heads).length) rfl (j := (j : Int)) (oo := (((nth items k).hh).o + j * 34)) Try.underlying47 Try.sizeOf51 rfl rfl (by omega) (by omega) rfl ?_)
    refine O_v rfl (R_loadA (cs := [[(.int .i64 (((nth ((nth items k).heads) j).tm).T))], [(.int .i64 (((nth ((nth items k).heads) j).tm).R))], (idCells ((nth ((nth items k).heads) j).data))]) Try.isAgg51 Try.sizeOf51 rfl rfl ((Sl.elem (Sl.as ((nth items k).hh) ((nth items k).heads) ((H114.getImm 0 rfl) _ (nth_mem (by omega)))) (i := j) (by omega) rfl).chunks 0 3 0 (((nth items k).hh).o + j * 34) _ rfl rfl rfl) ?_)
    refine O_v rfl (C_alloc H114 [[(.int .i64 0)], [(.int .i64 0)], (idCells zeroId)] Try.zeroValue51 ?_)
    intro b116 w117 hb118 hx119 H120
    refine O_u (C_storeW H120 0 rfl (sub := [[(.int .i64 (((nth ((nth items k).heads) j).tm).T))], [(.int .i64 (((nth ((nth items k).heads) j).tm).R))], (idCells ((nth ((nth items k).heads) j).data))]) Try.sizeOf51 rfl rfl rfl rfl rfl ?_)
    intro w121 hg122 H123
    refine O_nil (Then_n ?_)
    refine W_rgdM TryMixed nob (fun i => if i == 7 then 2 else 0) [(0, .q 2), (1, .q 2), (2, .q 0), (4, .q 2), (5, .q 0), (3, .c 0), (6, .c 0), (7, .c 2), (8, .q 2)] (by kernel_rfl) ?_
    refine Lx_mv (v := (slV h109 acc2)) rfl rfl rfl (Lx_q rfl rfl _ (fun v126 hv127 => R_fieldAddr (off := 0) (oo := 0) Try.underlying51 rfl rfl Try.sizeOf46 rfl rfl qk) (Lx_q rfl rfl _ (fun v128 hv129 => R_loadA (cs := [[(.int .i64 (((nth ((nth items k).heads) j).tm).T))], [(.int .i64 (((nth ((nth items k).heads) j).tm).R))]]) Try.isAgg46 Try.sizeOf46 rfl rfl ((H123.ext hv129).bx 0 rfl 0 2 0 0 _ rfl rfl rfl) qk) (Lx_q rfl rfl _ (fun v130 hv131 => R_fieldAddr (off := 2) (oo := 2) Try.underlying51 rfl rfl Try.sizeOf25 rfl rfl qk) ?_)))
    refine Lx_q rfl rfl _ (fun v132 hv133 => R_loadA (cs := [(idCells ((nth ((nth items k).heads) j).data))]) Try.isAgg25 Try.sizeOf25 rfl rfl ((H123.ext hv133).bx 0 rfl 2 1 2 2 _ rfl rfl rfl) qk) ?_
    refine Lx_c rfl rfl (fun w134 hw135 => ?_)
    have H136 := H123.ext hw135
    refine (R_callL (vs := [(.slice none 0 0), (aggOf (stampCh ((nth ((nth items k).heads) j).tm)))]) cF31 rfl rfl ((obj_at nilH [] ((nth ((nth items k).heads) j).tm) w134 (Sl.nil _ _ _ _) (by decide)).ret ?_))
    rintro _ w138 ⟨h137, rfl, hx139, ho140⟩
    have H141 := H136.addRow hx139 ho140
    refine ⟨GrF.ofExt hx139, ?_⟩
    refine Lx_c rfl rfl (fun w142 hw143 => ?_)
    have H144 := H141.ext hw143
    refine (R_callL (vs := [(slV h137 ([] ++ atB ((nth ((nth items k).heads) j).tm))), (aggOf (idCh ((nth ((nth items k).heads) j).data)))]) cF18 rfl rfl ((enc_Id h137 ([] ++ atB ((nth ((nth items k).heads) j).tm)) ((nth ((nth items k).heads) j).data) w142 (H144.rowSl 0 rfl (fun _ => rfl)) (by have h1 := atB_len (nth (nth items k).heads j).tm; have h3 := (dirOk_lens hD (show k < items.length by omega)); simp only [List.length_append, List.length_nil, List.length_cons, idList_len]; omega)).ret ?_))
    rintro _ w146 ⟨h145, rfl, hx147, ho148⟩
    have H149 := H144.addRow hx147 ho148
    refine ⟨GrF.ofExt hx147, ?_⟩
    refine Lx_c rfl rfl (fun w150 hw151 => ?_)
    have H152 := H149.ext hw151
    refine (C_append H152 9 rfl (bytes := 1) (l := acc2) (ys := (([] ++ atB ((nth ((nth items k).heads) j).tm)) ++ idList ((nth ((nth items k).heads) j).data))) Try.underlying31 rfl rfl rfl rfl rfl (by decide) rfl rfl (OwnS.sl (H152.getOwn 0 rfl) (fun _ => rfl)) (fun _ => rfl) (fun _ => rfl) (by have h1 := atB_len (nth (nth items k).heads j).tm; have h3 := (dirOk_lens hD (show k < items.length by omega)); simp only [List.length_append, List.length_nil, List.length_cons, idList_len]; omega) (by decide) ?_)
    intro h153 w154 hg155 H156
    refine ⟨Gr.mono (M' := fun _ => True) hg155 (fun _ _ => trivial), ?_⟩
    refine Lx_q rfl rfl _ (fun v157 hv158 => R_assign (v := (slV h153 (acc2 ++ (([] ++ atB ((nth ((nth items k).heads) j).tm)) ++ idList ((nth ((nth items k).heads) j).data))))) rfl qk) ?_
    refine Lx_nil (fun w159 hw160 => ?_)
    have H161 := H156.ext hw160
    refine Blk_n (Then_n (W_reg ?_))
    refine O_v rfl (R_arith (a := (j : Int)) (b := 1) (r0 := (j : Int) + 1) (r := ((j + 1 : Nat) : Int)) rfl rfl rfl (wrapN _ (by omega)) ?_)
    refine O_mv (v := (.int .i64 ((j + 1 : Nat) : Int))) rfl rfl ?_
    refine O_nil (Then_n ?_)
    have H162 := H161.sub (List.Sublist.cons _ (List.Sublist.cons _ (List.Sublist.cons _ (List.Sublist.cons_cons _ (List.Sublist.cons_cons _ (List.Sublist.cons_cons _ (List.Sublist.cons_cons _ (List.Sublist.cons_cons _ (List.Sublist.cons_cons _ (List.Sublist.cons_cons _ (List.Sublist.cons_cons _ List.Sublist.slnil))))))))))) (List.forall_mem_cons.2 ⟨List.mem_of_getElem? (i := 0) rfl, List.forall_mem_cons.2 ⟨List.mem_of_getElem? (i := 1) rfl, memN⟩⟩)
    refine ⟨_, ?_, (j + 1), (acc2 ++ (([] ++ atB ((nth ((nth items k).heads) j).tm)) ++ idList ((nth ((nth items k).heads) j).data))), h153, rfl, (by omega), (head_step ha2 (by omega)), (by have h1 := atB_len (nth (nth items k).heads j).tm; have h3 := (dirOk_lens hD (show k < items.length by omega)); simp only [List.length_append, List.length_nil, List.length_cons, idList_len]; omega), (by omega), (by omega), _, envL_self ⟨rfl, rfl, rfl, rfl, rfl, rfl, rfl, rfl, rfl, rfl, rfl, rfl, rfl, rfl, rfl, rfl, rfl, rfl, rfl, rfl, rfl, rfl, rfl, rfl, rfl, rfl, rfl, rfl, rfl, rfl, rfl, rfl, trivial⟩, H162⟩
    omega
   ·have hc115 := (of_decide_eq_false hc115)
    refine W_exit (Then_x (Then_x (Blk_x (Blk_n (Then_n (W_reg ?_))))))
    refine O_v rfl (R_arith (a := (k : Int)) (b := 1) (r0 := (k : Int) + 1) (r := ((k + 1 : Nat) : Int)) rfl rfl rfl (wrapN _ (by omega)) ?_)
    refine O_mv (v := (.int .i64 ((k + 1 : Nat) : Int))) rfl rfl ?_
    refine O_nil (Then_n ?_)
    have H163 := H114.sub (List.Sublist.cons _ (List.Sublist.cons _ (List.Sublist.cons _ (List.Sublist.cons _ (List.Sublist.cons _ (List.Sublist.cons _ (List.Sublist.cons_cons _ (List.Sublist.cons_cons _ List.Sublist.slnil)))))))) (List.forall_mem_cons.2 ⟨List.mem_of_getElem? (i := 0) rfl, List.forall_mem_cons.2 ⟨List.mem_of_getElem? (i := 1) rfl, memN⟩⟩)
    refine ⟨_, ?_, (k + 1), acc2, h109, rfl, (by omega), (item_end ha ha2 (by omega) (by omega)), (by have := dirOk_lens hD (show k < items.length by omega); omega), hD, _, envL_self ⟨rfl, rfl, rfl, rfl, rfl, rfl, trivial⟩, H163⟩
    omega
  ·have hc24 := (of_decide_eq_false hc24)
   refine W_exit (Then_x (Then_x (Blk_x (Then_n (W_seq (W_reg ?_))))))
   refine O_mv (v := (slV h18 acc)) rfl rfl (O_as (v := (slV h18 acc)) rfl rfl (O_as (v := (.int .i64 0)) rfl rfl ?_))
   refine O_nil (Then_n (W_ret ?_))
   refine ret_2 (v := (slV h18 acc)) (v' := (.int .i64 0)) Try.results12 rfl rfl ?_
   have hE : acc = putDirB items := (dir_end ha hD (by omega)).1
   have hV : 0 = putDirE items := (dir_end ha hD (by omega)).2
   refine ⟨h18, ?_, H23.gr, ?_⟩
   · exact two_eq (fun l n => Value.tuple #[slV h18 l, Value.int .i64 n]) hE hV
   · have hO := H23.retRow 0 rfl
     exact hE ▸ hO
set_option maxHeartbeats 1000000 in
theorem obj_PutLabel (l : Label) (w : World) :
    Calls Try.prog 7 #[(aggOf (labelCh l))] w (Ret fun v w' => ∃ h0, v = .tuple #[slV h0 (putLabelB l), (.int .i64 (putLabelE l))] ∧ Ext w w' ∧ OwnS w.heap.size 5 1 encB h0 (putLabelB l) w') := by
 refine calls_W Try.func7 rfl Try.ntmps7 rfl ?_
 have H0 := Ctx.start w nob
 have hLn := textB_len l.name
 refine W_seq (W_reg ?_)
 refine O_v rfl (C_box H0 [(idCells l.target), [(.string l.name)], [(.string l.msg)]] rfl ?_)
 intro b1 w2 hb3 hx4 H5
 refine O_as (v := (.slice none 0 0)) rfl rfl (O_as (v := (.int .i64 0)) rfl rfl ?_)
 refine O_nil (Then_n (W_seq (W_seq (W_reg ?_))))
 refine O_v rfl (R_loadA (cs := [(idCells l.target), [(.string l.name)], [(.string l.msg)]]) Try.isAgg29 Try.sizeOf29 rfl rfl (H5.bx 0 rfl 0 3 0 0 _ rfl rfl rfl) ?_)
 refine O_v rfl (R_callL (vs := [(aggOf (labelCh l))]) cF21 rfl rfl ((obj_rightLabel l w2 ).ret ?_))
 rintro _ w6 ⟨rfl, hx7⟩
 have H8 := H5.ext hx7
 refine O_v rfl (R_not rfl ?_)
 refine O_nil (Then_n ?_)
 refine W_cond rfl (fun hc9 => ?_) (fun hc9 => ?_)
 ·have hc9 : (labelOk l) = false := (notT hc9)
  refine W_seq (W_reg ?_)
  refine O_as (v := (.slice none 0 0)) rfl rfl (O_as (v := (.int .i64 1)) rfl rfl ?_)
  refine O_nil (Then_n (W_ret (Then_r ?_)))
  refine ret_2 (v := (.slice none 0 0)) (v' := (.int .i64 1)) Try.results7 rfl rfl ?_
  have H10 := H8.addNil 5 1 encB
  have hE : [] = putLabelB l := (putLabel_f (by assumption)).1
  have hV : 1 = putLabelE l := (putLabel_f (by assumption)).2
  refine ⟨nilH, ?_, H10.gr, ?_⟩
  · exact two_eq (fun l n => Value.tuple #[slV nilH l, Value.int .i64 n]) hE hV
  · have hO := H10.retRow 0 rfl
    exact hE ▸ hO
 ·have hc9 : (labelOk l) = true := (notF hc9)
  refine W_skip (Then_n (W_seq ?_))
  refine W_rgd TryMixed [(1, .q 0), (2, .q 0), (4, .q 0), (5, .q 0), (7, .q 0), (8, .q 0), (0, .c 0), (3, .c 0), (6, .c 0), (9, .c 0), (10, .q 0), (11, .q 0)] (by kernel_rfl) ?_
  refine Lx_q rfl rfl _ (fun v11 hv12 => R_fieldAddr (off := 0) (oo := 0) Try.underlying29 rfl rfl Try.sizeOf25 rfl rfl qk) (Lx_q rfl rfl _ (fun v13 hv14 => R_loadA (cs := [(idCells l.target)]) Try.isAgg25 Try.sizeOf25 rfl rfl ((H8.ext hv14).bx 0 rfl 0 1 0 0 _ rfl rfl rfl) qk) (Lx_q rfl rfl _ (fun v15 hv16 => R_fieldAddr (off := 32) (oo := 32) Try.underlying29 rfl rfl Try.sizeOf9 rfl rfl qk) (Lx_q rfl rfl _ (fun v17 hv18 => R_load1 (v := (.string l.name)) Try.isAgg9 rfl ((H8.ext hv18).bx 0 rfl 1 1 32 32 _ rfl rfl rfl) qk) ?_)))
  refine Lx_q rfl rfl _ (fun v19 hv20 => R_fieldAddr (off := 33) (oo := 33) Try.underlying29 rfl rfl Try.sizeOf9 rfl rfl qk) (Lx_q rfl rfl _ (fun v21 hv22 => R_load1 (v := (.string l.msg)) Try.isAgg9 rfl ((H8.ext hv22).bx 0 rfl 2 1 33 33 _ rfl rfl rfl) qk) ?_)
  refine Lx_c rfl rfl (fun w23 hw24 => ?_)
  have H25 := H8.ext hw24
  refine (C_buildSliceL H25 (enc := encB) (val := byteV) ([4] : List UInt8) Try.underlying31 Try.sizeOf5 Try.zeroValue5 rfl (by decide) (fun _ => rfl) (fun _ => rfl) rfl rfl (by decide) ?_)
  intro b26 w27 hb28 hx29 H30
  refine ⟨GrF.ofExt hx29, ?_⟩
  refine Lx_c rfl rfl (fun w31 hw32 => ?_)
  have H33 := H30.ext hw32
  refine (R_callL (vs := [(slV ⟨some ⟨b26, 0, none⟩, b26, 0, 1⟩ ([4] : List UInt8)), (aggOf (idCh l.target))]) cF18 rfl rfl ((enc_Id ⟨some ⟨b26, 0, none⟩, b26, 0, 1⟩ ([4] : List UInt8) l.target w31 (H33.rowSl 0 rfl (fun _ => rfl)) (by simp only [List.length_cons, List.length_nil]; omega)).ret ?_))
  rintro _ w35 ⟨h34, rfl, hx36, ho37⟩
  have H38 := H33.addRow hx36 ho37
  refine ⟨GrF.ofExt hx36, ?_⟩
  refine Lx_c rfl rfl (fun w39 hw40 => ?_)
  have H41 := H38.ext hw40
  refine (R_callL (vs := [(slV h34 (([4] : List UInt8) ++ idList l.target)), (.string l.name)]) cF20 rfl rfl ((enc_Text h34 (([4] : List UInt8) ++ idList l.target) l.name w39 (H41.rowSl 0 rfl (fun _ => rfl)) (label_h1 (by assumption))).ret ?_))
  rintro _ w43 ⟨h42, rfl, hx44, ho45⟩
  have H46 := H41.addRow hx44 ho45
  refine ⟨GrF.ofExt hx44, ?_⟩
  refine Lx_c rfl rfl (fun w47 hw48 => ?_)
  have H49 := H46.ext hw48
  refine (R_callL (vs := [(slV h42 ((([4] : List UInt8) ++ idList l.target) ++ textB l.name)), (.string l.msg)]) cF20 rfl rfl ((enc_Text h42 ((([4] : List UInt8) ++ idList l.target) ++ textB l.name) l.msg w47 (H49.rowSl 0 rfl (fun _ => rfl)) (label_h2 (by assumption))).ret ?_))
  rintro _ w51 ⟨h50, rfl, hx52, ho53⟩
  have H54 := H49.addRow hx52 ho53
  refine ⟨GrF.ofExt hx52, ?_⟩
  refine Lx_q rfl rfl _ (fun v55 hv56 => R_assign (v := (slV h50 (((([4] : List UInt8) ++ idList l.target) ++ textB l.name) ++ textB l.msg))) rfl qk) (Lx_q rfl rfl _ (fun v57 hv58 => R_assign (v := (.int .i64 0)) rfl qk) ?_)
  refine Lx_nil (fun w59 hw60 => ?_)
  have H61 := H54.ext hw60
  refine Then_n (W_ret ?_)
  refine ret_2 (v := (slV h50 (((([4] : List UInt8) ++ idList l.target) ++ textB l.name) ++ textB l.msg))) (v' := (.int .i64 0)) Try.results7 rfl rfl ?_
  have hE : ((([4] : List UInt8) ++ idList l.target) ++ textB l.name) ++ textB l.msg = putLabelB l := (putLabel_t (by assumption)).1
  have hV : 0 = putLabelE l := (putLabel_t (by assumption)).2
  refine ⟨h50, ?_, H61.gr, ?_⟩
  · exact two_eq (fun l n => Value.tuple #[slV h50 l, Value.int .i64 n]) hE hV
  · have hO := H61.retRow 0 rfl
    exact hE ▸ hO
end Go.Proofs.Ythjdhfoeckfmbaa
namespace Go.Proofs.Ythjdhfoeckfmbaa
open Go
set_option linter.unusedVariables false
set_option linter.unusedSimpArgs false
set_option maxRecDepth 20000
def mkId (b : UInt8) : ID := ⟨#[b, 0, 0, 0, 0, 0, 0, 0, 0, 0, 0, 0, 0, 0, 0, 0, 0, 0, 0, 0, 0, 0, 0, 0, 0, 0, 0, 0, 0, 0, 0, 0], rfl⟩
def chg0 : ChangeS := { parents := [], ph := nilH, time := 1, r := 1, ops := [], oh := nilH, tree := mkId 9, msg := ByteArray.empty }
def item0 : ItemS := { node := ⟨1, 1⟩, tm := ⟨1, 1⟩, name := ⟨#[97]⟩, sub := zeroId, heads := [], hh := nilH }
def lab0 : Label := ⟨mkId 1, ⟨#[118]⟩, ByteArray.empty⟩
theorem numB_0 : numB 0 = [0] := by rw [numB, numGo_small (by decide)]; rfl
theorem numB_1 : numB 1 = [1] := by rw [numB, numGo_small (by decide)]; rfl
def z31 : List UInt8 := List.replicate 31 0
theorem chg_ok : changeOk chg0 = true := by decide
theorem chg_bytes : putChangeB chg0 = [3, 0, 1, 1, 0, 9] ++ z31 ++ [0] := by
  rw [putChangeB, if_pos chg_ok, changeB, opsTo, parTo, textB]
  show ((((([3] ++ numB 0) ++ [] ++ numB 1) ++ numB 1) ++ numB 0) ++ [] ++ idList (mkId 9)) ++ (numB 0 ++ []) = _
  rw [numB_0, numB_1]
  decide
theorem chg_kind : kindOf (putChangeB chg0) = 3 := by
  rw [chg_bytes]
  decide
theorem item_ok : dirOk [item0] = true := by decide
theorem item_bytes : putDirB [item0] = [2, 1, 1, 1, 1, 1, 1, 97, 0] ++ z31 ++ [0] := by
  rw [putDirB, if_pos item_ok, dirB, dirTo]
  show ([2] ++ numB 1) ++ [itemB item0].flatten = _
  rw [itemB, itemTo, atB, atB, textB]
  show ([2] ++ numB 1) ++ [((((([] : List UInt8) ++ (numB 1 ++ numB 1)) ++ (numB 1 ++ numB 1)) ++ (numB 1 ++ [97])) ++ idList zeroId ++ numB 0) ++ []].flatten = _
  rw [numB_0, numB_1]
  decide
theorem item_kind : kindOf (putDirB [item0]) = 2 := by
  rw [item_bytes]
  decide
theorem lab_ok : labelOk lab0 = true := by decide
theorem lab_bytes : putLabelB lab0 = [4, 1] ++ z31 ++ [1, 118, 0] := by
  rw [putLabelB, if_pos lab_ok, labelB, textB, textB]
  show (([4] ++ idList (mkId 1)) ++ (numB 1 ++ [118])) ++ (numB 0 ++ []) = _
  rw [numB_0, numB_1]
  decide
theorem lab_kind : kindOf (putLabelB lab0) = 4 := by
  rw [lab_bytes]
  decide
theorem chg_raw : linksRaw (putChangeB chg0) = [mkId 9] := by
  rw [linksRaw, if_neg (by rw [chg_kind]; decide), if_pos chg_kind, chg_bytes]
  decide
theorem chg_links : links1 (putChangeB chg0) = [mkId 9] := by
  rw [links1, chg_raw]
  decide
theorem chg_len : (((putChangeB chg0).length : Nat) : Int) = 38 := by rw [chg_bytes]; rfl
theorem chg_first : ((nth (putChangeB chg0) 0).toNat : Int) = 3 := by rw [chg_bytes]; rfl
theorem chg_ix : (0 : Int) < (((putChangeB chg0).length : Nat) : Int) := by rw [chg_len]; decide
theorem chg_ixn : 0 < (putChangeB chg0).length := by rw [chg_bytes]; decide
theorem chg_bound : (putChangeB chg0).length ≤ 140737488355328 := by rw [chg_bytes]; decide
theorem item_bound : (putDirB [item0]).length ≤ 140737488355328 := by rw [item_bytes]; decide
theorem lab_bound : (putLabelB lab0).length ≤ 140737488355328 := by rw [lab_bytes]; decide
theorem chg_raw1 : (linksRaw (putChangeB chg0)).length ≤ 1 := by rw [chg_raw]; decide
theorem chg_one : (((links1 (putChangeB chg0)).length : Nat) : Int) = 1 := by rw [chg_links]; rfl
section
variable {b : List UInt8}
end
end Go.Proofs.Ythjdhfoeckfmbaa
namespace Go.Proofs.Ythjdhfoeckfmbaa
open Go
set_option maxRecDepth 100000
set_option linter.unusedVariables false
set_option linter.unusedSimpArgs false
set_option linter.unusedSectionVars false
theorem cF6 : callable Try.prog 6 = true := by kernel_rfl
theorem cF7 : callable Try.prog 7 = true := by kernel_rfl
theorem cF12 : callable Try.prog 12 = true := by kernel_rfl
theorem cF14 : callable Try.prog 14 = true := by kernel_rfl
theorem cF15 : callable Try.prog 15 = true := by kernel_rfl
set_option maxHeartbeats 4000000 in
theorem law04_alive  (w : World) :
    Calls Try.prog 5 #[] w (Ret fun v w' => v = (.bool true) ∧ Ext w w') := by
 refine calls_W Try.func5 rfl Try.ntmps5 rfl ?_
 have H0 := Ctx.start w nob
 refine W_seq (W_reg ?_)
 refine O_as (v := (.bool false)) rfl rfl ?_
 refine O_nil (Then_n (W_seq (W_reg ?_)))
 refine O_v rfl (C_buildSliceL H0 (enc := encB) (val := byteV) ([97, 98] : List UInt8) Try.underlying31 Try.sizeOf5 Try.zeroValue5 rfl (by decide) (fun _ => rfl) (fun _ => rfl) rfl rfl (by decide) ?_)
 intro b1 w2 hb3 hx4 H5
 refine O_v rfl (C_convBB H5 0 rfl Try.underlying31 Try.underlying5 rfl (by decide) ?_)
 intro w6 hg7 H8
 refine O_v rfl (R_callL (vs := [(slV ⟨some ⟨b1, 0, none⟩, b1, 0, 2⟩ ([97, 98] : List UInt8))]) cF14 rfl rfl ((obj_PutBlob ⟨some ⟨b1, 0, none⟩, b1, 0, 2⟩ ([97, 98] : List UInt8) w6 (H8.slOld 0 rfl)).ret ?_))
 rintro _ w10 ⟨h9, rfl, hx11, ho12⟩
 have H13 := H8.addRow hx11 ho12
 refine O_mv (v := (.tuple #[(slV h9 (putBlobB ([97, 98] : List UInt8))), (.int .i64 (putBlobE ([97, 98] : List UInt8)))])) rfl rfl (O_ex (v := (slV h9 (putBlobB ([97, 98] : List UInt8)))) rfl rfl rfl (O_ex (v := (.int .i64 (putBlobE ([97, 98] : List UInt8)))) rfl rfl rfl (O_as (v := (slV h9 (putBlobB ([97, 98] : List UInt8)))) rfl rfl ?_)))
 refine O_as (v := (.int .i64 (putBlobE ([97, 98] : List UInt8)))) rfl rfl ?_
 refine O_nil (Then_n (W_seq (W_reg ?_)))
 refine O_v rfl (R_buildL (vs := [(0, (.int .u8 9))]) (v := aggOf [(idCells (mkId 9))]) rfl (fun _ => by kernel_rfl) ?_)
 refine O_v rfl (R_buildL (vs := [(1, (.int .i64 1)), (2, (.int .i64 1)), (4, (aggOf (idCh (mkId 9))))]) (v := aggOf [[(.slice none 0 0)], [(.int .i64 1)], [(.int .i64 1)], [(.slice none 0 0)], (idCells (mkId 9)), [(.string ByteArray.empty)]]) rfl (fun _ => by kernel_rfl) ?_)
 refine O_v rfl (R_callL (vs := [(aggOf [[(.slice none 0 0)], [(.int .i64 1)], [(.int .i64 1)], [(.slice none 0 0)], (idCells (mkId 9)), [(.string ByteArray.empty)]])]) cF6 rfl rfl ((obj_PutChange ({ parents := [], ph := nilH, time := 1, r := 1, ops := [], oh := nilH, tree := (mkId 9), msg := ByteArray.empty } : ChangeS) w10 (Sl.nil _ _ _ _) (Sl.nil _ _ _ _) (fun _ hx => (nomatch hx))).ret ?_))
 rintro _ w15 ⟨h14, rfl, hx16, ho17⟩
 have H18 := H13.addRow hx16 ho17
 refine O_mv (v := (.tuple #[(slV h14 (putChangeB ({ parents := [], ph := nilH, time := 1, r := 1, ops := [], oh := nilH, tree := (mkId 9), msg := ByteArray.empty } : ChangeS))), (.int .i64 (putChangeE ({ parents := [], ph := nilH, time := 1, r := 1, ops := [], oh := nilH, tree := (mkId 9), msg := ByteArray.empty } : ChangeS)))])) rfl rfl (O_ex (v := (slV h14 (putChangeB ({ parents := [], ph := nilH, time := 1, r := 1, ops := [], oh := nilH, tree := (mkId 9), msg := ByteArray.empty } : ChangeS)))) rfl rfl rfl (O_ex (v := (.int .i64 (putChangeE ({ parents := [], ph := nilH, time := 1, r := 1, ops := [], oh := nilH, tree := (mkId 9), msg := ByteArray.empty } : ChangeS)))) rfl rfl rfl (O_as (v := (slV h14 (putChangeB ({ parents := [], ph := nilH, time := 1, r := 1, ops := [], oh := nilH, tree := (mkId 9), msg := ByteArray.empty } : ChangeS)))) rfl rfl ?_)))
 refine O_as (v := (.int .i64 (putChangeE ({ parents := [], ph := nilH, time := 1, r := 1, ops := [], oh := nilH, tree := (mkId 9), msg := ByteArray.empty } : ChangeS)))) rfl rfl ?_
 refine O_nil (Then_n (W_seq (W_reg ?_)))
 refine O_v rfl (R_buildL (vs := [(0, (.int .i64 1)), (1, (.int .i64 1))]) (v := aggOf [[(.int .i64 1)], [(.int .i64 1)]]) rfl (fun _ => by kernel_rfl) ?_)
 refine O_v rfl (R_buildL (vs := [(0, (.int .i64 1)), (1, (.int .i64 1))]) (v := aggOf [[(.int .i64 1)], [(.int .i64 1)]]) rfl (fun _ => by kernel_rfl) ?_)
 refine O_v rfl (R_buildL (vs := [(0, (aggOf [[(.int .i64 1)], [(.int .i64 1)]])), (1, (aggOf [[(.int .i64 1)], [(.int .i64 1)]])), (2, (.string (⟨#[97]⟩ : ByteArray)))]) (v := aggOf [[(.int .i64 1)], [(.int .i64 1)], [(.int .i64 1)], [(.int .i64 1)], [(.string (⟨#[97]⟩ : ByteArray))], (idCells zeroId), [(.slice none 0 0)]]) rfl (fun _ => by kernel_rfl) ?_)
 refine O_v rfl (C_buildSliceL H18 (enc := itemCh) (val := itemV) ([({ node := ({ T := 1, R := 1 } : Stamp), tm := ({ T := 1, R := 1 } : Stamp), name := (⟨#[97]⟩ : ByteArray), sub := zeroId, heads := [], hh := nilH } : ItemS)] : List ItemS) Try.underlying39 Try.sizeOf49 Try.zeroValue49 rfl (by decide) (fun _ => rfl) (fun _ => rfl) rfl rfl (by decide) ?_)
 intro b19 w20 hb21 hx22 H23
 refine O_v rfl (R_callL (vs := [(slV ⟨some ⟨b19, 0, none⟩, b19, 0, 1⟩ ([({ node := ({ T := 1, R := 1 } : Stamp), tm := ({ T := 1, R := 1 } : Stamp), name := (⟨#[97]⟩ : ByteArray), sub := zeroId, heads := [], hh := nilH } : ItemS)] : List ItemS))]) cF12 rfl rfl ((obj_PutDir ⟨some ⟨b19, 0, none⟩, b19, 0, 1⟩ ([({ node := ({ T := 1, R := 1 } : Stamp), tm := ({ T := 1, R := 1 } : Stamp), name := (⟨#[97]⟩ : ByteArray), sub := zeroId, heads := [], hh := nilH } : ItemS)] : List ItemS) w20 (H23.rowSl 0 rfl (fun _ => rfl)) (deep1 (Sl.nil _ _ _ _))).ret ?_))
 rintro _ w25 ⟨h24, rfl, hx26, ho27⟩
 have H28 := H23.addRow hx26 ho27
 refine O_mv (v := (.tuple #[(slV h24 (putDirB ([({ node := ({ T := 1, R := 1 } : Stamp), tm := ({ T := 1, R := 1 } : Stamp), name := (⟨#[97]⟩ : ByteArray), sub := zeroId, heads := [], hh := nilH } : ItemS)] : List ItemS))), (.int .i64 (putDirE ([({ node := ({ T := 1, R := 1 } : Stamp), tm := ({ T := 1, R := 1 } : Stamp), name := (⟨#[97]⟩ : ByteArray), sub := zeroId, heads := [], hh := nilH } : ItemS)] : List ItemS)))])) rfl rfl (O_ex (v := (slV h24 (putDirB ([({ node := ({ T := 1, R := 1 } : Stamp), tm := ({ T := 1, R := 1 } : Stamp), name := (⟨#[97]⟩ : ByteArray), sub := zeroId, heads := [], hh := nilH } : ItemS)] : List ItemS)))) rfl rfl rfl (O_ex (v := (.int .i64 (putDirE ([({ node := ({ T := 1, R := 1 } : Stamp), tm := ({ T := 1, R := 1 } : Stamp), name := (⟨#[97]⟩ : ByteArray), sub := zeroId, heads := [], hh := nilH } : ItemS)] : List ItemS)))) rfl rfl rfl (O_as (v := (slV h24 (putDirB ([({ node := ({ T := 1, R := 1 } : Stamp), tm := ({ T := 1, R := 1 } : Stamp), name := (⟨#[97]⟩ : ByteArray), sub := zeroId, heads := [], hh := nilH } : ItemS)] : List ItemS)))) rfl rfl ?_)))
 refine O_as (v := (.int .i64 (putDirE ([({ node := ({ T := 1, R := 1 } : Stamp), tm := ({ T := 1, R := 1 } : Stamp), name := (⟨#[97]⟩ : ByteArray), sub := zeroId, heads := [], hh := nilH } : ItemS)] : List ItemS)))) rfl rfl ?_
 refine O_nil (Then_n (W_seq (W_reg ?_)))
 refine O_v rfl (R_buildL (vs := [(0, (.int .u8 1))]) (v := aggOf [(idCells (mkId 1))]) rfl (fun _ => by kernel_rfl) ?_)
 refine O_v rfl (R_buildL (vs := [(0, (aggOf (idCh (mkId 1)))), (1, (.string (⟨#[118]⟩ : ByteArray)))]) (v := aggOf [(idCells (mkId 1)), [(.string (⟨#[118]⟩ : ByteArray))], [(.string ByteArray.empty)]]) rfl (fun _ => by kernel_rfl) ?_)
 refine O_v rfl (R_callL (vs := [(aggOf [(idCells (mkId 1)), [(.string (⟨#[118]⟩ : ByteArray))], [(.string ByteArray.empty)]])]) cF7 rfl rfl ((obj_PutLabel ({ target := (mkId 1), name := (⟨#[118]⟩ : ByteArray), msg := ByteArray.empty } : Label) w25 ).ret ?_))
 rintro _ w30 ⟨h29, rfl, hx31, ho32⟩
 have H33 := H28.addRow hx31 ho32
 refine O_mv (v := (.tuple #[(slV h29 (putLabelB ({ target := (mkId 1), name := (⟨#[118]⟩ : ByteArray), msg := ByteArray.empty } : Label))), (.int .i64 (putLabelE ({ target := (mkId 1), name := (⟨#[118]⟩ : ByteArray), msg := ByteArray.empty } : Label)))])) rfl rfl (O_ex (v := (slV h29 (putLabelB ({ target := (mkId 1), name := (⟨#[118]⟩ : ByteArray), msg := ByteArray.empty } : Label)))) rfl rfl rfl (O_ex (v := (.int .i64 (putLabelE ({ target := (mkId 1), name := (⟨#[118]⟩ : ByteArray), msg := ByteArray.empty } : Label)))) rfl rfl rfl (O_as (v := (slV h29 (putLabelB ({ target := (mkId 1), name := (⟨#[118]⟩ : ByteArray), msg := ByteArray.empty } : Label)))) rfl rfl ?_)))
 refine O_as (v := (.int .i64 (putLabelE ({ target := (mkId 1), name := (⟨#[118]⟩ : ByteArray), msg := ByteArray.empty } : Label)))) rfl rfl ?_
 refine O_nil (Then_n (W_seq ?_))
 refine W_rg [(0, .q 0), (1, .q 0), (2, .q 0), (3, .q 0), (4, .q 0), (5, .q 0), (6, .q 0), (7, .q 0), (8, .q 0), (9, .q 0), (10, .q 0), (11, .q 0), (12, .q 0), (13, .q 0), (14, .q 0), (15, .q 0), (16, .q 0), (17, .q 0), (18, .q 0), (19, .q 0), (20, .q 0), (21, .q 0), (22, .q 0), (23, .q 0), (24, .q 0), (25, .q 0), (26, .q 0), (27, .q 0), (28, .q 0), (29, .q 0), (30, .q 0), (31, .q 0), (32, .q 0), (33, .q 0), (34, .q 0), (35, .q 0), (36, .q 0), (37, .q 0), (38, .q 0), (39, .q 0), (40, .q 0), (41, .q 0), (42, .q 0), (43, .q 0), (44, .q 0), (45, .q 0), (46, .q 0), (47, .c 0), (48, .q 0), (49, .q 0), (50, .q 0), (51, .q 0)] (by kernel_rfl) ?_
 refine Lx_mv (v := (.int .i64 (putBlobE ([97, 98] : List UInt8)))) rfl rfl rfl (Lx_q rfl rfl (.bool true) (fun v36 hv37 => R_cmp (a := putBlobE ([97, 98] : List UInt8)) (b := 0) (r := (decide (putBlobE ([97, 98] : List UInt8) = 0))) rfl rfl rfl ⟨(boolK (by decide)), Gr.refl _ _⟩) (Lx_mv (v := (.bool true)) rfl rfl rfl ?_))
 refine Lx_qT rfl rfl rfl rfl rfl _ (fun v40 hv41 => R_move (v := (slV h9 (putBlobB ([97, 98] : List UInt8)))) rfl qk) ?_
 refine Lx_qT rfl rfl rfl rfl rfl _ (fun v42 hv43 => R_conv_bs (l := putBlobB ([97, 98] : List UInt8)) Try.underlying31 Try.underlying5 Try.underlying9 (OwnS.sl ((H33.ext hv43).getOwn 4 rfl) (fun _ => rfl)) rfl qk) ?_
 refine Lx_qT rfl rfl rfl rfl rfl (.bool true) (fun v44 hv45 => R_cmpS (a := (⟨(putBlobB ([97, 98] : List UInt8)).toArray⟩ : ByteArray)) (b := (⟨#[1, 97, 98]⟩ : ByteArray)) (r := (decide ((⟨(putBlobB ([97, 98] : List UInt8)).toArray⟩ : ByteArray) = (⟨#[1, 97, 98]⟩ : ByteArray)))) rfl rfl rfl ⟨(boolK (by decide)), Gr.refl _ _⟩) ?_
 refine Lx_q rfl rfl _ (fun v46 hv47 => R_pick (t := true) (v := (.bool true)) rfl rfl qk) (Lx_mv (v := (.bool true)) rfl rfl rfl ?_)
 refine Lx_qT rfl rfl rfl rfl rfl _ (fun v50 hv51 => R_move (v := (.int .i64 (putChangeE ({ parents := [], ph := nilH, time := 1, r := 1, ops := [], oh := nilH, tree := (mkId 9), msg := ByteArray.empty } : ChangeS)))) rfl qk) ?_
 refine Lx_qT rfl rfl rfl rfl rfl (.bool true) (fun v52 hv53 => R_cmp (a := putChangeE ({ parents := [], ph := nilH, time := 1, r := 1, ops := [], oh := nilH, tree := (mkId 9), msg := ByteArray.empty } : ChangeS)) (b := 0) (r := (decide (putChangeE ({ parents := [], ph := nilH, time := 1, r := 1, ops := [], oh := nilH, tree := (mkId 9), msg := ByteArray.empty } : ChangeS) = 0))) rfl rfl rfl ⟨(boolK (decide_eq_true (if_pos chg_ok))), Gr.refl _ _⟩) ?_
 refine Lx_q rfl rfl _ (fun v54 hv55 => R_pick (t := true) (v := (.bool true)) rfl rfl qk) (Lx_mv (v := (.bool true)) rfl rfl rfl ?_)
 refine Lx_qT rfl rfl rfl rfl rfl _ (fun v58 hv59 => R_move (v := (slV h14 (putChangeB ({ parents := [], ph := nilH, time := 1, r := 1, ops := [], oh := nilH, tree := (mkId 9), msg := ByteArray.empty } : ChangeS)))) rfl qk) ?_
 refine Lx_qT rfl rfl rfl rfl rfl _ (fun v60 hv61 => R_len_slice (a := h14.a) (n := (putChangeB ({ parents := [], ph := nilH, time := 1, r := 1, ops := [], oh := nilH, tree := (mkId 9), msg := ByteArray.empty } : ChangeS)).length) (c := h14.c) Try.underlying31 rfl qk) ?_
 refine Lx_qT rfl rfl rfl rfl rfl (.bool true) (fun v62 hv63 => R_cmp (a := (((putChangeB ({ parents := [], ph := nilH, time := 1, r := 1, ops := [], oh := nilH, tree := (mkId 9), msg := ByteArray.empty } : ChangeS)).length : Nat) : Int)) (b := 38) (r := (decide ((((putChangeB ({ parents := [], ph := nilH, time := 1, r := 1, ops := [], oh := nilH, tree := (mkId 9), msg := ByteArray.empty } : ChangeS)).length : Nat) : Int) = 38))) rfl rfl rfl ⟨(boolK (decide_eq_true chg_len)), Gr.refl _ _⟩) ?_
 refine Lx_q rfl rfl _ (fun v64 hv65 => R_pick (t := true) (v := (.bool true)) rfl rfl qk) (Lx_mv (v := (.bool true)) rfl rfl rfl ?_)
 refine Lx_qT rfl rfl rfl rfl rfl _ (fun v68 hv69 => R_move (v := (slV h14 (putChangeB ({ parents := [], ph := nilH, time := 1, r := 1, ops := [], oh := nilH, tree := (mkId 9), msg := ByteArray.empty } : ChangeS)))) rfl qk) ?_
 refine Lx_qT rfl rfl rfl rfl rfl _ (fun v70 hv71 => R_index_pure (OwnS.sl (H33.getOwn 3 rfl) (fun _ => rfl)) (n := (putChangeB ({ parents := [], ph := nilH, time := 1, r := 1, ops := [], oh := nilH, tree := (mkId 9), msg := ByteArray.empty } : ChangeS)).length) rfl (j := 0) (oo := (h14.o + 0 * 1)) Try.underlying31 Try.sizeOf5 rfl rfl (by omega) chg_ix rfl qk) ?_
 refine Lx_qT rfl rfl rfl rfl rfl _ (fun v72 hv73 => R_load1 (v := (.int .u8 ((nth (putChangeB ({ parents := [], ph := nilH, time := 1, r := 1, ops := [], oh := nilH, tree := (mkId 9), msg := ByteArray.empty } : ChangeS)) 0).toNat : Int))) Try.isAgg5 rfl ((Sl.elem (OwnS.sl ((H33.ext hv73).getOwn 3 rfl) (fun _ => rfl)) (i := 0) chg_ixn rfl).chunks 0 1 0 (h14.o + 0 * 1) _ rfl rfl rfl) qk) ?_
 refine Lx_qT rfl rfl rfl rfl rfl (.bool true) (fun v74 hv75 => R_cmp (a := ((nth (putChangeB ({ parents := [], ph := nilH, time := 1, r := 1, ops := [], oh := nilH, tree := (mkId 9), msg := ByteArray.empty } : ChangeS)) 0).toNat : Int)) (b := 3) (r := (decide (((nth (putChangeB ({ parents := [], ph := nilH, time := 1, r := 1, ops := [], oh := nilH, tree := (mkId 9), msg := ByteArray.empty } : ChangeS)) 0).toNat : Int) = 3))) rfl rfl rfl ⟨(boolK (decide_eq_true chg_first)), Gr.refl _ _⟩) ?_
 refine Lx_q rfl rfl _ (fun v76 hv77 => R_pick (t := true) (v := (.bool true)) rfl rfl qk) (Lx_mv (v := (.bool true)) rfl rfl rfl ?_)
 refine Lx_qT rfl rfl rfl rfl rfl _ (fun v80 hv81 => R_move (v := (.int .i64 (putDirE ([({ node := ({ T := 1, R := 1 } : Stamp), tm := ({ T := 1, R := 1 } : Stamp), name := (⟨#[97]⟩ : ByteArray), sub := zeroId, heads := [], hh := nilH } : ItemS)] : List ItemS)))) rfl qk) ?_
 refine Lx_qT rfl rfl rfl rfl rfl (.bool true) (fun v82 hv83 => R_cmp (a := putDirE ([({ node := ({ T := 1, R := 1 } : Stamp), tm := ({ T := 1, R := 1 } : Stamp), name := (⟨#[97]⟩ : ByteArray), sub := zeroId, heads := [], hh := nilH } : ItemS)] : List ItemS)) (b := 0) (r := (decide (putDirE ([({ node := ({ T := 1, R := 1 } : Stamp), tm := ({ T := 1, R := 1 } : Stamp), name := (⟨#[97]⟩ : ByteArray), sub := zeroId, heads := [], hh := nilH } : ItemS)] : List ItemS) = 0))) rfl rfl rfl ⟨(boolK (decide_eq_true (if_pos item_ok))), Gr.refl _ _⟩) ?_
 refine Lx_q rfl rfl _ (fun v84 hv85 => R_pick (t := true) (v := (.bool true)) rfl rfl qk) (Lx_mv (v := (.bool true)) rfl rfl rfl ?_)
 refine Lx_qT rfl rfl rfl rfl rfl _ (fun v88 hv89 => R_move (v := (slV h24 (putDirB ([({ node := ({ T := 1, R := 1 } : Stamp), tm := ({ T := 1, R := 1 } : Stamp), name := (⟨#[97]⟩ : ByteArray), sub := zeroId, heads := [], hh := nilH } : ItemS)] : List ItemS)))) rfl qk) ?_
 refine Lx_qT rfl rfl rfl rfl rfl (.int .i64 (kindOf (putDirB ([({ node := ({ T := 1, R := 1 } : Stamp), tm := ({ T := 1, R := 1 } : Stamp), name := (⟨#[97]⟩ : ByteArray), sub := zeroId, heads := [], hh := nilH } : ItemS)] : List ItemS)))) (fun v90 hv91 => R_callL (vs := [(slV h24 (putDirB ([({ node := ({ T := 1, R := 1 } : Stamp), tm := ({ T := 1, R := 1 } : Stamp), name := (⟨#[97]⟩ : ByteArray), sub := zeroId, heads := [], hh := nilH } : ItemS)] : List ItemS)))]) cF8 rfl rfl (obj_Kind h24 (putDirB ([({ node := ({ T := 1, R := 1 } : Stamp), tm := ({ T := 1, R := 1 } : Stamp), name := (⟨#[97]⟩ : ByteArray), sub := zeroId, heads := [], hh := nilH } : ItemS)] : List ItemS)) v90 ((H33.ext hv91).rowSl 1 rfl (fun _ => rfl)) item_bound)) ?_
 refine Lx_qT rfl rfl rfl rfl rfl (.bool true) (fun v92 hv93 => R_cmp (a := kindOf (putDirB ([({ node := ({ T := 1, R := 1 } : Stamp), tm := ({ T := 1, R := 1 } : Stamp), name := (⟨#[97]⟩ : ByteArray), sub := zeroId, heads := [], hh := nilH } : ItemS)] : List ItemS))) (b := 2) (r := (decide (kindOf (putDirB ([({ node := ({ T := 1, R := 1 } : Stamp), tm := ({ T := 1, R := 1 } : Stamp), name := (⟨#[97]⟩ : ByteArray), sub := zeroId, heads := [], hh := nilH } : ItemS)] : List ItemS)) = 2))) rfl rfl rfl ⟨(boolK (decide_eq_true item_kind)), Gr.refl _ _⟩) ?_
 refine Lx_q rfl rfl _ (fun v94 hv95 => R_pick (t := true) (v := (.bool true)) rfl rfl qk) (Lx_mv (v := (.bool true)) rfl rfl rfl ?_)
 refine Lx_qT rfl rfl rfl rfl rfl _ (fun v98 hv99 => R_move (v := (.int .i64 (putLabelE ({ target := (mkId 1), name := (⟨#[118]⟩ : ByteArray), msg := ByteArray.empty } : Label)))) rfl qk) ?_
 refine Lx_qT rfl rfl rfl rfl rfl (.bool true) (fun v100 hv101 => R_cmp (a := putLabelE ({ target := (mkId 1), name := (⟨#[118]⟩ : ByteArray), msg := ByteArray.empty } : Label)) (b := 0) (r := (decide (putLabelE ({ target := (mkId 1), name := (⟨#[118]⟩ : ByteArray), msg := ByteArray.empty } : Label) = 0))) rfl rfl rfl ⟨(boolK (decide_eq_true (if_pos lab_ok))), Gr.refl _ _⟩) ?_
 refine Lx_q rfl rfl _ (fun v102 hv103 => R_pick (t := true) (v := (.bool true)) rfl rfl qk) (Lx_mv (v := (.bool true)) rfl rfl rfl ?_)
 refine Lx_qT rfl rfl rfl rfl rfl _ (fun v106 hv107 => R_move (v := (slV h29 (putLabelB ({ target := (mkId 1), name := (⟨#[118]⟩ : ByteArray), msg := ByteArray.empty } : Label)))) rfl qk) ?_
 refine Lx_qT rfl rfl rfl rfl rfl (.int .i64 (kindOf (putLabelB ({ target := (mkId 1), name := (⟨#[118]⟩ : ByteArray), msg := ByteArray.empty } : Label)))) (fun v108 hv109 => R_callL (vs := [(slV h29 (putLabelB ({ target := (mkId 1), name := (⟨#[118]⟩ : ByteArray), msg := ByteArray.empty } : Label)))]) cF8 rfl rfl (obj_Kind h29 (putLabelB ({ target := (mkId 1), name := (⟨#[118]⟩ : ByteArray), msg := ByteArray.empty } : Label)) v108 ((H33.ext hv109).rowSl 0 rfl (fun _ => rfl)) lab_bound)) ?_
 refine Lx_qT rfl rfl rfl rfl rfl (.bool true) (fun v110 hv111 => R_cmp (a := kindOf (putLabelB ({ target := (mkId 1), name := (⟨#[118]⟩ : ByteArray), msg := ByteArray.empty } : Label))) (b := 4) (r := (decide (kindOf (putLabelB ({ target := (mkId 1), name := (⟨#[118]⟩ : ByteArray), msg := ByteArray.empty } : Label)) = 4))) rfl rfl rfl ⟨(boolK (decide_eq_true lab_kind)), Gr.refl _ _⟩) ?_
 refine Lx_q rfl rfl _ (fun v112 hv113 => R_pick (t := true) (v := (.bool true)) rfl rfl qk) (Lx_mv (v := (.bool true)) rfl rfl rfl ?_)
 refine Lx_qT rfl rfl rfl rfl rfl _ (fun v116 hv117 => R_move (v := (slV h14 (putChangeB ({ parents := [], ph := nilH, time := 1, r := 1, ops := [], oh := nilH, tree := (mkId 9), msg := ByteArray.empty } : ChangeS)))) rfl qk) ?_
 refine Lx_qT rfl rfl rfl rfl rfl (.int .i64 (kindOf (putChangeB ({ parents := [], ph := nilH, time := 1, r := 1, ops := [], oh := nilH, tree := (mkId 9), msg := ByteArray.empty } : ChangeS)))) (fun v118 hv119 => R_callL (vs := [(slV h14 (putChangeB ({ parents := [], ph := nilH, time := 1, r := 1, ops := [], oh := nilH, tree := (mkId 9), msg := ByteArray.empty } : ChangeS)))]) cF8 rfl rfl (obj_Kind h14 (putChangeB ({ parents := [], ph := nilH, time := 1, r := 1, ops := [], oh := nilH, tree := (mkId 9), msg := ByteArray.empty } : ChangeS)) v118 ((H33.ext hv119).rowSl 3 rfl (fun _ => rfl)) chg_bound)) ?_
 refine Lx_qT rfl rfl rfl rfl rfl (.bool true) (fun v120 hv121 => R_cmp (a := kindOf (putChangeB ({ parents := [], ph := nilH, time := 1, r := 1, ops := [], oh := nilH, tree := (mkId 9), msg := ByteArray.empty } : ChangeS))) (b := 3) (r := (decide (kindOf (putChangeB ({ parents := [], ph := nilH, time := 1, r := 1, ops := [], oh := nilH, tree := (mkId 9), msg := ByteArray.empty } : ChangeS)) = 3))) rfl rfl rfl ⟨(boolK (decide_eq_true chg_kind)), Gr.refl _ _⟩) ?_
 refine Lx_q rfl rfl _ (fun v122 hv123 => R_pick (t := true) (v := (.bool true)) rfl rfl qk) (Lx_mv (v := (.bool true)) rfl rfl rfl ?_)
 refine Lx_qT rfl rfl rfl rfl rfl _ (fun v126 hv127 => R_move (v := (slV h14 (putChangeB ({ parents := [], ph := nilH, time := 1, r := 1, ops := [], oh := nilH, tree := (mkId 9), msg := ByteArray.empty } : ChangeS)))) rfl qk) ?_
 refine Lx_cT rfl rfl rfl rfl rfl (fun w128 hw129 => ?_)
 have H130 := H33.ext hw129
 refine (R_callL (vs := [(slV h14 (putChangeB ({ parents := [], ph := nilH, time := 1, r := 1, ops := [], oh := nilH, tree := (mkId 9), msg := ByteArray.empty } : ChangeS)))]) cF15 rfl rfl ((obj_Links h14 (putChangeB ({ parents := [], ph := nilH, time := 1, r := 1, ops := [], oh := nilH, tree := (mkId 9), msg := ByteArray.empty } : ChangeS)) w128 (H130.rowSl 3 rfl (fun _ => rfl)) chg_bound chg_raw1).ret ?_))
 rintro _ w133 ⟨h131, S132, rfl, hx134, hS135, hv136⟩
 have H137 := H130.addImm hx134 (slI S132 idCh 32 h131 (links1 (putChangeB ({ parents := [], ph := nilH, time := 1, r := 1, ops := [], oh := nilH, tree := (mkId 9), msg := ByteArray.empty } : ChangeS)))) hv136 hS135
 refine ⟨GrF.ofExt hx134, ?_⟩
 refine Lx_qT rfl rfl rfl rfl rfl _ (fun v138 hv139 => R_len_slice (a := h131.a) (n := (links1 (putChangeB ({ parents := [], ph := nilH, time := 1, r := 1, ops := [], oh := nilH, tree := (mkId 9), msg := ByteArray.empty } : ChangeS))).length) (c := h131.c) Try.underlying22 rfl qk) ?_
 refine Lx_qT rfl rfl rfl rfl rfl (.bool true) (fun v140 hv141 => R_cmp (a := (((links1 (putChangeB ({ parents := [], ph := nilH, time := 1, r := 1, ops := [], oh := nilH, tree := (mkId 9), msg := ByteArray.empty } : ChangeS))).length : Nat) : Int)) (b := 1) (r := (decide ((((links1 (putChangeB ({ parents := [], ph := nilH, time := 1, r := 1, ops := [], oh := nilH, tree := (mkId 9), msg := ByteArray.empty } : ChangeS))).length : Nat) : Int) = 1))) rfl rfl rfl ⟨(boolK (decide_eq_true chg_one)), Gr.refl _ _⟩) ?_
 refine Lx_q rfl rfl _ (fun v142 hv143 => R_pick (t := true) (v := (.bool true)) rfl rfl qk) (Lx_q rfl rfl _ (fun v144 hv145 => R_assign (v := (.bool true)) rfl qk) ?_)
 refine Lx_nil (fun w146 hw147 => ?_)
 have H148 := H137.ext hw147
 refine Then_n (W_ret ?_)
 refine ret_1 (v := (.bool true)) Try.results5 rfl ?_
 exact ⟨rfl, H148.gr⟩
end Go.Proofs.Ythjdhfoeckfmbaa
namespace Go.Proofs.Ythjdhfoeckfmbaa
open Go
set_option linter.unusedVariables false
set_option linter.unusedSimpArgs false
structure Rdr {α : Type} (f : RSt → α × RSt) : Prop where
  bad : ∀ q, q.2 = true → (f q).2.2 = true
  more : ∀ l s, (f (l, false)).2.2 = false → f (l ++ s, false) = ((f (l, false)).1, ((f (l, false)).2.1 ++ s, false))
def Wr {α : Type} (f : RSt → α × RSt) (x : α) (b : List UInt8) : Prop := ∀ s, f (b ++ s, false) = (x, (s, false))
section
variable {α β : Type} {f : RSt → α × RSt} {g : α → RSt → β × RSt}
theorem Rdr.bind (F : Rdr f) (G : ∀ a, Rdr (g a)) : Rdr (fun q => g (f q).1 (f q).2) := by
  refine ⟨fun q h => (G _).bad _ (F.bad q h), fun l s h => ?_⟩
  have h1 : (f (l, false)).2.2 = false := by
    cases hb : (f (l, false)).2.2 with
    | false => rfl
    | true => rw [(G _).bad _ hb] at h; cases h
  have e := F.more l s h1
  have e2 : (f (l, false)).2 = ((f (l, false)).2.1, false) := Prod.ext rfl h1
  show g (f (l ++ s, false)).1 (f (l ++ s, false)).2 = _
  rw [e]
  have h' : (g (f (l, false)).1 ((f (l, false)).2.1, false)).2.2 = false := by rw [← e2]; exact h
  have e3 := (G (f (l, false)).1).more _ s h'
  rw [← e2] at e3
  exact e3
theorem Rdr.pure (x : α) : Rdr (fun q => (x, q)) := ⟨fun q h => h, fun l s _ => rfl⟩
theorem Wr.bind {a : α} {y : β} {b1 b2 : List UInt8} (F : Wr f a b1) (G : Wr (g a) y b2) : Wr (fun q => g (f q).1 (f q).2) y (b1 ++ b2) := by
  intro s
  show g (f (b1 ++ b2 ++ s, false)).1 (f (b1 ++ b2 ++ s, false)).2 = _
  rw [List.append_assoc, F (b2 ++ s)]
  exact G s
theorem Wr.pure (x : α) : Wr (fun q => (x, q)) x [] := fun s => rfl
end
theorem Wr_take {n : Nat} {b : List UInt8} (h : b.length = n) : Wr (fun q => rdTake q n) b b := by
  intro s
  simp only [rdTake]
  rw [if_neg (by simp only [List.length_append, Bool.false_eq_true, false_or]; omega)]
  simp only [Prod.mk.injEq, and_true]
  exact ⟨by rw [← h, List.take_left'] ; rfl, by rw [← h, List.drop_left']; rfl⟩
def mvRest (k : Nat) (t n : Stamp) (q : RSt) : OpC × RSt := (⟨(k : Int), t, n, (rdAt q).1, (rdText (rdAt q).2 60).1, zeroId, []⟩, (rdText (rdAt q).2 60).2)
def edRest (k : Nat) (t n : Stamp) (q : RSt) : OpC × RSt :=
  (⟨(k : Int), t, n, ⟨0, 0⟩, ByteArray.empty, (rdId q).1, (rdAts (rdNum (rdId q).2 64).1 [] (rdNum (rdId q).2 64).2).1⟩, (rdAts (rdNum (rdId q).2 64).1 [] (rdNum (rdId q).2 64).2).2)
def opRest (k : Nat) (t n : Stamp) (q : RSt) : OpC × RSt := if ((k : Nat) : Int) = 1 then mvRest k t n q else edRest k t n q
def opRead' (q : RSt) : OpC × RSt := opRest (rdNum q 2).1 (rdAt (rdNum q 2).2).1 (rdAt (rdAt (rdNum q 2).2).2).1 (rdAt (rdAt (rdNum q 2).2).2).2
theorem opRead_eq (q : RSt) : opRead q = opRead' q := by
  unfold opRead opRead' opRest
  split <;> rfl
def chTail (P : List ID) (t r : Nat) (O : List OpC) (q : RSt) : ChangeC × RSt := (⟨P, (t : Int), (r : Int), O, (rdId q).1, (rdText (rdId q).2 200).1⟩, (rdText (rdId q).2 200).2)
def chOps (P : List ID) (t r : Nat) (q : RSt) : ChangeC × RSt := chTail P t r (rdOps (rdNum q 64).1 [] (rdNum q 64).2).1 (rdOps (rdNum q 64).1 [] (rdNum q 64).2).2
def chRest (P : List ID) (q : RSt) : ChangeC × RSt := chOps P (rdNum q 1099511627776).1 (rdNum (rdNum q 1099511627776).2 65536).1 (rdNum (rdNum q 1099511627776).2 65536).2
def chRd (q : RSt) : ChangeC × RSt := chRest (rdIds (rdNum q 2).1 [] (rdNum q 2).2).1 (rdIds (rdNum q 2).1 [] (rdNum q 2).2).2
theorem changeRd_eq (b : List UInt8) : changeRd b = chRd (openSt b 3) := rfl
end Go.Proofs.Ythjdhfoeckfmbaa
namespace Go.Proofs.Ythjdhfoeckfmbaa
open Go
set_option linter.unusedVariables false
set_option linter.unusedSimpArgs false
theorem or_add {acc k x : Nat} (h : acc < 2 ^ (7 * k)) : acc ||| x * 2 ^ (7 * k) = acc + x * 2 ^ (7 * k) := by
  have := Nat.two_pow_add_eq_or_of_lt h x
  rw [Nat.or_comm, Nat.mul_comm x, ← this, Nat.add_comm]
theorem byte_small {u : Nat} (h : u < 128) : (UInt8.ofNat u).toNat = u := by
  rw [UInt8.toNat_ofNat']; exact Nat.mod_eq_of_lt (by omega)
theorem and_127 (b : UInt8) : (b &&& 127).toNat = b.toNat % 128 := by
  rw [UInt8.toNat_and]
  exact Nat.and_two_pow_sub_one_eq_mod b.toNat 7
theorem byte_big (u : Nat) : 127 < (UInt8.ofNat u ||| 128).toNat ∧ (UInt8.ofNat u ||| 128).toNat % 128 = u % 128 := by
  have e : (UInt8.ofNat u ||| 128).toNat = u % 256 ||| 128 := by rw [UInt8.toNat_or, UInt8.toNat_ofNat']; rfl
  rw [e]
  refine ⟨?_, ?_⟩
  · have : 128 ≤ u % 256 ||| 128 := Nat.right_le_or
    omega
  · have := Nat.or_mod_two_pow (a := u % 256) (b := 128) (n := 7)
    have h2 : (u % 256 ||| 128) % 2 ^ 7 = u % 256 % 2 ^ 7 ||| 128 % 2 ^ 7 := this
    rw [show (128 : Nat) = 2 ^ 7 from rfl] at *
    rw [h2]
    simp
theorem rdGo {most : Int} : ∀ (f k u acc : Nat) (s : List UInt8), acc < 2 ^ (7 * k) → u < 128 ^ f → 0 < f → (0 < k → 0 < u) → ((acc + u * 2 ^ (7 * k) : Nat) : Int) ≤ most → acc + u * 2 ^ (7 * k) ≤ 4611686018427387904 →
    rdNumGo most f k acc (numGo u ++ s, false) = (acc + u * 2 ^ (7 * k), (s, false))
  | 0, _, _, _, _, _, _, h, _, _, _ => by omega
  | f + 1, k, u, acc, s, ha, hu, _, hk, hm, h62 => by
    by_cases hb : 127 < u
    · rw [numGo_big hb]
      have e1 : rdTake ((UInt8.ofNat u ||| 128) :: numGo (u / 128) ++ s, false) 1 = ([UInt8.ofNat u ||| 128], (numGo (u / 128) ++ s, false)) := by simp [rdTake]
      rw [rdNumGo, e1, if_neg (by simp)]
      have hbb := byte_big u
      have e2 : nth [UInt8.ofNat u ||| 128] 0 = UInt8.ofNat u ||| 128 := rfl
      simp only [e2]
      rw [if_pos hbb.1, and_127, hbb.2, or_add ha]
      have hx : u % 128 < 128 := Nat.mod_lt _ (by decide)
      have hd : u / 128 * 128 + u % 128 = u := by omega
      have hp : 2 ^ (7 * (k + 1)) = 128 * 2 ^ (7 * k) := by rw [show 7 * (k + 1) = 7 + 7 * k from by omega, Nat.pow_add]
      have ht : acc + u % 128 * 2 ^ (7 * k) + u / 128 * 2 ^ (7 * (k + 1)) = acc + u * 2 ^ (7 * k) := by
        rw [hp]
        conv => rhs; rw [← hd]
        rw [Nat.add_mul, Nat.mul_assoc]
        omega
      have hf : 0 < f := by
        rcases Nat.eq_zero_or_pos f with h0 | h0
        · subst h0; simp at hu; omega
        · exact h0
      have := rdGo f (k + 1) (u / 128) (acc + u % 128 * 2 ^ (7 * k)) s (by
          rw [hp]
          have : u % 128 * 2 ^ (7 * k) ≤ 127 * 2 ^ (7 * k) := Nat.mul_le_mul_right _ (by omega)
          omega) (by rw [Nat.pow_succ] at hu; exact Nat.div_lt_of_lt_mul (by omega)) hf (fun _ => by omega) (by rw [ht]; exact hm) (by rw [ht]; exact h62)
      rw [this, ht]
    · rw [numGo_small hb]
      have e1 : rdTake ([UInt8.ofNat u] ++ s, false) 1 = ([UInt8.ofNat u], (s, false)) := by simp [rdTake]
      rw [rdNumGo, e1, if_neg (by simp)]
      have e2 : nth [UInt8.ofNat u] 0 = UInt8.ofNat u := rfl
      simp only [e2]
      have h8 : (UInt8.ofNat u).toNat = u := byte_small (by omega)
      rw [and_127, h8, Nat.mod_eq_of_lt (by omega : u < 128), or_add ha, if_neg hb, if_neg]
      rintro ((h | h) | h)
      · omega
      · omega
      · have := hk h.2; omega
theorem Wr_num {most n : Int} (h0 : 0 ≤ n) (h1 : n ≤ most) (h2 : n ≤ 4611686018427387904) : Wr (fun q => rdNum q most) n.toNat (numB n) := by
  intro s
  have hc : numClamp n = n.toNat := by unfold numClamp; omega
  have := rdGo (most := most) 9 0 n.toNat 0 s (by decide) (by
    have : (4611686018427387904 : Nat) < 128 ^ 9 := by decide
    omega) (by decide) (fun h => absurd h (by decide)) (by simp; omega) (by simp; omega)
  rw [numB, hc]
  show rdNumGo most 9 0 0 _ = _
  rw [this]; simp
theorem Wr_text {most : Int} {x : ByteArray} (h : ((x.size : Nat) : Int) ≤ most) (h2 : x.size ≤ 4611686018427387904) : Wr (fun q => rdText q most) x (textB x) := by
  have h1 := (Wr_num (most := most) (n := ((x.size : Nat) : Int)) (by omega) h (by omega)).bind (g := fun (n : Nat) (q : RSt) => ((⟨(rdTake q n).1.toArray⟩ : ByteArray), (rdTake q n).2)) (y := x) (b2 := x.data.toList)
    ((Wr_take (by rw [size_data']; omega)).bind (g := fun (b : List UInt8) (q : RSt) => ((⟨b.toArray⟩ : ByteArray), q)) (y := x) (b2 := []) (by intro s; simp) |> fun h => by simpa using h)
  exact h1
theorem Wr_id (d : ID) : Wr rdId d (idList d) := by
  intro s
  have := (Wr_take (idList_len d)) s
  show (idPut zeroId (rdTake (idList d ++ s, false) 32).1, (rdTake (idList d ++ s, false) 32).2) = _
  simp only at this
  rw [this]
  have e : idPut zeroId (idList d) = d := by
    apply Vector.ext
    intro i hi
    simp [idPut, idList_eq]
  rw [e]
def stOk (s : Stamp) : Prop := 0 ≤ s.T ∧ s.T ≤ 1099511627776 ∧ 0 ≤ s.R ∧ s.R ≤ 65536
theorem Wr_at {s : Stamp} (h : stOk s) : Wr rdAt s (atB s) := by
  have e : (⟨((s.T.toNat : Nat) : Int), ((s.R.toNat : Nat) : Int)⟩ : Stamp) = s := by
    cases s; simp only [Stamp.mk.injEq]; exact ⟨Int.toNat_of_nonneg h.1, Int.toNat_of_nonneg h.2.2.1⟩
  intro x
  have h1 := Wr_num (most := 1099511627776) h.1 h.2.1 (by have := h.2.1; omega) (numB s.R ++ x)
  have h2 := Wr_num (most := 65536) h.2.2.1 h.2.2.2 (by have := h.2.2.2; omega) x
  simp only at h1 h2
  unfold rdAt atB
  rw [List.append_assoc, h1, h2]
  simp only [e]
theorem Wr_ats : ∀ (l a : List Stamp), (∀ s ∈ l, stOk s) → Wr (rdAts l.length a) (a ++ l) ((l.map atB).flatten)
  | [], a, _ => by intro s; simp [rdAts]
  | x :: l, a, h => by
    intro s
    have h1 := Wr_at (h x (by simp)) ((l.map atB).flatten ++ s)
    have h2 := Wr_ats l (a ++ [x]) (fun y hy => h y (by simp [hy])) s
    simp only [List.length_cons, rdAts, List.map_cons, List.flatten_cons, List.append_assoc]
    rw [h1]
    simpa [List.append_assoc] using h2
theorem Wr_ids : ∀ (l a : List ID), Wr (rdIds l.length a) (a ++ l) ((l.map idList).flatten)
  | [], a => by intro s; simp [rdIds]
  | x :: l, a => by
    intro s
    have h1 := Wr_id x ((l.map idList).flatten ++ s)
    have h2 := Wr_ids l (a ++ [x]) s
    simp only [List.length_cons, rdIds, List.map_cons, List.flatten_cons, List.append_assoc]
    rw [h1]
    simpa [List.append_assoc] using h2
theorem right_ok {s : Stamp} (h : stRight s = true) : stOk s := by
  simp only [stRight, decide_eq_true_eq] at h
  exact ⟨by omega, by omega, by omega, by omega⟩
theorem fixed_ok {s : Stamp} (h : fixedSt s = true) : stOk s := by
  have := of_decide_eq_true h
  exact ⟨by omega, by omega, by omega, by omega⟩
theorem Wr_op {o : OpS} (h : goodOp o = true) : Wr rdOp o.core (opB o) := by
  have hg := of_decide_eq_true h
  have ht := right_ok hg.1
  have hn := right_ok hg.2.1
  have key : Wr opRead o.core (opB o) := by
    intro s
    rw [opRead_eq]
    rcases hg.2.2 with ⟨hk, hm⟩ | ⟨hk, hm⟩
    · have hm := of_decide_eq_true hm
      obtain ⟨_, hp, hnm, hd, ho⟩ := hm
      have hp : stOk o.par := hp.elim right_ok fixed_ok
      have hs : o.name.size ≤ 60 := (of_decide_eq_true hnm).2.1
      have h1 := Wr_num (most := 2) (n := o.kind) (by omega) (by omega) (by omega) (atB o.tm ++ (atB o.node ++ (atB o.par ++ (textB o.name ++ s))))
      have h2 := Wr_at ht (atB o.node ++ (atB o.par ++ (textB o.name ++ s)))
      have h3 := Wr_at hn (atB o.par ++ (textB o.name ++ s))
      have h4 := Wr_at hp (textB o.name ++ s)
      have h5 := Wr_text (most := 60) (x := o.name) (by omega) (by omega) s
      simp only at h1 h5
      rw [opB, if_pos hk, opPre]
      simp only [List.append_assoc]
      unfold opRead' opRest mvRest
      rw [h1]
      simp only [h2, h3]
      rw [if_pos (by omega)]
      simp only [h4, h5]
      refine Prod.ext ?_ rfl
      show (⟨_, _, _, _, _, _, _⟩ : OpC) = ⟨_, _, _, _, _, _, _⟩
      simp only [OpC.mk.injEq]
      refine ⟨by omega, ?_⟩
      simp [hd, List.length_eq_zero_iff.1 ho]
    · have hm := of_decide_eq_true hm
      obtain ⟨_, hp, hnm, hd, hl, ho⟩ := hm
      have hov : ∀ x ∈ o.over, stOk x := by
        intro x hx
        obtain ⟨i, hi, rfl⟩ := List.getElem_of_mem hx
        have := (ho i hi).1
        rw [nth_eq hi] at this
        exact right_ok this
      have h1 := Wr_num (most := 2) (n := o.kind) (by omega) (by omega) (by omega) (atB o.tm ++ (atB o.node ++ (idList o.data ++ (numB ((o.over.length : Nat) : Int) ++ ((o.over.map atB).flatten ++ s)))))
      have h2 := Wr_at ht (atB o.node ++ (idList o.data ++ (numB ((o.over.length : Nat) : Int) ++ ((o.over.map atB).flatten ++ s))))
      have h3 := Wr_at hn (idList o.data ++ (numB ((o.over.length : Nat) : Int) ++ ((o.over.map atB).flatten ++ s)))
      have h4 := Wr_id o.data (numB ((o.over.length : Nat) : Int) ++ ((o.over.map atB).flatten ++ s))
      have h5 := Wr_num (most := 64) (n := ((o.over.length : Nat) : Int)) (by omega) (by omega) (by omega) ((o.over.map atB).flatten ++ s)
      have h6 := Wr_ats o.over [] hov s
      simp only at h1 h5
      rw [Int.toNat_natCast] at h5
      rw [opB, if_neg (by omega), opPre]
      simp only [List.append_assoc]
      unfold opRead' opRest edRest
      rw [h1]
      simp only [h2, h3]
      rw [if_neg (by omega)]
      simp only [h4, h5, h6]
      refine Prod.ext ?_ rfl
      show (⟨_, _, _, _, _, _, _⟩ : OpC) = ⟨_, _, _, _, _, _, _⟩
      simp only [OpC.mk.injEq]
      refine ⟨by omega, ?_⟩
      simp [hp, hnm]
  intro s
  have := key s
  rw [rdOp, this, if_pos ⟨rfl, h⟩]
theorem Wr_ops : ∀ (l : List OpS) (a : List OpC), (∀ o ∈ l, goodOp o = true) → Wr (rdOps l.length a) (a ++ l.map OpS.core) ((l.map putOpB).flatten)
  | [], a, _ => by intro s; simp [rdOps]
  | x :: l, a, h => by
    intro s
    have hx := h x (by simp)
    have h1 := Wr_op hx ((l.map putOpB).flatten ++ s)
    have h2 := Wr_ops l (a ++ [x.core]) (fun y hy => h y (by simp [hy])) s
    have e : putOpB x = opB x := if_pos hx
    simp only [List.length_cons, rdOps, List.map_cons, List.flatten_cons, List.append_assoc, e]
    rw [h1]
    simpa [List.append_assoc] using h2
def chB (c : ChangeS) : List UInt8 := numB ((c.parents.length : Nat) : Int) ++ ((c.parents.map idList).flatten ++ (numB c.time ++ (numB c.r ++ (numB ((c.ops.length : Nat) : Int) ++ ((c.ops.map putOpB).flatten ++ (idList c.tree ++ textB c.msg))))))
theorem changeB_eq (c : ChangeS) : changeB c = 3 :: chB c := by
  unfold changeB opsTo parTo chB
  simp [List.take_length, List.append_assoc]
theorem change_ops {c : ChangeS} (h : changeOk c = true) : ∀ o ∈ c.ops, goodOp o = true := by
  obtain ⟨_, _, _, _, _, _, _, _, h1, _⟩ := of_decide_eq_true h
  intro o ho
  have := List.any_eq_false.1 h1 o ho
  simp only [ownOp, Bool.not_eq_true, Bool.not_eq_false', Bool.and_eq_true] at this
  exact this.1.1
theorem Wr_ch {c : ChangeS} (h : changeOk c = true) : Wr chRd c.core (chB c) := by
  have hops := change_ops h
  obtain ⟨hp, _, _, hst, hm, _, hl, _, _, _⟩ := of_decide_eq_true h
  have hs := right_ok hst
  intro s
  have t8 := Wr_text (most := 200) (x := c.msg) (by omega) (by omega) s
  have t7 := Wr_id c.tree (textB c.msg ++ s)
  have t6 := Wr_ops c.ops [] hops (idList c.tree ++ (textB c.msg ++ s))
  have t5 := Wr_num (most := 64) (n := ((c.ops.length : Nat) : Int)) (by omega) (by omega) (by omega) ((c.ops.map putOpB).flatten ++ (idList c.tree ++ (textB c.msg ++ s)))
  have t4 := Wr_num (most := 65536) (n := c.r) hs.2.2.1 hs.2.2.2 (by have := hs.2.2.2; simp only at this; omega) (numB ((c.ops.length : Nat) : Int) ++ ((c.ops.map putOpB).flatten ++ (idList c.tree ++ (textB c.msg ++ s))))
  have t3 := Wr_num (most := 1099511627776) (n := c.time) hs.1 hs.2.1 (by have := hs.2.1; simp only at this; omega) (numB c.r ++ (numB ((c.ops.length : Nat) : Int) ++ ((c.ops.map putOpB).flatten ++ (idList c.tree ++ (textB c.msg ++ s)))))
  have t2 := Wr_ids c.parents [] (numB c.time ++ (numB c.r ++ (numB ((c.ops.length : Nat) : Int) ++ ((c.ops.map putOpB).flatten ++ (idList c.tree ++ (textB c.msg ++ s))))))
  have t1 := Wr_num (most := 2) (n := ((c.parents.length : Nat) : Int)) (by omega) (by omega) (by omega) ((c.parents.map idList).flatten ++ (numB c.time ++ (numB c.r ++ (numB ((c.ops.length : Nat) : Int) ++ ((c.ops.map putOpB).flatten ++ (idList c.tree ++ (textB c.msg ++ s)))))))
  simp only at t1 t3 t4 t5 t8
  rw [Int.toNat_natCast] at t1 t5
  unfold chB chRd
  simp only [List.append_assoc]
  rw [t1]
  simp only [t2]
  unfold chRest
  rw [t3]
  simp only [t4]
  unfold chOps
  rw [t5]
  simp only [t6]
  unfold chTail
  simp only [t7, t8]
  refine Prod.ext ?_ rfl
  show (⟨_, _, _, _, _, _⟩ : ChangeC) = ⟨_, _, _, _, _, _⟩
  simp only [ChangeC.mk.injEq]
  simp [Int.toNat_of_nonneg (show 0 ≤ c.time from hs.1), Int.toNat_of_nonneg (show 0 ≤ c.r from hs.2.2.1)]
theorem open_cons (k : UInt8) (l : List UInt8) : openSt (k :: l) k = (l, false) := by
  unfold openSt
  rw [if_neg (by rintro (h | h); cases h; exact h rfl)]
  rfl
section
variable {α : Type} {f : RSt → α × RSt} {x : α} {b : List UInt8}
end
theorem putChange_ok {c : ChangeS} (h : putChangeE c = 0) : changeOk c = true := by
  unfold putChangeE at h
  split at h
  · assumption
  · omega
theorem chB_len {c : ChangeS} (h : changeOk c = true) : 0 < (putChangeB c).length ∧ (putChangeB c).length ≤ 200000 := by
  have e : putChangeB c = changeB c := if_pos h
  have h1 := change_lens h
  have h2 := numB_len ((c.parents.length : Nat) : Int); have h3 := numB_len c.time; have h4 := numB_len c.r; have h5 := numB_len ((c.ops.length : Nat) : Int); have h6 := textB_len c.msg
  have h7 := flat_len putOpB 1400 putOpB_len c.ops; have h8 := flat_len idList 32 (fun _ => by rw [idList_len]; exact Nat.le_refl _) c.parents
  rw [e, changeB_eq]
  unfold chB
  simp only [List.length_cons, List.length_append, idList_len]
  omega
end Go.Proofs.Ythjdhfoeckfmbaa
namespace Go.Proofs.Ythjdhfoeckfmbaa
open Go
set_option linter.unusedVariables false
set_option linter.unusedSimpArgs false
section
variable {n : Int} {u : Nat} {acc : List UInt8}
end
section
variable {q : RSt} {r : RdS} {most : Int} {k u : Nat}
end
section
variable {q : RSt} {r : RdS} {most : Int} {H : SlH} {v : Value}
end
section
variable {q : RSt} {r : RdS}
end
section
variable {l : Label}
end
end Go.Proofs.Ythjdhfoeckfmbaa
namespace Go.Proofs.Ythjdhfoeckfmbaa
open Go
set_option linter.unusedVariables false
set_option linter.unusedSimpArgs false
theorem Wr_head {h : Head} (ht : stOk h.tm) : Wr rdHead h (headB h) := by
  intro s
  have h1 := Wr_at ht (idList h.data ++ s)
  have h2 := Wr_id h.data s
  unfold rdHead headB
  rw [List.append_assoc, h1]
  simp only [h2]
theorem Wr_heads : ∀ (l a : List Head), (∀ h ∈ l, stOk h.tm) → Wr (rdHeads l.length a) (a ++ l) ((l.map headB).flatten)
  | [], a, _ => by intro s; simp [rdHeads]
  | x :: l, a, h => by
    intro s
    have h1 := Wr_head (h x (by simp)) ((l.map headB).flatten ++ s)
    have h2 := Wr_heads l (a ++ [x]) (fun y hy => h y (by simp [hy])) s
    simp only [List.length_cons, rdHeads, List.map_cons, List.flatten_cons, List.append_assoc]
    rw [h1]
    simpa [List.append_assoc] using h2
structure ItemFit (x : ItemS) : Prop where
  node : stOk x.node
  tm : stOk x.tm
  name : x.name.size ≤ 60
  many : x.heads.length ≤ 1000
  heads : ∀ h ∈ x.heads, stOk h.tm
theorem Wr_item {x : ItemS} (h : ItemFit x) : Wr rdItem x.core (itemB x) := by
  intro s
  have t6 := Wr_heads x.heads [] h.heads s
  have t5 := Wr_num (most := 1000) (n := ((x.heads.length : Nat) : Int)) (by omega) (by have := h.many; omega) (by have := h.many; omega) ((x.heads.map headB).flatten ++ s)
  have t4 := Wr_id x.sub (numB ((x.heads.length : Nat) : Int) ++ ((x.heads.map headB).flatten ++ s))
  have t3 := Wr_text (most := 60) (x := x.name) (by have := h.name; omega) (by have := h.name; omega) (idList x.sub ++ (numB ((x.heads.length : Nat) : Int) ++ ((x.heads.map headB).flatten ++ s)))
  have t2 := Wr_at h.tm (textB x.name ++ (idList x.sub ++ (numB ((x.heads.length : Nat) : Int) ++ ((x.heads.map headB).flatten ++ s))))
  have t1 := Wr_at h.node (atB x.tm ++ (textB x.name ++ (idList x.sub ++ (numB ((x.heads.length : Nat) : Int) ++ ((x.heads.map headB).flatten ++ s)))))
  simp only at t3 t5
  rw [Int.toNat_natCast] at t5
  have e : itemB x ++ s = atB x.node ++ (atB x.tm ++ (textB x.name ++ (idList x.sub ++ (numB ((x.heads.length : Nat) : Int) ++ ((x.heads.map headB).flatten ++ s))))) := by
    simp [itemB, itemTo, List.take_length, List.append_assoc]
  rw [e]
  unfold rdItem
  rw [t1]
  simp only [t2]
  rw [t3]
  simp only [t4]
  rw [t5]
  simp only [t6]
  rfl
theorem Wr_items : ∀ (l : List ItemS) (a : List ItemC), (∀ x ∈ l, ItemFit x) → Wr (rdItems l.length a) (a ++ l.map ItemS.core) ((l.map itemB).flatten)
  | [], a, _ => by intro s; simp [rdItems]
  | x :: l, a, h => by
    intro s
    have h1 := Wr_item (h x (by simp)) ((l.map itemB).flatten ++ s)
    have h2 := Wr_items l (a ++ [x.core]) (fun y hy => h y (by simp [hy])) s
    simp only [List.length_cons, rdItems, List.map_cons, List.flatten_cons, List.append_assoc]
    rw [h1]
    simpa [List.append_assoc] using h2
theorem item_fit {x : ItemS} (h : itemOkS x = true) : ItemFit x := by
  obtain ⟨h1, h2, _, h3, h4, h5⟩ := of_decide_eq_true h
  refine ⟨right_ok h1, right_ok h2, (of_decide_eq_true h3).2.1, h4, fun y hy => ?_⟩
  obtain ⟨i, hi, rfl⟩ := List.getElem_of_mem hy
  have := (h5 i hi).1
  rw [nth_eq hi] at this
  exact right_ok this
theorem dir_fit {l : List ItemS} (h : dirOk l = true) : ∀ x ∈ l, ItemFit x := by
  intro x hx
  obtain ⟨i, hi, rfl⟩ := List.getElem_of_mem hx
  have := ((of_decide_eq_true h).2 i hi).1
  rw [nth_eq hi] at this
  exact item_fit this
theorem dirOf_put {l : List ItemS} (h : dirOk l = true) : dirOf (putDirB l) = (l.map ItemS.core, 0) := by
  have hm := (of_decide_eq_true h).1
  have e : putDirB l = 2 :: (numB ((l.length : Nat) : Int) ++ (l.map itemB).flatten) := by
    rw [putDirB, if_pos h, dirB, dirTo, List.take_length]; simp
  have t1 := Wr_num (most := 1000) (n := ((l.length : Nat) : Int)) (by omega) (by omega) (by omega) ((l.map itemB).flatten)
  have t2 := Wr_items l [] (dir_fit h) []
  simp only at t1
  rw [Int.toNat_natCast] at t1
  rw [List.append_nil] at t2
  have hr : dirRd (putDirB l) = (l.map ItemS.core, ([], false)) := by
    rw [e, dirRd, open_cons, t1]
    simp only [t2, List.nil_append]
  rw [dirOf, hr, if_pos ⟨rfl, by rw [← dirOk_core]; exact h⟩]
theorem changeOf_put {c : ChangeS} (h : changeOk c = true) : changeOf (putChangeB c) = (c.core, 0) := by
  have e : putChangeB c = 3 :: chB c := by rw [putChangeB, if_pos h, changeB_eq]
  have t := Wr_ch h []
  rw [List.append_nil] at t
  rw [e, changeOf, changeRd_eq, open_cons, t, if_pos ⟨rfl, by rw [← changeOk_core]; exact h⟩]
end Go.Proofs.Ythjdhfoeckfmbaa
namespace Go.Proofs.Ythjdhfoeckfmbaa
open Go
set_option linter.unusedVariables false
set_option linter.unusedSimpArgs false
section
variable {q rq : RSt} {k : Nat} {acc : List Stamp} {rr : RdS} {X : OpC}
end
section
variable {n k : Nat} {acc : List Head} {q : RSt} {H : List Head × RSt} {rr : RdS}
end
section
variable {n k : Nat} {acc : List ItemS} {q : RSt} {H : List ItemC × RSt} {x : ItemS} {rr : RdS} {b : List UInt8}
end
section
variable {b : List UInt8} {q : RSt} {l : List ItemS} {v w : Value}
end
section
variable {n k : Nat} {b : List UInt8} {pacc : List ID} {oacc : List OpS} {rq rq2 q : RSt} {rr2 : RdS} {X : ChangeS}
end
end Go.Proofs.Ythjdhfoeckfmbaa
namespace Go.Proofs.Ythjdhfoeckfmbaa
open Go
set_option linter.unusedVariables false
set_option linter.unusedSimpArgs false
section
open Lib
end
section
variable {a b : ID} {k : Nat}
end
section
variable {c : ChangeS} {k : Nat}
end
section
variable {a b : OpS} {k : Nat}
end
section
variable {a b : ItemS}
end
section
variable {a b : ChangeS} {k : Nat}
end
theorem itemTo_len (x : ItemS) (k : Nat) (hk : k ≤ x.heads.length) (hn : x.name.size ≤ 60) : (itemTo x k).length ≤ 150 + 50 * k := by
  have h2 := atB_len x.tm; have h3 := atB_len x.node; have h6 := textB_len x.name
  have h4 := numB_len ((x.heads.length : Nat) : Int); have h5 := flat_len headB 50 (fun h => by have := atB_len h.tm; unfold headB; rw [List.length_append, idList_len]; omega) (x.heads.take k)
  have : (x.heads.take k).length = k := by rw [List.length_take]; omega
  unfold itemTo
  simp only [List.length_append, List.length_nil, idList_len]
  rw [this] at h5
  omega
theorem dir_lens {items : List ItemS} (h : dirOk items = true) : items.length ≤ 1000 ∧ ∀ x ∈ items, x.name.size ≤ 60 ∧ x.heads.length ≤ 1000 := by
  refine ⟨(of_decide_eq_true h).1, fun x hx => ?_⟩
  have := dir_fit h x hx
  exact ⟨this.name, this.many⟩
theorem itemB_len {x : ItemS} (h : x.name.size ≤ 60 ∧ x.heads.length ≤ 1000) : (itemB x).length ≤ 51000 := by
  have := itemTo_len x x.heads.length (Nat.le_refl _) h.1
  unfold itemB; omega
section
variable {b : List UInt8}
end
end Go.Proofs.Ythjdhfoeckfmbaa
namespace Go.Proofs.Ythjdhfoeckfmbaa
open Go
section
variable {ρ : Operand → Value}
end
end Go.Proofs.Ythjdhfoeckfmbaa
namespace Go.Proofs.Ythjdhfoeckfmbaa
open Go Go.Shelf Go.RowKit Go.Sort
set_option linter.unusedVariables false
set_option linter.unusedSimpArgs false
section
variable {α : Type} [Inhabited α] {enc : α → Chs} {k : Nat}
end
end Go.Proofs.Ythjdhfoeckfmbaa
namespace Go.Proofs.Ythjdhfoeckfmbaa
open Go
set_option linter.unusedVariables false
set_option linter.unusedSimpArgs false
section
variable {s t : List ID} {k0 kk j : Nat}
end
end Go.Proofs.Ythjdhfoeckfmbaa
namespace Go.Proofs.Ythjdhfoeckfmbaa
open Go
set_option linter.unusedVariables false
set_option linter.unusedSimpArgs false
section
variable {b : List UInt8} {acc acc2 out s N : List ID} {l : List ItemS} {X : ChangeS} {k j : Nat} {e : Int}
end
end Go.Proofs.Ythjdhfoeckfmbaa
namespace Go.Proofs.Ythjdhfoeckfmbaa
open Go
set_option linter.unusedVariables false
set_option linter.unusedSimpArgs false
section
variable {ids acc : List ID} {id : ID} {k : Nat} {dn : Bool}
end
section
variable {b : List UInt8} {l : List ItemS} {acc acc2 xs : List ID} {k j : Nat} {X : ChangeS}
variable {i : Nat} {acc3 acc4 : List ID}
end
end Go.Proofs.Ythjdhfoeckfmbaa
namespace Go.Proofs.Ythjdhfoeckfmbaa
open Go
set_option linter.unusedVariables false
set_option linter.unusedSimpArgs false
section
variable {items l : List ItemS} {e : Int}
theorem dirs_len (h : dirOk items = true) : (putDirB items).length ≤ 140737488355328 := by
  have h1 := dir_lens h
  have h2 : ∀ l : List ItemS, (∀ x ∈ l, x.name.size ≤ 60 ∧ x.heads.length ≤ 1000) → ((l.map itemB).flatten).length ≤ 51000 * l.length := by
    intro l
    induction l with
    | nil => intro _; simp
    | cons x l ih =>
      intro hx
      have a := itemB_len (hx x (by simp))
      have b := ih (fun y hy => hx y (by simp [hy]))
      simp only [List.map_cons, List.flatten_cons, List.length_append, List.length_cons]
      omega
  have h3 := h2 items h1.2
  have h4 := numB_len ((items.length : Nat) : Int)
  rw [putDirB, if_pos h, dirB, dirTo, List.take_length]
  simp only [List.length_append, List.length_cons, List.length_nil]
  omega
theorem dirs_same (h : dirOk items = true) (hr : (l.map ItemS.core, e) = dirOf (putDirB items)) : l.map ItemS.core = items.map ItemS.core := by
  rw [dirOf_put h] at hr; exact congrArg Prod.fst hr
end
section
variable {c X : ChangeS} {e : Int}
theorem chgs_same (h : changeOk c = true) (hr : (X.core, e) = changeOf (putChangeB c)) : X.core = c.core := by
  rw [changeOf_put h] at hr; exact congrArg Prod.fst hr
theorem chgs_len (h : changeOk c = true) : (putChangeB c).length ≤ 140737488355328 := by have := (chB_len h).2; omega
end
section
variable {b : List UInt8} {l l2 : List ItemS} {X Y : ChangeS} {e : Int}
end
end Go.Proofs.Ythjdhfoeckfmbaa
namespace Go.Proofs.Ythjdhfoeckfmbaa
open Go
set_option linter.unusedVariables false
set_option linter.unusedSimpArgs false
set_option linter.unusedSectionVars false
end Go.Proofs.Ythjdhfoeckfmbaa
namespace Go.Proofs.Ythjdhfoeckfmbaa
open Go
set_option linter.unusedVariables false
set_option linter.unusedSimpArgs false
set_option linter.unusedSectionVars false
section
variable {rows : List RowS} (hp : rows.Pairwise fun x y => x.node ≠ y.node) (hT : ∀ x ∈ rows, ¬ x.node.T = 0)
include hp hT
end
section
variable {rows : List RowS} (hp : rows.Pairwise fun x y => x.node ≠ y.node) (hT : ∀ x ∈ rows, ¬ x.node.T = 0)
include hp hT
end
end Go.Proofs.Ythjdhfoeckfmbaa
namespace Go.Proofs.Ythjdhfoeckfmbaa
open Go
set_option linter.unusedVariables false
set_option linter.unusedSimpArgs false
section
variable {c : ChangeS} {k j : Nat} {kv : List (ID × Bool)}
end
section
variable {b : List UInt8}
end
end Go.Proofs.Ythjdhfoeckfmbaa
namespace Go.Proofs.Ythjdhfoeckfmbaa
open Go
theorem putDir_ok {items : List ItemS} (h : putDirE items = 0) : dirOk items = true := by
  cases hh : dirOk items with
  | true => rfl
  | false => rw [putDirE, hh] at h; cases h
section
variable {items l t : List ItemS} {e : Int} {i : Nat} {x : ItemS}
theorem keeps_l (h : dirOk items = true) (hr : (l.map ItemS.core, e) = dirOf (putDirB items)) : l.length ≤ 1000 ∧ ∀ x ∈ l, x.heads.length ≤ 1000 := by
  have h1 := dirs_same h hr
  have h2 : dirOk l = true := by rw [dirOk_core, h1, ← dirOk_core]; exact h
  have h3 := dir_lens h2
  exact ⟨h3.1, fun x hx => (h3.2 x hx).2⟩
theorem keeps_set (h : ∀ x ∈ t, x.heads.length ≤ 1000) (hi : i < t.length) (hx : x.heads = (nth t i).heads) : ∀ y ∈ t.set i x, y.heads.length ≤ 1000 := fun y hy => by
  rcases List.mem_or_eq_of_mem_set hy with hy | hy
  · exact h y hy
  · rw [hy, hx]; exact h _ (nth_mem hi)
theorem keeps_at (h : ∀ x ∈ t, x.heads.length ≤ 1000) (hi : i < t.length) (hx : x.heads = (nth t i).heads) : (nth (t.set i x) i).heads.length ≤ 1000 := by
  have e : nth (t.set i x) i = x := by
    rw [nth_eq (by simpa using hi), List.getElem_set_self]
  rw [e, hx]
  exact h _ (nth_mem hi)
theorem chgs_ok {c X : ChangeS} (h : changeOk c = true) (hr : (X.core, e) = changeOf (putChangeB c)) : changeOk X = true := by
  rw [changeOk_core, chgs_same h hr, ← changeOk_core]; exact h
end
end Go.Proofs.Ythjdhfoeckfmbaa
namespace Go.Proofs.Ythjdhfoeckfmbaa
open Go
set_option maxRecDepth 100000
set_option linter.unusedVariables false
set_option linter.unusedSimpArgs false
set_option linter.unusedSectionVars false
theorem cF5 : callable Try.prog 5 = true := by kernel_rfl
set_option maxHeartbeats 4000000 in
theorem law04_ObjKeeps (hitems : SlH) (items : List ItemS) (c : ChangeS) (w : World) (Sitems : Sl (Old w) itemCh 38 hitems items w) (Ditems_heads : ∀ x ∈ items, Sl (Old w) headCh 34 x.hh x.heads w) (Sc_parents : Sl (Old w) idCh 32 c.ph c.parents w) (Sc_ops : Sl (Old w) opCh 41 c.oh c.ops w) (Dc_over : ∀ x ∈ c.ops, Sl (Old w) stampCh 2 x.oh x.over w) :
    Calls Try.prog 4 #[(slV hitems items), (aggOf (changeCh c))] w (Ret fun v w' => v = (.bool true) ∧ Ext w w') := by
 refine calls_W Try.func4 rfl Try.ntmps4 rfl ?_
 have H0 := Ctx.start w nob
 have H1 := H0.addSl _ Sitems (fun b hb => ⟨hb, fun _ ho => (nomatch ho)⟩)
 have LSitems := Sitems.len
 have H2 := H1.addImm' (deepI (Old w) headCh 34 (fun x : ItemS => x.hh) (fun x : ItemS => x.heads) items) Ditems_heads (fun b hb => ⟨hb, fun _ ho => (nomatch ho)⟩)
 have H3 := H2.addSl _ Sc_parents (fun b hb => ⟨hb, fun _ ho => (nomatch ho)⟩)
 have LSc_parents := Sc_parents.len
 have H4 := H3.addSl _ Sc_ops (fun b hb => ⟨hb, fun _ ho => (nomatch ho)⟩)
 have LSc_ops := Sc_ops.len
 have H5 := H4.addImm' (deepI (Old w) stampCh 2 (fun x : OpS => x.oh) (fun x : OpS => x.over) c.ops) Dc_over (fun b hb => ⟨hb, fun _ ho => (nomatch ho)⟩)
 refine W_seq (W_reg ?_)
 refine O_v rfl (C_box H5 [[(slV c.ph c.parents)], [(.int .i64 c.time)], [(.int .i64 c.r)], [(slV c.oh c.ops)], (idCells c.tree), [(.string c.msg)]] rfl ?_)
 intro b6 w7 hb8 hx9 H10
 refine O_as (v := (.bool false)) rfl rfl ?_
 refine O_nil (Then_n (W_seq (W_seq (W_reg ?_))))
 refine O_v rfl (R_callL (vs := []) cF5 rfl rfl ((law04_alive  w7 ).ret ?_))
 rintro _ w11 ⟨rfl, hx12⟩
 have H13 := H10.ext hx12
 refine O_v rfl (R_not rfl ?_)
 refine O_nil (Then_n ?_)
 refine W_cond_f rfl ?_
 refine W_skip (Then_n (W_seq (W_seq (W_reg ?_))))
 refine O_mv (v := (slV hitems items)) rfl rfl ?_
 refine O_v rfl (R_len_slice (a := hitems.a) (n := items.length) (c := hitems.c) Try.underlying39 rfl ?_)
 refine O_v rfl (R_cmp (a := (items.length : Int)) (b := 100) (r := (decide (100 < (items.length : Int)))) rfl rfl rfl ?_)
 refine O_nil (Then_n ?_)
 refine W_cond rfl (fun hc14 => ?_) (fun hc14 => ?_)
 ·have hc14 := (of_decide_eq_true hc14)
  refine W_seq (W_reg ?_)
  refine O_as (v := (.bool true)) rfl rfl ?_
  refine O_nil (Then_n (W_ret (Then_r ?_)))
  refine ret_1 (v := (.bool true)) Try.results4 rfl ?_
  exact ⟨rfl, H13.gr⟩
 ·have hc14 := (of_decide_eq_false hc14)
  refine W_skip (Then_n (W_seq (W_seq (W_reg ?_))))
  refine O_mv (v := (slV hitems items)) rfl rfl ?_
  refine O_v rfl (R_callL (vs := [(slV hitems items)]) cF12 rfl rfl ((obj_PutDir hitems items w11 (H13.slOld 4 rfl) (H13.deepOld 3 rfl)).ret ?_))
  rintro _ w16 ⟨h15, rfl, hx17, ho18⟩
  have H19 := H13.addRow hx17 ho18
  refine O_mv (v := (.tuple #[(slV h15 (putDirB items)), (.int .i64 (putDirE items))])) rfl rfl (O_ex (v := (slV h15 (putDirB items))) rfl rfl rfl (O_ex (v := (.int .i64 (putDirE items))) rfl rfl rfl (O_as (v := (slV h15 (putDirB items))) rfl rfl ?_)))
  refine O_as (v := (.int .i64 (putDirE items))) rfl rfl ?_
  refine O_nil (Then_n (W_seq (W_reg ?_)))
  refine O_mv (v := (.int .i64 (putDirE items))) rfl rfl ?_
  refine O_v rfl (R_cmp (a := putDirE items) (b := 0) (r := (decide (putDirE items = 0))) rfl rfl rfl ?_)
  refine O_nil (Then_n ?_)
  refine W_cond rfl (fun hc20 => ?_) (fun hc20 => ?_)
  ·have hc20 := (of_decide_eq_true hc20)
   have hE := hc20
   have hD := putDir_ok hE
   have hDl := dirs_len hD
   refine W_seq (W_reg ?_)
   refine O_mv (v := (slV h15 (putDirB items))) rfl rfl ?_
   refine O_v rfl (R_conv_bs (l := putDirB items) Try.underlying31 Try.underlying5 Try.underlying9 (OwnS.sl (H19.getOwn 0 rfl) (fun _ => rfl)) rfl ?_)
   refine O_as (v := (.string (⟨(putDirB items).toArray⟩ : ByteArray))) rfl rfl ?_
   refine O_nil (Then_n (W_seq (W_reg ?_)))
   refine O_mv (v := (slV h15 (putDirB items))) rfl rfl ?_
   refine O_v rfl (R_callL (vs := [(slV h15 (putDirB items))]) cF10 rfl rfl ((obj_Dir h15 (putDirB items) w16 (H19.rowSl 0 rfl (fun _ => rfl)) hDl).ret ?_))
   rintro _ w24 ⟨h21, l22, S23, e31, rfl, hx25, ho26, hS27, hd28, hW32, hr29⟩
   have H30 := H19.addRowDeep (h := fun x : ItemS => x.hh) (f := fun x : ItemS => x.heads) hx25 ho26 hS27 hd28
   have H33 := H30.immOf 0 rfl (deepW S23 51 34 (fun x : ItemS => x.hh) (fun x : ItemS => x.heads.length) l22) (fun _ h => h) (fun _ => hW32)
   refine O_mv (v := (.tuple #[(slV h21 l22), (.int .i64 e31)])) rfl rfl (O_ex (v := (slV h21 l22)) rfl rfl rfl (O_ex (v := (.int .i64 e31)) rfl rfl rfl (O_as (v := (slV h21 l22)) rfl rfl ?_)))
   refine O_as (v := (.int .i64 e31)) rfl rfl ?_
   refine O_nil (Then_n (W_seq (W_seq (W_reg ?_))))
   refine O_mv (v := (slV h21 l22)) rfl rfl ?_
   refine O_v rfl (R_len_slice (a := h21.a) (n := l22.length) (c := h21.c) Try.underlying39 rfl ?_)
   refine O_mv (v := (.int .i64 0)) rfl rfl ?_
   refine O_nil (Then_n (W_block ?_))
   have H34 := H33.pick (B' := [rowR 49 38 itemCh h21 l22, rowR 5 1 encB h15 (putDirB items), boxR b6 27 [[(slV c.ph c.parents)], [(.int .i64 c.time)], [(.int .i64 c.r)], [(slV c.oh c.ops)], (idCells c.tree), [(.string c.msg)]]]) (I' := [deepW S23 51 34 (fun x : ItemS => x.hh) (fun x : ItemS => x.heads.length) l22, deepI (Old w) stampCh 2 (fun x : OpS => x.oh) (fun x : OpS => x.over) c.ops, slI (Old w) opCh 41 c.oh c.ops, slI (Old w) idCh 32 c.ph c.parents, deepI (Old w) headCh 34 (fun x : ItemS => x.hh) (fun x : ItemS => x.heads) items, slI (Old w) itemCh 38 hitems items]) [0, 1, 2] (by decide) rfl (List.forall_mem_cons.2 ⟨List.mem_of_getElem? (i := 0) rfl, (List.forall_mem_cons.2 ⟨List.mem_of_getElem? (i := 2) rfl, (List.forall_mem_cons.2 ⟨List.mem_of_getElem? (i := 3) rfl, (List.forall_mem_cons.2 ⟨List.mem_of_getElem? (i := 4) rfl, (List.forall_mem_cons.2 ⟨List.mem_of_getElem? (i := 5) rfl, (List.forall_mem_cons.2 ⟨List.mem_of_getElem? (i := 6) rfl, (fun _ h => (nomatch h))⟩)⟩)⟩)⟩)⟩)⟩)
   refine W_loop (fun m35 e36 w37 => ∃ (i : Nat), ∃ (t : List ItemS), m35 = l22.length - i ∧ (i ≤ l22.length) ∧ (t.length = l22.length) ∧ (∀ x ∈ t, x.heads.length ≤ 1000) ∧ ∃ eb38, e36 = envL [(0, (slV hitems items)), (3, (.pointer (some ⟨b6, 0, none⟩))), (4, (.bool false)), (5, (slV h15 (putDirB items))), (7, (.string (⟨(putDirB items).toArray⟩ : ByteArray))), (8, (slV h21 l22)), (44, (.int .i64 (l22.length : Int))), (45, (.int .i64 (i : Int)))] eb38 ∧ Ctx w nob w37 [rowR 49 38 itemCh h21 t, rowR 5 1 encB h15 (putDirB items), boxR b6 27 [[(slV c.ph c.parents)], [(.int .i64 c.time)], [(.int .i64 c.r)], [(slV c.oh c.ops)], (idCells c.tree), [(.string c.msg)]]] [deepW S23 51 34 (fun x : ItemS => x.hh) (fun x : ItemS => x.heads.length) t, deepI (Old w) stampCh 2 (fun x : OpS => x.oh) (fun x : OpS => x.over) c.ops, slI (Old w) opCh 41 c.oh c.ops, slI (Old w) idCh 32 c.ph c.parents, deepI (Old w) headCh 34 (fun x : ItemS => x.hh) (fun x : ItemS => x.heads) items, slI (Old w) itemCh 38 hitems items]) _ ⟨0, l22, rfl, (by omega), rfl, (keeps_l hD hr29).2, _, envL_self ⟨rfl, rfl, rfl, rfl, rfl, rfl, rfl, rfl, trivial⟩, H34⟩ ?_
   rintro m35 _ w37 ⟨i, t, rfl, hi, hlt, hhl, eb38, rfl, H39⟩
   refine W_seq (W_reg ?_)
   refine O_v rfl (R_cmp (a := (i : Int)) (b := (l22.length : Int)) (r := (decide ((i : Int) < (l22.length : Int)))) rfl rfl rfl ?_)
   refine O_nil (Then_n (W_seq ?_))
   refine W_cond rfl (fun hc40 => ?_) (fun hc40 => ?_)
   ·have hc40 := (of_decide_eq_true hc40)
    refine W_skip (Then_n (W_seq (W_block (W_seq (W_reg ?_)))))
    refine O_mv (v := (.int .i64 (i : Int))) rfl rfl (O_as (v := (.int .i64 (i : Int))) rfl rfl ?_)
    refine O_nil (Then_n (W_seq (W_reg ?_)))
    refine O_mv (v := (slV h21 l22)) rfl rfl (O_mv (v := (.int .i64 (i : Int))) rfl rfl ?_)
    refine O_v rfl (R_index_pure (OwnS.sl (H39.getOwn 0 rfl) (fun _ => rfl)) (n := l22.length) (by first | omega | (simp only [List.length_set]; omega)) (j := (i : Int)) (oo := (h21.o + i * 38)) Try.underlying39 Try.sizeOf49 rfl rfl (by omega) (by first | omega | (simp only [List.length_set]; omega)) rfl ?_)
    refine O_v rfl (R_fieldAddr (off := 4) (oo := ((h21.o + i * 38) + 4)) Try.underlying49 rfl rfl Try.sizeOf9 rfl rfl ?_)
    refine O_u (C_storeEl H39 0 rfl (j := i) (v := (.string (⟨#[116, 117, 114, 110, 101, 100]⟩ : ByteArray))) ({ node := ((nth t i).node), tm := ((nth t i).tm), name := (⟨#[116, 117, 114, 110, 101, 100]⟩ : ByteArray), sub := (nth t i).sub, heads := (nth t i).heads, hh := (nth t i).hh } : ItemS) ([[(.int .i64 (((nth t i).node).T))], [(.int .i64 (((nth t i).node).R))], [(.int .i64 (((nth t i).tm).T))], [(.int .i64 (((nth t i).tm).R))]]).flatten ([[(.string ((nth t i).name))]]).flatten ([(idCells ((nth t i).sub)), [(slV ((nth t i).hh) ((nth t i).heads))]]).flatten ([[(.string (⟨#[116, 117, 114, 110, 101, 100]⟩ : ByteArray))]]).flatten (fun _ => rfl) (by first | omega | (simp only [List.length_set]; omega)) Try.sizeOf9 rfl rfl rfl rfl rfl rfl rfl rfl rfl ?_)
    intro w41 hg42 H43
    have H44 := H43.immOf 0 rfl (deepW S23 51 34 (fun x : ItemS => x.hh) (fun x : ItemS => x.heads.length) (t.set i ({ node := ((nth t i).node), tm := ((nth t i).tm), name := (⟨#[116, 117, 114, 110, 101, 100]⟩ : ByteArray), sub := (nth t i).sub, heads := (nth t i).heads, hh := (nth t i).hh } : ItemS))) (fun _ h => h) (deepW_set (by first | omega | (simp only [List.length_set]; omega)) rfl rfl)
    refine O_nil (Then_n (W_seq (W_reg ?_)))
    refine O_mv (v := (slV h21 l22)) rfl rfl (O_mv (v := (.int .i64 (i : Int))) rfl rfl ?_)
    refine O_v rfl (R_index_pure (OwnS.sl (H44.getOwn 0 rfl) (fun _ => rfl)) (n := l22.length) (by first | omega | (simp only [List.length_set]; omega)) (j := (i : Int)) (oo := (h21.o + i * 38)) Try.underlying39 Try.sizeOf49 rfl rfl (by omega) (by first | omega | (simp only [List.length_set]; omega)) rfl ?_)
    refine O_v rfl (R_fieldAddr (off := 37) (oo := ((h21.o + i * 38) + 37)) Try.underlying49 rfl rfl Try.sizeOf47 rfl rfl ?_)
    refine O_v rfl (R_load1 (v := (slV ((nth (t.set i ({ node := ((nth t i).node), tm := ((nth t i).tm), name := (⟨#[116, 117, 114, 110, 101, 100]⟩ : ByteArray), sub := (nth t i).sub, heads := (nth t i).heads, hh := (nth t i).hh } : ItemS)) i).hh) ((nth (t.set i ({ node := ((nth t i).node), tm := ((nth t i).tm), name := (⟨#[116, 117, 114, 110, 101, 100]⟩ : ByteArray), sub := (nth t i).sub, heads := (nth t i).heads, hh := (nth t i).hh } : ItemS)) i).heads))) Try.isAgg47 rfl ((Sl.elem (OwnS.sl (H44.getOwn 0 rfl) (fun _ => rfl)) (i := i) (by first | omega | (simp only [List.length_set]; omega)) rfl).chunks 6 1 37 ((h21.o + i * 38) + 37) _ rfl rfl rfl) ?_)
    refine O_v rfl (R_len_slice (a := ((nth (t.set i ({ node := ((nth t i).node), tm := ((nth t i).tm), name := (⟨#[116, 117, 114, 110, 101, 100]⟩ : ByteArray), sub := (nth t i).sub, heads := (nth t i).heads, hh := (nth t i).hh } : ItemS)) i).hh).a) (n := ((nth (t.set i ({ node := ((nth t i).node), tm := ((nth t i).tm), name := (⟨#[116, 117, 114, 110, 101, 100]⟩ : ByteArray), sub := (nth t i).sub, heads := (nth t i).heads, hh := (nth t i).hh } : ItemS)) i).heads).length) (c := ((nth (t.set i ({ node := ((nth t i).node), tm := ((nth t i).tm), name := (⟨#[116, 117, 114, 110, 101, 100]⟩ : ByteArray), sub := (nth t i).sub, heads := (nth t i).heads, hh := (nth t i).hh } : ItemS)) i).hh).c) Try.underlying47 rfl ?_)
    refine O_mv (v := (.int .i64 0)) rfl rfl ?_
    refine O_nil (Then_n (W_block ?_))
    have H45 := H44.pick (B' := [rowR 49 38 itemCh h21 (t.set i ({ node := ((nth t i).node), tm := ((nth t i).tm), name := (⟨#[116, 117, 114, 110, 101, 100]⟩ : ByteArray), sub := (nth t i).sub, heads := (nth t i).heads, hh := (nth t i).hh } : ItemS)), rowR 5 1 encB h15 (putDirB items), boxR b6 27 [[(slV c.ph c.parents)], [(.int .i64 c.time)], [(.int .i64 c.r)], [(slV c.oh c.ops)], (idCells c.tree), [(.string c.msg)]]]) (I' := [deepW S23 51 34 (fun x : ItemS => x.hh) (fun x : ItemS => x.heads.length) (t.set i ({ node := ((nth t i).node), tm := ((nth t i).tm), name := (⟨#[116, 117, 114, 110, 101, 100]⟩ : ByteArray), sub := (nth t i).sub, heads := (nth t i).heads, hh := (nth t i).hh } : ItemS)), deepI (Old w) stampCh 2 (fun x : OpS => x.oh) (fun x : OpS => x.over) c.ops, slI (Old w) opCh 41 c.oh c.ops, slI (Old w) idCh 32 c.ph c.parents, deepI (Old w) headCh 34 (fun x : ItemS => x.hh) (fun x : ItemS => x.heads) items, slI (Old w) itemCh 38 hitems items]) [0, 1, 2] (by decide) rfl (List.forall_mem_cons.2 ⟨List.mem_of_getElem? (i := 0) rfl, (List.forall_mem_cons.2 ⟨List.mem_of_getElem? (i := 2) rfl, (List.forall_mem_cons.2 ⟨List.mem_of_getElem? (i := 3) rfl, (List.forall_mem_cons.2 ⟨List.mem_of_getElem? (i := 4) rfl, (List.forall_mem_cons.2 ⟨List.mem_of_getElem? (i := 5) rfl, (List.forall_mem_cons.2 ⟨List.mem_of_getElem? (i := 6) rfl, (fun _ h => (nomatch h))⟩)⟩)⟩)⟩)⟩)⟩)
    refine W_loop (fun m46 e47 w48 => ∃ (k : Nat), m46 = ((nth (t.set i ({ node := ((nth t i).node), tm := ((nth t i).tm), name := (⟨#[116, 117, 114, 110, 101, 100]⟩ : ByteArray), sub := (nth t i).sub, heads := (nth t i).heads, hh := (nth t i).hh } : ItemS)) i).heads).length - k ∧ (k ≤ ((nth (t.set i ({ node := ((nth t i).node), tm := ((nth t i).tm), name := (⟨#[116, 117, 114, 110, 101, 100]⟩ : ByteArray), sub := (nth t i).sub, heads := (nth t i).heads, hh := (nth t i).hh } : ItemS)) i).heads).length) ∧ (((nth (t.set i ({ node := ((nth t i).node), tm := ((nth t i).tm), name := (⟨#[116, 117, 114, 110, 101, 100]⟩ : ByteArray), sub := (nth t i).sub, heads := (nth t i).heads, hh := (nth t i).hh } : ItemS)) i).heads).length ≤ 1000) ∧ ∃ eb49, e47 = envL [(0, (slV hitems items)), (3, (.pointer (some ⟨b6, 0, none⟩))), (4, (.bool false)), (5, (slV h15 (putDirB items))), (7, (.string (⟨(putDirB items).toArray⟩ : ByteArray))), (8, (slV h21 l22)), (10, (.int .i64 (i : Int))), (44, (.int .i64 (l22.length : Int))), (45, (.int .i64 (i : Int))), (46, (.bool (decide ((i : Int) < (l22.length : Int))))), (47, (.int .i64 (i : Int))), (48, (slV h21 l22)), (49, (.int .i64 (i : Int))), (50, (.pointer (some ⟨h21.b, (h21.o + i * 38), none⟩))), (51, (.pointer (some ⟨h21.b, ((h21.o + i * 38) + 4), none⟩))), (52, (slV h21 l22)), (53, (.int .i64 (i : Int))), (54, (.pointer (some ⟨h21.b, (h21.o + i * 38), none⟩))), (55, (.pointer (some ⟨h21.b, ((h21.o + i * 38) + 37), none⟩))), (56, (slV ((nth (t.set i ({ node := ((nth t i).node), tm := ((nth t i).tm), name := (⟨#[116, 117, 114, 110, 101, 100]⟩ : ByteArray), sub := (nth t i).sub, heads := (nth t i).heads, hh := (nth t i).hh } : ItemS)) i).hh) ((nth (t.set i ({ node := ((nth t i).node), tm := ((nth t i).tm), name := (⟨#[116, 117, 114, 110, 101, 100]⟩ : ByteArray), sub := (nth t i).sub, heads := (nth t i).heads, hh := (nth t i).hh } : ItemS)) i).heads))), (57, (.int .i64 ((((nth (t.set i ({ node := ((nth t i).node), tm := ((nth t i).tm), name := (⟨#[116, 117, 114, 110, 101, 100]⟩ : ByteArray), sub := (nth t i).sub, heads := (nth t i).heads, hh := (nth t i).hh } : ItemS)) i).heads).length : Nat) : Int))), (58, (.int .i64 (k : Int)))] eb49 ∧ Ctx w nob w48 [rowR 49 38 itemCh h21 (t.set i ({ node := ((nth t i).node), tm := ((nth t i).tm), name := (⟨#[116, 117, 114, 110, 101, 100]⟩ : ByteArray), sub := (nth t i).sub, heads := (nth t i).heads, hh := (nth t i).hh } : ItemS)), rowR 5 1 encB h15 (putDirB items), boxR b6 27 [[(slV c.ph c.parents)], [(.int .i64 c.time)], [(.int .i64 c.r)], [(slV c.oh c.ops)], (idCells c.tree), [(.string c.msg)]]] [deepW S23 51 34 (fun x : ItemS => x.hh) (fun x : ItemS => x.heads.length) (t.set i ({ node := ((nth t i).node), tm := ((nth t i).tm), name := (⟨#[116, 117, 114, 110, 101, 100]⟩ : ByteArray), sub := (nth t i).sub, heads := (nth t i).heads, hh := (nth t i).hh } : ItemS)), deepI (Old w) stampCh 2 (fun x : OpS => x.oh) (fun x : OpS => x.over) c.ops, slI (Old w) opCh 41 c.oh c.ops, slI (Old w) idCh 32 c.ph c.parents, deepI (Old w) headCh 34 (fun x : ItemS => x.hh) (fun x : ItemS => x.heads) items, slI (Old w) itemCh 38 hitems items]) _ ⟨0, rfl, (by omega), (keeps_at hhl (by omega) rfl), _, envL_self ⟨rfl, rfl, rfl, rfl, rfl, rfl, rfl, rfl, rfl, rfl, rfl, rfl, rfl, rfl, rfl, rfl, rfl, rfl, rfl, rfl, rfl, rfl, trivial⟩, H45⟩ ?_
    rintro m46 _ w48 ⟨k, rfl, hk, hkb, eb49, rfl, H50⟩
    refine W_seq (W_reg ?_)
    refine O_v rfl (R_cmp (a := (k : Int)) (b := ((((nth (t.set i ({ node := ((nth t i).node), tm := ((nth t i).tm), name := (⟨#[116, 117, 114, 110, 101, 100]⟩ : ByteArray), sub := (nth t i).sub, heads := (nth t i).heads, hh := (nth t i).hh } : ItemS)) i).heads).length : Nat) : Int)) (r := (decide ((k : Int) < ((((nth (t.set i ({ node := ((nth t i).node), tm := ((nth t i).tm), name := (⟨#[116, 117, 114, 110, 101, 100]⟩ : ByteArray), sub := (nth t i).sub, heads := (nth t i).heads, hh := (nth t i).hh } : ItemS)) i).heads).length : Nat) : Int)))) rfl rfl rfl ?_)
    refine O_nil (Then_n (W_seq ?_))
    refine W_cond rfl (fun hc51 => ?_) (fun hc51 => ?_)
    ·have hc51 := (of_decide_eq_true hc51)
     refine W_skip (Then_n (W_seq (W_block (W_seq (W_reg ?_)))))
     refine O_mv (v := (.int .i64 (k : Int))) rfl rfl (O_as (v := (.int .i64 (k : Int))) rfl rfl ?_)
     refine O_nil (Then_n (W_reg ?_))
     refine O_mv (v := (slV h21 l22)) rfl rfl (O_mv (v := (.int .i64 (i : Int))) rfl rfl ?_)
     refine O_v rfl (R_index_pure (OwnS.sl (H50.getOwn 0 rfl) (fun _ => rfl)) (n := l22.length) (by first | omega | (simp only [List.length_set]; omega)) (j := (i : Int)) (oo := (h21.o + i * 38)) Try.underlying39 Try.sizeOf49 rfl rfl (by omega) (by first | omega | (simp only [List.length_set]; omega)) rfl ?_)
     refine O_v rfl (R_fieldAddr (off := 37) (oo := ((h21.o + i * 38) + 37)) Try.underlying49 rfl rfl Try.sizeOf47 rfl rfl ?_)
     refine O_v rfl (R_load1 (v := (slV ((nth (t.set i ({ node := ((nth t i).node), tm := ((nth t i).tm), name := (⟨#[116, 117, 114, 110, 101, 100]⟩ : ByteArray), sub := (nth t i).sub, heads := (nth t i).heads, hh := (nth t i).hh } : ItemS)) i).hh) ((nth (t.set i ({ node := ((nth t i).node), tm := ((nth t i).tm), name := (⟨#[116, 117, 114, 110, 101, 100]⟩ : ByteArray), sub := (nth t i).sub, heads := (nth t i).heads, hh := (nth t i).hh } : ItemS)) i).heads))) Try.isAgg47 rfl ((Sl.elem (OwnS.sl (H50.getOwn 0 rfl) (fun _ => rfl)) (i := i) (by first | omega | (simp only [List.length_set]; omega)) rfl).chunks 6 1 37 ((h21.o + i * 38) + 37) _ rfl rfl rfl) ?_)
     refine O_mv (v := (.int .i64 (k : Int))) rfl rfl ?_
     refine O_v rfl (R_buildL (vs := [(0, (.int .u8 99))]) (v := aggOf [(idCells (mkId 99))]) rfl (fun _ => by kernel_rfl) ?_)
     refine O_v rfl (R_index_shp (H50.getImm 0 rfl _ (nth_mem (by first | omega | (simp only [List.length_set]; omega)))) (j := (k : Int)) (oo := (((nth (t.set i ({ node := ((nth t i).node), tm := ((nth t i).tm), name := (⟨#[116, 117, 114, 110, 101, 100]⟩ : ByteArray), sub := (nth t i).sub, heads := (nth t i).heads, hh := (nth t i).hh } : ItemS)) i).hh).o + k * 34)) Try.underlying47 Try.sizeOf51 rfl rfl (by omega) (by first | omega | (simp only [List.length_set]; omega)) rfl ?_)
     refine O_v rfl (R_fieldAddr (off := 2) (oo := ((((nth (t.set i ({ node := ((nth t i).node), tm := ((nth t i).tm), name := (⟨#[116, 117, 114, 110, 101, 100]⟩ : ByteArray), sub := (nth t i).sub, heads := (nth t i).heads, hh := (nth t i).hh } : ItemS)) i).hh).o + k * 34) + 2)) Try.underlying51 rfl rfl Try.sizeOf25 rfl rfl ?_)
     refine O_u (C_storeShp H50 0 rfl (nth_mem (by first | omega | (simp only [List.length_set]; omega))) (i := k) (q := 2) (by omega) (by decide) Try.sizeOf25 rfl rfl rfl rfl rfl rfl (fun b hb => Nat.le_trans H19.gr.size (hS27 b hb).1) [deepI (Old w) stampCh 2 (fun x : OpS => x.oh) (fun x : OpS => x.over) c.ops, slI (Old w) opCh 41 c.oh c.ops, slI (Old w) idCh 32 c.ph c.parents, deepI (Old w) headCh 34 (fun x : ItemS => x.hh) (fun x : ItemS => x.heads) items, slI (Old w) itemCh 38 hitems items] (List.forall_mem_cons.2 ⟨⟨List.mem_of_getElem? (i := 1) rfl, fun _ h => h⟩, (List.forall_mem_cons.2 ⟨⟨List.mem_of_getElem? (i := 2) rfl, fun _ h => h⟩, (List.forall_mem_cons.2 ⟨⟨List.mem_of_getElem? (i := 3) rfl, fun _ h => h⟩, (List.forall_mem_cons.2 ⟨⟨List.mem_of_getElem? (i := 4) rfl, fun _ h => h⟩, (List.forall_mem_cons.2 ⟨⟨List.mem_of_getElem? (i := 5) rfl, fun _ h => h⟩, (fun _ h => (nomatch h))⟩)⟩)⟩)⟩)⟩) ?_)
     intro w52 hg53 H54
     refine O_nil (Blk_n (Then_n (W_reg ?_)))
     refine O_v rfl (R_arith (a := (k : Int)) (b := 1) (r0 := (k : Int) + 1) (r := ((k + 1 : Nat) : Int)) rfl rfl rfl (wrapN _ (by have h1 := keeps_l hD hr29; omega)) ?_)
     refine O_mv (v := (.int .i64 ((k + 1 : Nat) : Int))) rfl rfl ?_
     refine O_nil (Then_n ?_)
     refine ⟨_, ?_, (k + 1), rfl, (by omega), hkb, _, envL_self ⟨rfl, rfl, rfl, rfl, rfl, rfl, rfl, rfl, rfl, rfl, rfl, rfl, rfl, rfl, rfl, rfl, rfl, rfl, rfl, rfl, rfl, rfl, trivial⟩, H54⟩
     omega
    ·have hc51 := (of_decide_eq_false hc51)
     refine W_exit (Then_x (Then_x (Blk_x (Blk_n (Then_n (W_reg ?_))))))
     refine O_v rfl (R_arith (a := (i : Int)) (b := 1) (r0 := (i : Int) + 1) (r := ((i + 1 : Nat) : Int)) rfl rfl rfl (wrapN _ (by have h1 := keeps_l hD hr29; omega)) ?_)
     refine O_mv (v := (.int .i64 ((i + 1 : Nat) : Int))) rfl rfl ?_
     refine O_nil (Then_n ?_)
     refine ⟨_, ?_, (i + 1), (t.set i ({ node := ((nth t i).node), tm := ((nth t i).tm), name := (⟨#[116, 117, 114, 110, 101, 100]⟩ : ByteArray), sub := (nth t i).sub, heads := (nth t i).heads, hh := (nth t i).hh } : ItemS)), rfl, (by omega), (by simp only [List.length_set]; exact hlt), (keeps_set hhl (by omega) rfl), _, envL_self ⟨rfl, rfl, rfl, rfl, rfl, rfl, rfl, rfl, trivial⟩, H50⟩
     omega
   ·have hc40 := (of_decide_eq_false hc40)
    refine W_exit (Then_x (Then_x (Blk_x (Then_n (W_seq (W_reg ?_))))))
    refine O_mv (v := (slV hitems items)) rfl rfl ?_
    refine O_v rfl (R_callL (vs := [(slV hitems items)]) cF12 rfl rfl ((obj_PutDir hitems items w37 (H39.slOld 5 rfl) (H39.deepOld 4 rfl)).ret ?_))
    rintro _ w56 ⟨h55, rfl, hx57, ho58⟩
    have H59 := H39.addRow hx57 ho58
    refine O_mv (v := (.tuple #[(slV h55 (putDirB items)), (.int .i64 (putDirE items))])) rfl rfl (O_ex (v := (slV h55 (putDirB items))) rfl rfl rfl (O_ex (v := (.int .i64 (putDirE items))) rfl rfl rfl (O_as (v := (slV h55 (putDirB items))) rfl rfl ?_)))
    refine O_as (v := (.int .i64 (putDirE items))) rfl rfl ?_
    refine O_nil (Then_n (W_seq (W_reg ?_)))
    refine O_mv (v := (.int .i64 (putDirE items))) rfl rfl ?_
    refine O_k rfl (.bool false) (R_cmp (a := putDirE items) (b := 0) (r := (!(decide (putDirE items = 0)))) rfl rfl rfl ⟨(congrArg Value.bool (by rw [hE]; rfl)), Gr.refl _ _⟩) (fun w60 hx61 => ?_)
    have H62 := H59.ext hx61
    refine O_mv (v := (.bool false)) rfl rfl ?_
    refine O_vT rfl rfl rfl rfl (R_move (v := (slV h55 (putDirB items))) rfl ?_)
    refine O_vT rfl rfl rfl rfl (R_conv_bs (l := putDirB items) Try.underlying31 Try.underlying5 Try.underlying9 (OwnS.sl (H62.getOwn 0 rfl) (fun _ => rfl)) rfl ?_)
    refine O_vT rfl rfl rfl rfl (R_move (v := (.string (⟨(putDirB items).toArray⟩ : ByteArray))) rfl ?_)
    refine O_kT rfl rfl rfl rfl (.bool false) (R_cmpS (a := (⟨(putDirB items).toArray⟩ : ByteArray)) (b := (⟨(putDirB items).toArray⟩ : ByteArray)) (r := (!(decide ((⟨(putDirB items).toArray⟩ : ByteArray) = (⟨(putDirB items).toArray⟩ : ByteArray))))) rfl rfl rfl ⟨(congrArg Value.bool (by simp)), Gr.refl _ _⟩) (fun w63 hx64 => ?_)
    have H65 := H62.ext hx64
    refine O_v rfl (R_pick (t := false) (v := (.bool false)) rfl rfl ?_)
    refine O_mv (v := (.bool false)) rfl rfl ?_
    refine O_vT rfl rfl rfl rfl (R_move (v := (slV h15 (putDirB items))) rfl ?_)
    refine O_vT rfl rfl rfl rfl (R_conv_bs (l := putDirB items) Try.underlying31 Try.underlying5 Try.underlying9 (OwnS.sl (H65.getOwn 2 rfl) (fun _ => rfl)) rfl ?_)
    refine O_vT rfl rfl rfl rfl (R_move (v := (.string (⟨(putDirB items).toArray⟩ : ByteArray))) rfl ?_)
    refine O_kT rfl rfl rfl rfl (.bool false) (R_cmpS (a := (⟨(putDirB items).toArray⟩ : ByteArray)) (b := (⟨(putDirB items).toArray⟩ : ByteArray)) (r := (!(decide ((⟨(putDirB items).toArray⟩ : ByteArray) = (⟨(putDirB items).toArray⟩ : ByteArray))))) rfl rfl rfl ⟨(congrArg Value.bool (by simp)), Gr.refl _ _⟩) (fun w66 hx67 => ?_)
    have H68 := H65.ext hx67
    refine O_v rfl (R_pick (t := false) (v := (.bool false)) rfl rfl ?_)
    refine O_nil (Then_n ?_)
    refine W_cond_f rfl ?_
    refine W_skip (Then_n (W_seq (W_seq (W_reg ?_))))
    refine O_v rfl (R_loadA (cs := [[(slV c.ph c.parents)], [(.int .i64 c.time)], [(.int .i64 c.r)], [(slV c.oh c.ops)], (idCells c.tree), [(.string c.msg)]]) Try.isAgg27 Try.sizeOf27 rfl rfl (H68.bx 3 rfl 0 6 0 0 _ rfl rfl rfl) ?_)
    refine O_v rfl (R_callL (vs := [(aggOf (changeCh c))]) cF6 rfl rfl ((obj_PutChange c w66 (H68.slOld 3 rfl) (H68.slOld 2 rfl) (H68.deepOld 1 rfl)).ret ?_))
    rintro _ w70 ⟨h69, rfl, hx71, ho72⟩
    have H73 := H68.addRow hx71 ho72
    refine O_mv (v := (.tuple #[(slV h69 (putChangeB c)), (.int .i64 (putChangeE c))])) rfl rfl (O_ex (v := (slV h69 (putChangeB c))) rfl rfl rfl (O_ex (v := (.int .i64 (putChangeE c))) rfl rfl rfl (O_as (v := (slV h69 (putChangeB c))) rfl rfl ?_)))
    refine O_as (v := (.int .i64 (putChangeE c))) rfl rfl ?_
    refine O_nil (Then_n (W_seq (W_reg ?_)))
    refine O_mv (v := (.int .i64 (putChangeE c))) rfl rfl ?_
    refine O_v rfl (R_cmp (a := putChangeE c) (b := 0) (r := (decide (putChangeE c = 0))) rfl rfl rfl ?_)
    refine O_nil (Then_n ?_)
    refine W_cond rfl (fun hc74 => ?_) (fun hc74 => ?_)
    ·have hc74 := (of_decide_eq_true hc74)
     have hF := hc74
     have hC := putChange_ok hF
     have hCl := chgs_len hC
     refine W_seq (W_reg ?_)
     refine O_mv (v := (slV h69 (putChangeB c))) rfl rfl ?_
     refine O_v rfl (R_conv_bs (l := putChangeB c) Try.underlying31 Try.underlying5 Try.underlying9 (OwnS.sl (H73.getOwn 0 rfl) (fun _ => rfl)) rfl ?_)
     refine O_as (v := (.string (⟨(putChangeB c).toArray⟩ : ByteArray))) rfl rfl ?_
     refine O_nil (Then_n (W_seq (W_reg ?_)))
     refine O_mv (v := (slV h69 (putChangeB c))) rfl rfl ?_
     refine O_v rfl (R_callL (vs := [(slV h69 (putChangeB c))]) cF13 rfl rfl ((obj_Change h69 (putChangeB c) w70 (H73.rowSl 0 rfl (fun _ => rfl)) hCl).ret ?_))
     rintro _ w78 ⟨x75, S76, e77, rfl, hx79, ho80, ho81, h82, hS83, hs84, hW85, hr86⟩
     have H87 := H73.addChg hx79 ho80 ho81 h82 hS83 (deepI S76 stampCh 2 (fun x : OpS => x.oh) (fun x : OpS => x.over) x75.ops) (fun _ h => h) hs84
     have H88 := H87.immOf 0 rfl (deepW S76 46 2 (fun x : OpS => x.oh) (fun x : OpS => x.over.length) x75.ops) (fun _ h => h) (fun _ => hW85)
     refine O_mv (v := (.tuple #[(aggOf (changeCh x75)), (.int .i64 e77)])) rfl rfl (O_ex (v := (aggOf (changeCh x75))) rfl rfl rfl (O_ex (v := (.int .i64 e77)) rfl rfl rfl ?_))
     refine O_v rfl (C_alloc H88 [[(.slice none 0 0)], [(.int .i64 0)], [(.int .i64 0)], [(.slice none 0 0)], (idCells zeroId), [(.string ByteArray.empty)]] Try.zeroValue27 ?_)
     intro b89 w90 hb91 hx92 H93
     refine O_u (C_storeW H93 0 rfl (sub := [[(slV x75.ph x75.parents)], [(.int .i64 x75.time)], [(.int .i64 x75.r)], [(slV x75.oh x75.ops)], (idCells x75.tree), [(.string x75.msg)]]) Try.sizeOf27 rfl rfl rfl rfl rfl ?_)
     intro w94 hg95 H96
     refine O_as (v := (.int .i64 e77)) rfl rfl ?_
     refine O_nil (Then_n (W_seq (W_seq (W_reg ?_))))
     refine O_v rfl (R_fieldAddr (off := 0) (oo := 0) Try.underlying27 rfl rfl Try.sizeOf22 rfl rfl ?_)
     refine O_v rfl (R_load1 (v := (slV x75.ph x75.parents)) Try.isAgg22 rfl (H96.bx 0 rfl 0 1 0 0 _ rfl rfl rfl) ?_)
     refine O_v rfl (R_len_slice (a := x75.ph.a) (n := x75.parents.length) (c := x75.ph.c) Try.underlying22 rfl ?_)
     refine O_mv (v := (.int .i64 0)) rfl rfl ?_
     refine O_nil (Then_n (W_block ?_))
     have H97 := H96.pick (B' := [boxR b89 27 [[(slV x75.ph x75.parents)], [(.int .i64 x75.time)], [(.int .i64 x75.r)], [(slV x75.oh x75.ops)], (idCells x75.tree), [(.string x75.msg)]], rowR 25 32 idCh x75.ph x75.parents, rowR 56 41 opCh x75.oh x75.ops, rowR 5 1 encB h69 (putChangeB c), rowR 5 1 encB h55 (putDirB items), rowR 49 38 itemCh h21 t, rowR 5 1 encB h15 (putDirB items), boxR b6 27 [[(slV c.ph c.parents)], [(.int .i64 c.time)], [(.int .i64 c.r)], [(slV c.oh c.ops)], (idCells c.tree), [(.string c.msg)]]]) (I' := [deepW S76 46 2 (fun x : OpS => x.oh) (fun x : OpS => x.over.length) x75.ops, deepI (Old w) stampCh 2 (fun x : OpS => x.oh) (fun x : OpS => x.over) c.ops, slI (Old w) opCh 41 c.oh c.ops, slI (Old w) idCh 32 c.ph c.parents, deepI (Old w) headCh 34 (fun x : ItemS => x.hh) (fun x : ItemS => x.heads) items, slI (Old w) itemCh 38 hitems items]) [0, 1, 2, 3, 4, 5, 6, 7] (by decide) rfl (List.forall_mem_cons.2 ⟨List.mem_of_getElem? (i := 0) rfl, (List.forall_mem_cons.2 ⟨List.mem_of_getElem? (i := 3) rfl, (List.forall_mem_cons.2 ⟨List.mem_of_getElem? (i := 4) rfl, (List.forall_mem_cons.2 ⟨List.mem_of_getElem? (i := 5) rfl, (List.forall_mem_cons.2 ⟨List.mem_of_getElem? (i := 6) rfl, (List.forall_mem_cons.2 ⟨List.mem_of_getElem? (i := 7) rfl, (fun _ h => (nomatch h))⟩)⟩)⟩)⟩)⟩)⟩)
     refine W_loop (fun m98 e99 w100 => ∃ (m : Nat), ∃ (pl : List ID), m98 = x75.parents.length - m ∧ (m ≤ x75.parents.length) ∧ (pl.length = x75.parents.length) ∧ ∃ eb101, e99 = envL [(3, (.pointer (some ⟨b6, 0, none⟩))), (4, (.bool false)), (14, (slV h69 (putChangeB c))), (16, (.string (⟨(putChangeB c).toArray⟩ : ByteArray))), (17, (.pointer (some ⟨b89, 0, none⟩))), (107, (.int .i64 (x75.parents.length : Int))), (108, (.int .i64 (m : Int)))] eb101 ∧ Ctx w nob w100 [boxR b89 27 [[(slV x75.ph x75.parents)], [(.int .i64 x75.time)], [(.int .i64 x75.r)], [(slV x75.oh x75.ops)], (idCells x75.tree), [(.string x75.msg)]], rowR 25 32 idCh x75.ph pl, rowR 56 41 opCh x75.oh x75.ops, rowR 5 1 encB h69 (putChangeB c), rowR 5 1 encB h55 (putDirB items), rowR 49 38 itemCh h21 t, rowR 5 1 encB h15 (putDirB items), boxR b6 27 [[(slV c.ph c.parents)], [(.int .i64 c.time)], [(.int .i64 c.r)], [(slV c.oh c.ops)], (idCells c.tree), [(.string c.msg)]]] [deepW S76 46 2 (fun x : OpS => x.oh) (fun x : OpS => x.over.length) x75.ops, deepI (Old w) stampCh 2 (fun x : OpS => x.oh) (fun x : OpS => x.over) c.ops, slI (Old w) opCh 41 c.oh c.ops, slI (Old w) idCh 32 c.ph c.parents, deepI (Old w) headCh 34 (fun x : ItemS => x.hh) (fun x : ItemS => x.heads) items, slI (Old w) itemCh 38 hitems items]) _ ⟨0, x75.parents, rfl, (by omega), rfl, _, envL_self ⟨rfl, rfl, rfl, rfl, rfl, rfl, rfl, trivial⟩, H97⟩ ?_
     rintro m98 _ w100 ⟨m, pl, rfl, hm, hpl, eb101, rfl, H102⟩
     refine W_seq (W_reg ?_)
     refine O_v rfl (R_cmp (a := (m : Int)) (b := (x75.parents.length : Int)) (r := (decide ((m : Int) < (x75.parents.length : Int)))) rfl rfl rfl ?_)
     refine O_nil (Then_n (W_seq ?_))
     refine W_cond rfl (fun hc103 => ?_) (fun hc103 => ?_)
     ·have hc103 := (of_decide_eq_true hc103)
      refine W_skip (Then_n (W_seq (W_block (W_seq (W_reg ?_)))))
      refine O_mv (v := (.int .i64 (m : Int))) rfl rfl (O_as (v := (.int .i64 (m : Int))) rfl rfl ?_)
      refine O_nil (Then_n (W_reg ?_))
      refine O_v rfl (R_fieldAddr (off := 0) (oo := 0) Try.underlying27 rfl rfl Try.sizeOf22 rfl rfl ?_)
      refine O_v rfl (R_load1 (v := (slV x75.ph x75.parents)) Try.isAgg22 rfl (H102.bx 0 rfl 0 1 0 0 _ rfl rfl rfl) ?_)
      refine O_mv (v := (.int .i64 (m : Int))) rfl rfl ?_
      refine O_v rfl (R_buildL (vs := [(0, (.int .u8 99))]) (v := aggOf [(idCells (mkId 99))]) rfl (fun _ => by kernel_rfl) ?_)
      refine O_v rfl (R_index_pure (OwnS.sl (H102.getOwn 1 rfl) (fun _ => rfl)) (n := x75.parents.length) (by first | omega | (simp only [List.length_set]; omega)) (j := (m : Int)) (oo := (x75.ph.o + m * 32)) Try.underlying22 Try.sizeOf25 rfl rfl (by omega) (by first | omega | (simp only [List.length_set]; omega)) rfl ?_)
      refine O_u (C_storeEl H102 1 rfl (j := m) (v := (aggOf (idCh (mkId 99)))) (mkId 99) ([] : List Value) ([(idCells (nth pl m))]).flatten ([] : List Value) ([(idCells (mkId 99))]).flatten (fun _ => rfl) (by first | omega | (simp only [List.length_set]; omega)) Try.sizeOf25 rfl rfl rfl rfl rfl rfl rfl rfl rfl ?_)
      intro w104 hg105 H106
      refine O_nil (Blk_n (Then_n (W_reg ?_)))
      refine O_v rfl (R_arith (a := (m : Int)) (b := 1) (r0 := (m : Int) + 1) (r := ((m + 1 : Nat) : Int)) rfl rfl rfl (wrapN _ (by have hX := chgs_ok hC hr86; have h1 := change_lens hX; (try have h2 := good_lens (change_ops hX _ (nth_mem (show j < x75.ops.length by omega)))); omega)) ?_)
      refine O_mv (v := (.int .i64 ((m + 1 : Nat) : Int))) rfl rfl ?_
      refine O_nil (Then_n ?_)
      refine ⟨_, ?_, (m + 1), (pl.set m (mkId 99)), rfl, (by omega), (by simp only [List.length_set]; exact hpl), _, envL_self ⟨rfl, rfl, rfl, rfl, rfl, rfl, rfl, trivial⟩, H106⟩
      omega
     ·have hc103 := (of_decide_eq_false hc103)
      refine W_exit (Then_x (Then_x (Blk_x (Then_n (W_seq (W_seq (W_reg ?_)))))))
      refine O_v rfl (R_fieldAddr (off := 3) (oo := 3) Try.underlying27 rfl rfl Try.sizeOf23 rfl rfl ?_)
      refine O_v rfl (R_load1 (v := (slV x75.oh x75.ops)) Try.isAgg23 rfl (H102.bx 0 rfl 3 1 3 3 _ rfl rfl rfl) ?_)
      refine O_v rfl (R_len_slice (a := x75.oh.a) (n := x75.ops.length) (c := x75.oh.c) Try.underlying23 rfl ?_)
      refine O_mv (v := (.int .i64 0)) rfl rfl ?_
      refine O_nil (Then_n (W_block ?_))
      have H107 := H102.pick (B' := [boxR b89 27 [[(slV x75.ph x75.parents)], [(.int .i64 x75.time)], [(.int .i64 x75.r)], [(slV x75.oh x75.ops)], (idCells x75.tree), [(.string x75.msg)]], rowR 25 32 idCh x75.ph pl, rowR 56 41 opCh x75.oh x75.ops, rowR 5 1 encB h69 (putChangeB c), rowR 5 1 encB h55 (putDirB items), rowR 49 38 itemCh h21 t, rowR 5 1 encB h15 (putDirB items), boxR b6 27 [[(slV c.ph c.parents)], [(.int .i64 c.time)], [(.int .i64 c.r)], [(slV c.oh c.ops)], (idCells c.tree), [(.string c.msg)]]]) (I' := [deepW S76 46 2 (fun x : OpS => x.oh) (fun x : OpS => x.over.length) x75.ops, deepI (Old w) stampCh 2 (fun x : OpS => x.oh) (fun x : OpS => x.over) c.ops, slI (Old w) opCh 41 c.oh c.ops, slI (Old w) idCh 32 c.ph c.parents, deepI (Old w) headCh 34 (fun x : ItemS => x.hh) (fun x : ItemS => x.heads) items, slI (Old w) itemCh 38 hitems items]) [0, 1, 2, 3, 4, 5, 6, 7] (by decide) rfl (List.forall_mem_cons.2 ⟨List.mem_of_getElem? (i := 0) rfl, (List.forall_mem_cons.2 ⟨List.mem_of_getElem? (i := 1) rfl, (List.forall_mem_cons.2 ⟨List.mem_of_getElem? (i := 2) rfl, (List.forall_mem_cons.2 ⟨List.mem_of_getElem? (i := 3) rfl, (List.forall_mem_cons.2 ⟨List.mem_of_getElem? (i := 4) rfl, (List.forall_mem_cons.2 ⟨List.mem_of_getElem? (i := 5) rfl, (fun _ h => (nomatch h))⟩)⟩)⟩)⟩)⟩)⟩)
      refine W_loop (fun m108 e109 w110 => ∃ (j : Nat), m108 = x75.ops.length - j ∧ (j ≤ x75.ops.length) ∧ ∃ eb111, e109 = envL [(3, (.pointer (some ⟨b6, 0, none⟩))), (4, (.bool false)), (14, (slV h69 (putChangeB c))), (16, (.string (⟨(putChangeB c).toArray⟩ : ByteArray))), (17, (.pointer (some ⟨b89, 0, none⟩))), (119, (.int .i64 (x75.ops.length : Int))), (120, (.int .i64 (j : Int)))] eb111 ∧ Ctx w nob w110 [boxR b89 27 [[(slV x75.ph x75.parents)], [(.int .i64 x75.time)], [(.int .i64 x75.r)], [(slV x75.oh x75.ops)], (idCells x75.tree), [(.string x75.msg)]], rowR 25 32 idCh x75.ph pl, rowR 56 41 opCh x75.oh x75.ops, rowR 5 1 encB h69 (putChangeB c), rowR 5 1 encB h55 (putDirB items), rowR 49 38 itemCh h21 t, rowR 5 1 encB h15 (putDirB items), boxR b6 27 [[(slV c.ph c.parents)], [(.int .i64 c.time)], [(.int .i64 c.r)], [(slV c.oh c.ops)], (idCells c.tree), [(.string c.msg)]]] [deepW S76 46 2 (fun x : OpS => x.oh) (fun x : OpS => x.over.length) x75.ops, deepI (Old w) stampCh 2 (fun x : OpS => x.oh) (fun x : OpS => x.over) c.ops, slI (Old w) opCh 41 c.oh c.ops, slI (Old w) idCh 32 c.ph c.parents, deepI (Old w) headCh 34 (fun x : ItemS => x.hh) (fun x : ItemS => x.heads) items, slI (Old w) itemCh 38 hitems items]) _ ⟨0, rfl, (by omega), _, envL_self ⟨rfl, rfl, rfl, rfl, rfl, rfl, rfl, trivial⟩, H107⟩ ?_
      rintro m108 _ w110 ⟨j, rfl, hj, eb111, rfl, H112⟩
      refine W_seq (W_reg ?_)
      refine O_v rfl (R_cmp (a := (j : Int)) (b := (x75.ops.length : Int)) (r := (decide ((j : Int) < (x75.ops.length : Int)))) rfl rfl rfl ?_)
      refine O_nil (Then_n (W_seq ?_))
      refine W_cond rfl (fun hc113 => ?_) (fun hc113 => ?_)
      ·have hc113 := (of_decide_eq_true hc113)
       refine W_skip (Then_n (W_seq (W_block (W_seq (W_reg ?_)))))
       refine O_mv (v := (.int .i64 (j : Int))) rfl rfl (O_as (v := (.int .i64 (j : Int))) rfl rfl ?_)
       refine O_nil (Then_n (W_seq (W_reg ?_)))
       refine O_v rfl (R_fieldAddr (off := 3) (oo := 3) Try.underlying27 rfl rfl Try.sizeOf23 rfl rfl ?_)
       refine O_v rfl (R_load1 (v := (slV x75.oh x75.ops)) Try.isAgg23 rfl (H112.bx 0 rfl 3 1 3 3 _ rfl rfl rfl) ?_)
       refine O_mv (v := (.int .i64 (j : Int))) rfl rfl ?_
       refine O_v rfl (R_index_pure (OwnS.sl (H112.getOwn 2 rfl) (fun _ => rfl)) (n := x75.ops.length) rfl (j := (j : Int)) (oo := (x75.oh.o + j * 41)) Try.underlying23 Try.sizeOf56 rfl rfl (by omega) (by first | omega | (simp only [List.length_set]; omega)) rfl ?_)
       refine O_v rfl (R_fieldAddr (off := 40) (oo := ((x75.oh.o + j * 41) + 40)) Try.underlying56 rfl rfl Try.sizeOf54 rfl rfl ?_)
       refine O_v rfl (R_load1 (v := (slV ((nth x75.ops j).oh) ((nth x75.ops j).over))) Try.isAgg54 rfl ((Sl.elem (OwnS.sl (H112.getOwn 2 rfl) (fun _ => rfl)) (i := j) (by first | omega | (simp only [List.length_set]; omega)) rfl).chunks 9 1 40 ((x75.oh.o + j * 41) + 40) _ rfl rfl rfl) ?_)
       refine O_v rfl (R_len_slice (a := ((nth x75.ops j).oh).a) (n := ((nth x75.ops j).over).length) (c := ((nth x75.ops j).oh).c) Try.underlying54 rfl ?_)
       refine O_mv (v := (.int .i64 0)) rfl rfl ?_
       refine O_nil (Then_n (W_block ?_))
       have H114 := H112.pick (B' := [boxR b89 27 [[(slV x75.ph x75.parents)], [(.int .i64 x75.time)], [(.int .i64 x75.r)], [(slV x75.oh x75.ops)], (idCells x75.tree), [(.string x75.msg)]], rowR 25 32 idCh x75.ph pl, rowR 56 41 opCh x75.oh x75.ops, rowR 5 1 encB h69 (putChangeB c), rowR 5 1 encB h55 (putDirB items), rowR 49 38 itemCh h21 t, rowR 5 1 encB h15 (putDirB items), boxR b6 27 [[(slV c.ph c.parents)], [(.int .i64 c.time)], [(.int .i64 c.r)], [(slV c.oh c.ops)], (idCells c.tree), [(.string c.msg)]]]) (I' := [deepW S76 46 2 (fun x : OpS => x.oh) (fun x : OpS => x.over.length) x75.ops, deepI (Old w) stampCh 2 (fun x : OpS => x.oh) (fun x : OpS => x.over) c.ops, slI (Old w) opCh 41 c.oh c.ops, slI (Old w) idCh 32 c.ph c.parents, deepI (Old w) headCh 34 (fun x : ItemS => x.hh) (fun x : ItemS => x.heads) items, slI (Old w) itemCh 38 hitems items]) [0, 1, 2, 3, 4, 5, 6, 7] (by decide) rfl (List.forall_mem_cons.2 ⟨List.mem_of_getElem? (i := 0) rfl, (List.forall_mem_cons.2 ⟨List.mem_of_getElem? (i := 1) rfl, (List.forall_mem_cons.2 ⟨List.mem_of_getElem? (i := 2) rfl, (List.forall_mem_cons.2 ⟨List.mem_of_getElem? (i := 3) rfl, (List.forall_mem_cons.2 ⟨List.mem_of_getElem? (i := 4) rfl, (List.forall_mem_cons.2 ⟨List.mem_of_getElem? (i := 5) rfl, (fun _ h => (nomatch h))⟩)⟩)⟩)⟩)⟩)⟩)
       refine W_loop (fun m115 e116 w117 => ∃ (n : Nat), m115 = ((nth x75.ops j).over).length - n ∧ (n ≤ ((nth x75.ops j).over).length) ∧ ∃ eb118, e116 = envL [(3, (.pointer (some ⟨b6, 0, none⟩))), (4, (.bool false)), (14, (slV h69 (putChangeB c))), (16, (.string (⟨(putChangeB c).toArray⟩ : ByteArray))), (17, (.pointer (some ⟨b89, 0, none⟩))), (20, (.int .i64 (j : Int))), (119, (.int .i64 (x75.ops.length : Int))), (120, (.int .i64 (j : Int))), (121, (.bool (decide ((j : Int) < (x75.ops.length : Int))))), (122, (.int .i64 (j : Int))), (123, (.pointer (some ⟨b89, 3, none⟩))), (124, (slV x75.oh x75.ops)), (125, (.int .i64 (j : Int))), (126, (.pointer (some ⟨x75.oh.b, (x75.oh.o + j * 41), none⟩))), (127, (.pointer (some ⟨x75.oh.b, ((x75.oh.o + j * 41) + 40), none⟩))), (128, (slV ((nth x75.ops j).oh) ((nth x75.ops j).over))), (129, (.int .i64 ((((nth x75.ops j).over).length : Nat) : Int))), (130, (.int .i64 (n : Int)))] eb118 ∧ Ctx w nob w117 [boxR b89 27 [[(slV x75.ph x75.parents)], [(.int .i64 x75.time)], [(.int .i64 x75.r)], [(slV x75.oh x75.ops)], (idCells x75.tree), [(.string x75.msg)]], rowR 25 32 idCh x75.ph pl, rowR 56 41 opCh x75.oh x75.ops, rowR 5 1 encB h69 (putChangeB c), rowR 5 1 encB h55 (putDirB items), rowR 49 38 itemCh h21 t, rowR 5 1 encB h15 (putDirB items), boxR b6 27 [[(slV c.ph c.parents)], [(.int .i64 c.time)], [(.int .i64 c.r)], [(slV c.oh c.ops)], (idCells c.tree), [(.string c.msg)]]] [deepW S76 46 2 (fun x : OpS => x.oh) (fun x : OpS => x.over.length) x75.ops, deepI (Old w) stampCh 2 (fun x : OpS => x.oh) (fun x : OpS => x.over) c.ops, slI (Old w) opCh 41 c.oh c.ops, slI (Old w) idCh 32 c.ph c.parents, deepI (Old w) headCh 34 (fun x : ItemS => x.hh) (fun x : ItemS => x.heads) items, slI (Old w) itemCh 38 hitems items]) _ ⟨0, rfl, (by omega), _, envL_self ⟨rfl, rfl, rfl, rfl, rfl, rfl, rfl, rfl, rfl, rfl, rfl, rfl, rfl, rfl, rfl, rfl, rfl, rfl, trivial⟩, H114⟩ ?_
       rintro m115 _ w117 ⟨n, rfl, hn, eb118, rfl, H119⟩
       refine W_seq (W_reg ?_)
       refine O_v rfl (R_cmp (a := (n : Int)) (b := ((((nth x75.ops j).over).length : Nat) : Int)) (r := (decide ((n : Int) < ((((nth x75.ops j).over).length : Nat) : Int)))) rfl rfl rfl ?_)
       refine O_nil (Then_n (W_seq ?_))
       refine W_cond rfl (fun hc120 => ?_) (fun hc120 => ?_)
       ·have hc120 := (of_decide_eq_true hc120)
        refine W_skip (Then_n (W_seq (W_block (W_seq (W_reg ?_)))))
        refine O_mv (v := (.int .i64 (n : Int))) rfl rfl (O_as (v := (.int .i64 (n : Int))) rfl rfl ?_)
        refine O_nil (Then_n (W_reg ?_))
        refine O_v rfl (R_fieldAddr (off := 3) (oo := 3) Try.underlying27 rfl rfl Try.sizeOf23 rfl rfl ?_)
        refine O_v rfl (R_load1 (v := (slV x75.oh x75.ops)) Try.isAgg23 rfl (H119.bx 0 rfl 3 1 3 3 _ rfl rfl rfl) ?_)
        refine O_mv (v := (.int .i64 (j : Int))) rfl rfl ?_
        refine O_v rfl (R_index_pure (OwnS.sl (H119.getOwn 2 rfl) (fun _ => rfl)) (n := x75.ops.length) rfl (j := (j : Int)) (oo := (x75.oh.o + j * 41)) Try.underlying23 Try.sizeOf56 rfl rfl (by omega) (by first | omega | (simp only [List.length_set]; omega)) rfl ?_)
        refine O_v rfl (R_fieldAddr (off := 40) (oo := ((x75.oh.o + j * 41) + 40)) Try.underlying56 rfl rfl Try.sizeOf54 rfl rfl ?_)
        refine O_v rfl (R_load1 (v := (slV ((nth x75.ops j).oh) ((nth x75.ops j).over))) Try.isAgg54 rfl ((Sl.elem (OwnS.sl (H119.getOwn 2 rfl) (fun _ => rfl)) (i := j) (by first | omega | (simp only [List.length_set]; omega)) rfl).chunks 9 1 40 ((x75.oh.o + j * 41) + 40) _ rfl rfl rfl) ?_)
        refine O_mv (v := (.int .i64 (n : Int))) rfl rfl ?_
        refine O_v rfl (R_index_shp (H119.getImm 0 rfl _ (nth_mem (by first | omega | (simp only [List.length_set]; omega)))) (j := (n : Int)) (oo := (((nth x75.ops j).oh).o + n * 2)) Try.underlying54 Try.sizeOf46 rfl rfl (by omega) (by first | omega | (simp only [List.length_set]; omega)) rfl ?_)
        refine O_v rfl (R_fieldAddr (off := 0) (oo := (((nth x75.ops j).oh).o + n * 2)) Try.underlying46 rfl rfl Try.sizeOf2 rfl rfl ?_)
        refine O_u (C_storeShp H119 0 rfl (nth_mem (by first | omega | (simp only [List.length_set]; omega))) (i := n) (q := 0) (by omega) (by decide) Try.sizeOf2 rfl rfl rfl rfl rfl rfl (fun b hb => Nat.le_trans H73.gr.size (hS83 b hb).1) [deepI (Old w) stampCh 2 (fun x : OpS => x.oh) (fun x : OpS => x.over) c.ops, slI (Old w) opCh 41 c.oh c.ops, slI (Old w) idCh 32 c.ph c.parents, deepI (Old w) headCh 34 (fun x : ItemS => x.hh) (fun x : ItemS => x.heads) items, slI (Old w) itemCh 38 hitems items] (List.forall_mem_cons.2 ⟨⟨List.mem_of_getElem? (i := 1) rfl, fun _ h => h⟩, (List.forall_mem_cons.2 ⟨⟨List.mem_of_getElem? (i := 2) rfl, fun _ h => h⟩, (List.forall_mem_cons.2 ⟨⟨List.mem_of_getElem? (i := 3) rfl, fun _ h => h⟩, (List.forall_mem_cons.2 ⟨⟨List.mem_of_getElem? (i := 4) rfl, fun _ h => h⟩, (List.forall_mem_cons.2 ⟨⟨List.mem_of_getElem? (i := 5) rfl, fun _ h => h⟩, (fun _ h => (nomatch h))⟩)⟩)⟩)⟩)⟩) ?_)
        intro w121 hg122 H123
        refine O_nil (Blk_n (Then_n (W_reg ?_)))
        refine O_v rfl (R_arith (a := (n : Int)) (b := 1) (r0 := (n : Int) + 1) (r := ((n + 1 : Nat) : Int)) rfl rfl rfl (wrapN _ (by have hX := chgs_ok hC hr86; have h1 := change_lens hX; (try have h2 := good_lens (change_ops hX _ (nth_mem (show j < x75.ops.length by omega)))); omega)) ?_)
        refine O_mv (v := (.int .i64 ((n + 1 : Nat) : Int))) rfl rfl ?_
        refine O_nil (Then_n ?_)
        refine ⟨_, ?_, (n + 1), rfl, (by omega), _, envL_self ⟨rfl, rfl, rfl, rfl, rfl, rfl, rfl, rfl, rfl, rfl, rfl, rfl, rfl, rfl, rfl, rfl, rfl, rfl, trivial⟩, H123⟩
        omega
       ·have hc120 := (of_decide_eq_false hc120)
        refine W_exit (Then_x (Then_x (Blk_x (Blk_n (Then_n (W_reg ?_))))))
        refine O_v rfl (R_arith (a := (j : Int)) (b := 1) (r0 := (j : Int) + 1) (r := ((j + 1 : Nat) : Int)) rfl rfl rfl (wrapN _ (by have hX := chgs_ok hC hr86; have h1 := change_lens hX; (try have h2 := good_lens (change_ops hX _ (nth_mem (show j < x75.ops.length by omega)))); omega)) ?_)
        refine O_mv (v := (.int .i64 ((j + 1 : Nat) : Int))) rfl rfl ?_
        refine O_nil (Then_n ?_)
        refine ⟨_, ?_, (j + 1), rfl, (by omega), _, envL_self ⟨rfl, rfl, rfl, rfl, rfl, rfl, rfl, trivial⟩, H119⟩
        omega
      ·have hc113 := (of_decide_eq_false hc113)
       refine W_exit (Then_x (Then_x (Blk_x (Then_n (W_seq (W_reg ?_))))))
       refine O_v rfl (R_loadA (cs := [[(slV c.ph c.parents)], [(.int .i64 c.time)], [(.int .i64 c.r)], [(slV c.oh c.ops)], (idCells c.tree), [(.string c.msg)]]) Try.isAgg27 Try.sizeOf27 rfl rfl (H112.bx 7 rfl 0 6 0 0 _ rfl rfl rfl) ?_)
       refine O_v rfl (R_callL (vs := [(aggOf (changeCh c))]) cF6 rfl rfl ((obj_PutChange c w110 (H112.slOld 3 rfl) (H112.slOld 2 rfl) (H112.deepOld 1 rfl)).ret ?_))
       rintro _ w125 ⟨h124, rfl, hx126, ho127⟩
       have H128 := H112.addRow hx126 ho127
       refine O_mv (v := (.tuple #[(slV h124 (putChangeB c)), (.int .i64 (putChangeE c))])) rfl rfl (O_ex (v := (slV h124 (putChangeB c))) rfl rfl rfl (O_ex (v := (.int .i64 (putChangeE c))) rfl rfl rfl (O_as (v := (slV h124 (putChangeB c))) rfl rfl ?_)))
       refine O_as (v := (.int .i64 (putChangeE c))) rfl rfl ?_
       refine O_nil (Then_n (W_seq (W_reg ?_)))
       refine O_mv (v := (.int .i64 (putChangeE c))) rfl rfl ?_
       refine O_k rfl (.bool true) (R_cmp (a := putChangeE c) (b := 0) (r := (decide (putChangeE c = 0))) rfl rfl rfl ⟨(boolK (decide_eq_true hF)), Gr.refl _ _⟩) (fun w129 hx130 => ?_)
       have H131 := H128.ext hx130
       refine O_mv (v := (.bool true)) rfl rfl ?_
       refine O_vT rfl rfl rfl rfl (R_move (v := (slV h124 (putChangeB c))) rfl ?_)
       refine O_vT rfl rfl rfl rfl (R_conv_bs (l := putChangeB c) Try.underlying31 Try.underlying5 Try.underlying9 (OwnS.sl (H131.getOwn 0 rfl) (fun _ => rfl)) rfl ?_)
       refine O_vT rfl rfl rfl rfl (R_move (v := (.string (⟨(putChangeB c).toArray⟩ : ByteArray))) rfl ?_)
       refine O_kT rfl rfl rfl rfl (.bool true) (R_cmpS (a := (⟨(putChangeB c).toArray⟩ : ByteArray)) (b := (⟨(putChangeB c).toArray⟩ : ByteArray)) (r := (decide ((⟨(putChangeB c).toArray⟩ : ByteArray) = (⟨(putChangeB c).toArray⟩ : ByteArray)))) rfl rfl rfl ⟨(boolK (decide_eq_true rfl)), Gr.refl _ _⟩) (fun w132 hx133 => ?_)
       have H134 := H131.ext hx133
       refine O_v rfl (R_pick (t := true) (v := (.bool true)) rfl rfl ?_)
       refine O_mv (v := (.bool true)) rfl rfl ?_
       refine O_vT rfl rfl rfl rfl (R_move (v := (slV h69 (putChangeB c))) rfl ?_)
       refine O_vT rfl rfl rfl rfl (R_conv_bs (l := putChangeB c) Try.underlying31 Try.underlying5 Try.underlying9 (OwnS.sl (H134.getOwn 4 rfl) (fun _ => rfl)) rfl ?_)
       refine O_vT rfl rfl rfl rfl (R_move (v := (.string (⟨(putChangeB c).toArray⟩ : ByteArray))) rfl ?_)
       refine O_kT rfl rfl rfl rfl (.bool true) (R_cmpS (a := (⟨(putChangeB c).toArray⟩ : ByteArray)) (b := (⟨(putChangeB c).toArray⟩ : ByteArray)) (r := (decide ((⟨(putChangeB c).toArray⟩ : ByteArray) = (⟨(putChangeB c).toArray⟩ : ByteArray)))) rfl rfl rfl ⟨(boolK (decide_eq_true rfl)), Gr.refl _ _⟩) (fun w135 hx136 => ?_)
       have H137 := H134.ext hx136
       refine O_v rfl (R_pick (t := true) (v := (.bool true)) rfl rfl ?_)
       refine O_as (v := (.bool true)) rfl rfl ?_
       refine O_nil (Then_n (W_ret (Then_r ?_)))
       refine ret_1 (v := (.bool true)) Try.results4 rfl ?_
       exact ⟨rfl, H137.gr⟩
    ·have hc74 := (of_decide_eq_false hc74)
     refine W_skip (Then_n (W_seq (W_reg ?_)))
     refine O_as (v := (.bool true)) rfl rfl ?_
     refine O_nil (Then_n (W_ret ?_))
     refine ret_1 (v := (.bool true)) Try.results4 rfl ?_
     exact ⟨rfl, H73.gr⟩
  ·have hc20 := (of_decide_eq_false hc20)
   refine W_skip (Then_n (W_seq (W_seq (W_reg ?_))))
   refine O_v rfl (R_loadA (cs := [[(slV c.ph c.parents)], [(.int .i64 c.time)], [(.int .i64 c.r)], [(slV c.oh c.ops)], (idCells c.tree), [(.string c.msg)]]) Try.isAgg27 Try.sizeOf27 rfl rfl (H19.bx 1 rfl 0 6 0 0 _ rfl rfl rfl) ?_)
   refine O_v rfl (R_callL (vs := [(aggOf (changeCh c))]) cF6 rfl rfl ((obj_PutChange c w16 (H19.slOld 2 rfl) (H19.slOld 1 rfl) (H19.deepOld 0 rfl)).ret ?_))
   rintro _ w139 ⟨h138, rfl, hx140, ho141⟩
   have H142 := H19.addRow hx140 ho141
   refine O_mv (v := (.tuple #[(slV h138 (putChangeB c)), (.int .i64 (putChangeE c))])) rfl rfl (O_ex (v := (slV h138 (putChangeB c))) rfl rfl rfl (O_ex (v := (.int .i64 (putChangeE c))) rfl rfl rfl (O_as (v := (slV h138 (putChangeB c))) rfl rfl ?_)))
   refine O_as (v := (.int .i64 (putChangeE c))) rfl rfl ?_
   refine O_nil (Then_n (W_seq (W_reg ?_)))
   refine O_mv (v := (.int .i64 (putChangeE c))) rfl rfl ?_
   refine O_v rfl (R_cmp (a := putChangeE c) (b := 0) (r := (decide (putChangeE c = 0))) rfl rfl rfl ?_)
   refine O_nil (Then_n ?_)
   refine W_cond rfl (fun hc143 => ?_) (fun hc143 => ?_)
   ·have hc143 := (of_decide_eq_true hc143)
    have hF := hc143
    have hC := putChange_ok hF
    have hCl := chgs_len hC
    refine W_seq (W_reg ?_)
    refine O_mv (v := (slV h138 (putChangeB c))) rfl rfl ?_
    refine O_v rfl (R_conv_bs (l := putChangeB c) Try.underlying31 Try.underlying5 Try.underlying9 (OwnS.sl (H142.getOwn 0 rfl) (fun _ => rfl)) rfl ?_)
    refine O_as (v := (.string (⟨(putChangeB c).toArray⟩ : ByteArray))) rfl rfl ?_
    refine O_nil (Then_n (W_seq (W_reg ?_)))
    refine O_mv (v := (slV h138 (putChangeB c))) rfl rfl ?_
    refine O_v rfl (R_callL (vs := [(slV h138 (putChangeB c))]) cF13 rfl rfl ((obj_Change h138 (putChangeB c) w139 (H142.rowSl 0 rfl (fun _ => rfl)) hCl).ret ?_))
    rintro _ w147 ⟨x144, S145, e146, rfl, hx148, ho149, ho150, h151, hS152, hs153, hW154, hr155⟩
    have H156 := H142.addChg hx148 ho149 ho150 h151 hS152 (deepI S145 stampCh 2 (fun x : OpS => x.oh) (fun x : OpS => x.over) x144.ops) (fun _ h => h) hs153
    have H157 := H156.immOf 0 rfl (deepW S145 46 2 (fun x : OpS => x.oh) (fun x : OpS => x.over.length) x144.ops) (fun _ h => h) (fun _ => hW154)
    refine O_mv (v := (.tuple #[(aggOf (changeCh x144)), (.int .i64 e146)])) rfl rfl (O_ex (v := (aggOf (changeCh x144))) rfl rfl rfl (O_ex (v := (.int .i64 e146)) rfl rfl rfl ?_))
    refine O_v rfl (C_alloc H157 [[(.slice none 0 0)], [(.int .i64 0)], [(.int .i64 0)], [(.slice none 0 0)], (idCells zeroId), [(.string ByteArray.empty)]] Try.zeroValue27 ?_)
    intro b158 w159 hb160 hx161 H162
    refine O_u (C_storeW H162 0 rfl (sub := [[(slV x144.ph x144.parents)], [(.int .i64 x144.time)], [(.int .i64 x144.r)], [(slV x144.oh x144.ops)], (idCells x144.tree), [(.string x144.msg)]]) Try.sizeOf27 rfl rfl rfl rfl rfl ?_)
    intro w163 hg164 H165
    refine O_as (v := (.int .i64 e146)) rfl rfl ?_
    refine O_nil (Then_n (W_seq (W_seq (W_reg ?_))))
    refine O_v rfl (R_fieldAddr (off := 0) (oo := 0) Try.underlying27 rfl rfl Try.sizeOf22 rfl rfl ?_)
    refine O_v rfl (R_load1 (v := (slV x144.ph x144.parents)) Try.isAgg22 rfl (H165.bx 0 rfl 0 1 0 0 _ rfl rfl rfl) ?_)
    refine O_v rfl (R_len_slice (a := x144.ph.a) (n := x144.parents.length) (c := x144.ph.c) Try.underlying22 rfl ?_)
    refine O_mv (v := (.int .i64 0)) rfl rfl ?_
    refine O_nil (Then_n (W_block ?_))
    have H166 := H165.pick (B' := [boxR b158 27 [[(slV x144.ph x144.parents)], [(.int .i64 x144.time)], [(.int .i64 x144.r)], [(slV x144.oh x144.ops)], (idCells x144.tree), [(.string x144.msg)]], rowR 25 32 idCh x144.ph x144.parents, rowR 56 41 opCh x144.oh x144.ops, rowR 5 1 encB h138 (putChangeB c), rowR 5 1 encB h15 (putDirB items), boxR b6 27 [[(slV c.ph c.parents)], [(.int .i64 c.time)], [(.int .i64 c.r)], [(slV c.oh c.ops)], (idCells c.tree), [(.string c.msg)]]]) (I' := [deepW S145 46 2 (fun x : OpS => x.oh) (fun x : OpS => x.over.length) x144.ops, deepI (Old w) stampCh 2 (fun x : OpS => x.oh) (fun x : OpS => x.over) c.ops, slI (Old w) opCh 41 c.oh c.ops, slI (Old w) idCh 32 c.ph c.parents, deepI (Old w) headCh 34 (fun x : ItemS => x.hh) (fun x : ItemS => x.heads) items, slI (Old w) itemCh 38 hitems items]) [0, 1, 2, 3, 4, 5] (by decide) rfl (List.forall_mem_cons.2 ⟨List.mem_of_getElem? (i := 0) rfl, (List.forall_mem_cons.2 ⟨List.mem_of_getElem? (i := 2) rfl, (List.forall_mem_cons.2 ⟨List.mem_of_getElem? (i := 3) rfl, (List.forall_mem_cons.2 ⟨List.mem_of_getElem? (i := 4) rfl, (List.forall_mem_cons.2 ⟨List.mem_of_getElem? (i := 5) rfl, (List.forall_mem_cons.2 ⟨List.mem_of_getElem? (i := 6) rfl, (fun _ h => (nomatch h))⟩)⟩)⟩)⟩)⟩)⟩)
    refine W_loop (fun m167 e168 w169 => ∃ (m : Nat), ∃ (pl : List ID), m167 = x144.parents.length - m ∧ (m ≤ x144.parents.length) ∧ (pl.length = x144.parents.length) ∧ ∃ eb170, e168 = envL [(3, (.pointer (some ⟨b6, 0, none⟩))), (4, (.bool false)), (14, (slV h138 (putChangeB c))), (16, (.string (⟨(putChangeB c).toArray⟩ : ByteArray))), (17, (.pointer (some ⟨b158, 0, none⟩))), (107, (.int .i64 (x144.parents.length : Int))), (108, (.int .i64 (m : Int)))] eb170 ∧ Ctx w nob w169 [boxR b158 27 [[(slV x144.ph x144.parents)], [(.int .i64 x144.time)], [(.int .i64 x144.r)], [(slV x144.oh x144.ops)], (idCells x144.tree), [(.string x144.msg)]], rowR 25 32 idCh x144.ph pl, rowR 56 41 opCh x144.oh x144.ops, rowR 5 1 encB h138 (putChangeB c), rowR 5 1 encB h15 (putDirB items), boxR b6 27 [[(slV c.ph c.parents)], [(.int .i64 c.time)], [(.int .i64 c.r)], [(slV c.oh c.ops)], (idCells c.tree), [(.string c.msg)]]] [deepW S145 46 2 (fun x : OpS => x.oh) (fun x : OpS => x.over.length) x144.ops, deepI (Old w) stampCh 2 (fun x : OpS => x.oh) (fun x : OpS => x.over) c.ops, slI (Old w) opCh 41 c.oh c.ops, slI (Old w) idCh 32 c.ph c.parents, deepI (Old w) headCh 34 (fun x : ItemS => x.hh) (fun x : ItemS => x.heads) items, slI (Old w) itemCh 38 hitems items]) _ ⟨0, x144.parents, rfl, (by omega), rfl, _, envL_self ⟨rfl, rfl, rfl, rfl, rfl, rfl, rfl, trivial⟩, H166⟩ ?_
    rintro m167 _ w169 ⟨m, pl, rfl, hm, hpl, eb170, rfl, H171⟩
    refine W_seq (W_reg ?_)
    refine O_v rfl (R_cmp (a := (m : Int)) (b := (x144.parents.length : Int)) (r := (decide ((m : Int) < (x144.parents.length : Int)))) rfl rfl rfl ?_)
    refine O_nil (Then_n (W_seq ?_))
    refine W_cond rfl (fun hc172 => ?_) (fun hc172 => ?_)
    ·have hc172 := (of_decide_eq_true hc172)
     refine W_skip (Then_n (W_seq (W_block (W_seq (W_reg ?_)))))
     refine O_mv (v := (.int .i64 (m : Int))) rfl rfl (O_as (v := (.int .i64 (m : Int))) rfl rfl ?_)
     refine O_nil (Then_n (W_reg ?_))
     refine O_v rfl (R_fieldAddr (off := 0) (oo := 0) Try.underlying27 rfl rfl Try.sizeOf22 rfl rfl ?_)
     refine O_v rfl (R_load1 (v := (slV x144.ph x144.parents)) Try.isAgg22 rfl (H171.bx 0 rfl 0 1 0 0 _ rfl rfl rfl) ?_)
     refine O_mv (v := (.int .i64 (m : Int))) rfl rfl ?_
     refine O_v rfl (R_buildL (vs := [(0, (.int .u8 99))]) (v := aggOf [(idCells (mkId 99))]) rfl (fun _ => by kernel_rfl) ?_)
     refine O_v rfl (R_index_pure (OwnS.sl (H171.getOwn 1 rfl) (fun _ => rfl)) (n := x144.parents.length) (by first | omega | (simp only [List.length_set]; omega)) (j := (m : Int)) (oo := (x144.ph.o + m * 32)) Try.underlying22 Try.sizeOf25 rfl rfl (by omega) (by first | omega | (simp only [List.length_set]; omega)) rfl ?_)
     refine O_u (C_storeEl H171 1 rfl (j := m) (v := (aggOf (idCh (mkId 99)))) (mkId 99) ([] : List Value) ([(idCells (nth pl m))]).flatten ([] : List Value) ([(idCells (mkId 99))]).flatten (fun _ => rfl) (by first | omega | (simp only [List.length_set]; omega)) Try.sizeOf25 rfl rfl rfl rfl rfl rfl rfl rfl rfl ?_)
     intro w173 hg174 H175
     refine O_nil (Blk_n (Then_n (W_reg ?_)))
     refine O_v rfl (R_arith (a := (m : Int)) (b := 1) (r0 := (m : Int) + 1) (r := ((m + 1 : Nat) : Int)) rfl rfl rfl (wrapN _ (by have hX := chgs_ok hC hr155; have h1 := change_lens hX; (try have h2 := good_lens (change_ops hX _ (nth_mem (show j < x144.ops.length by omega)))); omega)) ?_)
     refine O_mv (v := (.int .i64 ((m + 1 : Nat) : Int))) rfl rfl ?_
     refine O_nil (Then_n ?_)
     refine ⟨_, ?_, (m + 1), (pl.set m (mkId 99)), rfl, (by omega), (by simp only [List.length_set]; exact hpl), _, envL_self ⟨rfl, rfl, rfl, rfl, rfl, rfl, rfl, trivial⟩, H175⟩
     omega
    ·have hc172 := (of_decide_eq_false hc172)
     refine W_exit (Then_x (Then_x (Blk_x (Then_n (W_seq (W_seq (W_reg ?_)))))))
     refine O_v rfl (R_fieldAddr (off := 3) (oo := 3) Try.underlying27 rfl rfl Try.sizeOf23 rfl rfl ?_)
     refine O_v rfl (R_load1 (v := (slV x144.oh x144.ops)) Try.isAgg23 rfl (H171.bx 0 rfl 3 1 3 3 _ rfl rfl rfl) ?_)
     refine O_v rfl (R_len_slice (a := x144.oh.a) (n := x144.ops.length) (c := x144.oh.c) Try.underlying23 rfl ?_)
     refine O_mv (v := (.int .i64 0)) rfl rfl ?_
     refine O_nil (Then_n (W_block ?_))
     have H176 := H171.pick (B' := [boxR b158 27 [[(slV x144.ph x144.parents)], [(.int .i64 x144.time)], [(.int .i64 x144.r)], [(slV x144.oh x144.ops)], (idCells x144.tree), [(.string x144.msg)]], rowR 25 32 idCh x144.ph pl, rowR 56 41 opCh x144.oh x144.ops, rowR 5 1 encB h138 (putChangeB c), rowR 5 1 encB h15 (putDirB items), boxR b6 27 [[(slV c.ph c.parents)], [(.int .i64 c.time)], [(.int .i64 c.r)], [(slV c.oh c.ops)], (idCells c.tree), [(.string c.msg)]]]) (I' := [deepW S145 46 2 (fun x : OpS => x.oh) (fun x : OpS => x.over.length) x144.ops, deepI (Old w) stampCh 2 (fun x : OpS => x.oh) (fun x : OpS => x.over) c.ops, slI (Old w) opCh 41 c.oh c.ops, slI (Old w) idCh 32 c.ph c.parents, deepI (Old w) headCh 34 (fun x : ItemS => x.hh) (fun x : ItemS => x.heads) items, slI (Old w) itemCh 38 hitems items]) [0, 1, 2, 3, 4, 5] (by decide) rfl (List.forall_mem_cons.2 ⟨List.mem_of_getElem? (i := 0) rfl, (List.forall_mem_cons.2 ⟨List.mem_of_getElem? (i := 1) rfl, (List.forall_mem_cons.2 ⟨List.mem_of_getElem? (i := 2) rfl, (List.forall_mem_cons.2 ⟨List.mem_of_getElem? (i := 3) rfl, (List.forall_mem_cons.2 ⟨List.mem_of_getElem? (i := 4) rfl, (List.forall_mem_cons.2 ⟨List.mem_of_getElem? (i := 5) rfl, (fun _ h => (nomatch h))⟩)⟩)⟩)⟩)⟩)⟩)
     refine W_loop (fun m177 e178 w179 => ∃ (j : Nat), m177 = x144.ops.length - j ∧ (j ≤ x144.ops.length) ∧ ∃ eb180, e178 = envL [(3, (.pointer (some ⟨b6, 0, none⟩))), (4, (.bool false)), (14, (slV h138 (putChangeB c))), (16, (.string (⟨(putChangeB c).toArray⟩ : ByteArray))), (17, (.pointer (some ⟨b158, 0, none⟩))), (119, (.int .i64 (x144.ops.length : Int))), (120, (.int .i64 (j : Int)))] eb180 ∧ Ctx w nob w179 [boxR b158 27 [[(slV x144.ph x144.parents)], [(.int .i64 x144.time)], [(.int .i64 x144.r)], [(slV x144.oh x144.ops)], (idCells x144.tree), [(.string x144.msg)]], rowR 25 32 idCh x144.ph pl, rowR 56 41 opCh x144.oh x144.ops, rowR 5 1 encB h138 (putChangeB c), rowR 5 1 encB h15 (putDirB items), boxR b6 27 [[(slV c.ph c.parents)], [(.int .i64 c.time)], [(.int .i64 c.r)], [(slV c.oh c.ops)], (idCells c.tree), [(.string c.msg)]]] [deepW S145 46 2 (fun x : OpS => x.oh) (fun x : OpS => x.over.length) x144.ops, deepI (Old w) stampCh 2 (fun x : OpS => x.oh) (fun x : OpS => x.over) c.ops, slI (Old w) opCh 41 c.oh c.ops, slI (Old w) idCh 32 c.ph c.parents, deepI (Old w) headCh 34 (fun x : ItemS => x.hh) (fun x : ItemS => x.heads) items, slI (Old w) itemCh 38 hitems items]) _ ⟨0, rfl, (by omega), _, envL_self ⟨rfl, rfl, rfl, rfl, rfl, rfl, rfl, trivial⟩, H176⟩ ?_
     rintro m177 _ w179 ⟨j, rfl, hj, eb180, rfl, H181⟩
     refine W_seq (W_reg ?_)
     refine O_v rfl (R_cmp (a := (j : Int)) (b := (x144.ops.length : Int)) (r := (decide ((j : Int) < (x144.ops.length : Int)))) rfl rfl rfl ?_)
     refine O_nil (Then_n (W_seq ?_))
     refine W_cond rfl (fun hc182 => ?_) (fun hc182 => ?_)
     ·have hc182 := (of_decide_eq_true hc182)
      refine W_skip (Then_n (W_seq (W_block (W_seq (W_reg ?_)))))
      refine O_mv (v := (.int .i64 (j : Int))) rfl rfl (O_as (v := (.int .i64 (j : Int))) rfl rfl ?_)
      refine O_nil (Then_n (W_seq (W_reg ?_)))
      refine O_v rfl (R_fieldAddr (off := 3) (oo := 3) Try.underlying27 rfl rfl Try.sizeOf23 rfl rfl ?_)
      refine O_v rfl (R_load1 (v := (slV x144.oh x144.ops)) Try.isAgg23 rfl (H181.bx 0 rfl 3 1 3 3 _ rfl rfl rfl) ?_)
      refine O_mv (v := (.int .i64 (j : Int))) rfl rfl ?_
      refine O_v rfl (R_index_pure (OwnS.sl (H181.getOwn 2 rfl) (fun _ => rfl)) (n := x144.ops.length) rfl (j := (j : Int)) (oo := (x144.oh.o + j * 41)) Try.underlying23 Try.sizeOf56 rfl rfl (by omega) (by first | omega | (simp only [List.length_set]; omega)) rfl ?_)
      refine O_v rfl (R_fieldAddr (off := 40) (oo := ((x144.oh.o + j * 41) + 40)) Try.underlying56 rfl rfl Try.sizeOf54 rfl rfl ?_)
      refine O_v rfl (R_load1 (v := (slV ((nth x144.ops j).oh) ((nth x144.ops j).over))) Try.isAgg54 rfl ((Sl.elem (OwnS.sl (H181.getOwn 2 rfl) (fun _ => rfl)) (i := j) (by first | omega | (simp only [List.length_set]; omega)) rfl).chunks 9 1 40 ((x144.oh.o + j * 41) + 40) _ rfl rfl rfl) ?_)
      refine O_v rfl (R_len_slice (a := ((nth x144.ops j).oh).a) (n := ((nth x144.ops j).over).length) (c := ((nth x144.ops j).oh).c) Try.underlying54 rfl ?_)
      refine O_mv (v := (.int .i64 0)) rfl rfl ?_
      refine O_nil (Then_n (W_block ?_))
      have H183 := H181.pick (B' := [boxR b158 27 [[(slV x144.ph x144.parents)], [(.int .i64 x144.time)], [(.int .i64 x144.r)], [(slV x144.oh x144.ops)], (idCells x144.tree), [(.string x144.msg)]], rowR 25 32 idCh x144.ph pl, rowR 56 41 opCh x144.oh x144.ops, rowR 5 1 encB h138 (putChangeB c), rowR 5 1 encB h15 (putDirB items), boxR b6 27 [[(slV c.ph c.parents)], [(.int .i64 c.time)], [(.int .i64 c.r)], [(slV c.oh c.ops)], (idCells c.tree), [(.string c.msg)]]]) (I' := [deepW S145 46 2 (fun x : OpS => x.oh) (fun x : OpS => x.over.length) x144.ops, deepI (Old w) stampCh 2 (fun x : OpS => x.oh) (fun x : OpS => x.over) c.ops, slI (Old w) opCh 41 c.oh c.ops, slI (Old w) idCh 32 c.ph c.parents, deepI (Old w) headCh 34 (fun x : ItemS => x.hh) (fun x : ItemS => x.heads) items, slI (Old w) itemCh 38 hitems items]) [0, 1, 2, 3, 4, 5] (by decide) rfl (List.forall_mem_cons.2 ⟨List.mem_of_getElem? (i := 0) rfl, (List.forall_mem_cons.2 ⟨List.mem_of_getElem? (i := 1) rfl, (List.forall_mem_cons.2 ⟨List.mem_of_getElem? (i := 2) rfl, (List.forall_mem_cons.2 ⟨List.mem_of_getElem? (i := 3) rfl, (List.forall_mem_cons.2 ⟨List.mem_of_getElem? (i := 4) rfl, (List.forall_mem_cons.2 ⟨List.mem_of_getElem? (i := 5) rfl, (fun _ h => (nomatch h))⟩)⟩)⟩)⟩)⟩)⟩)
      refine W_loop (fun m184 e185 w186 => ∃ (n : Nat), m184 = ((nth x144.ops j).over).length - n ∧ (n ≤ ((nth x144.ops j).over).length) ∧ ∃ eb187, e185 = envL [(3, (.pointer (some ⟨b6, 0, none⟩))), (4, (.bool false)), (14, (slV h138 (putChangeB c))), (16, (.string (⟨(putChangeB c).toArray⟩ : ByteArray))), (17, (.pointer (some ⟨b158, 0, none⟩))), (20, (.int .i64 (j : Int))), (119, (.int .i64 (x144.ops.length : Int))), (120, (.int .i64 (j : Int))), (121, (.bool (decide ((j : Int) < (x144.ops.length : Int))))), (122, (.int .i64 (j : Int))), (123, (.pointer (some ⟨b158, 3, none⟩))), (124, (slV x144.oh x144.ops)), (125, (.int .i64 (j : Int))), (126, (.pointer (some ⟨x144.oh.b, (x144.oh.o + j * 41), none⟩))), (127, (.pointer (some ⟨x144.oh.b, ((x144.oh.o + j * 41) + 40), none⟩))), (128, (slV ((nth x144.ops j).oh) ((nth x144.ops j).over))), (129, (.int .i64 ((((nth x144.ops j).over).length : Nat) : Int))), (130, (.int .i64 (n : Int)))] eb187 ∧ Ctx w nob w186 [boxR b158 27 [[(slV x144.ph x144.parents)], [(.int .i64 x144.time)], [(.int .i64 x144.r)], [(slV x144.oh x144.ops)], (idCells x144.tree), [(.string x144.msg)]], rowR 25 32 idCh x144.ph pl, rowR 56 41 opCh x144.oh x144.ops, rowR 5 1 encB h138 (putChangeB c), rowR 5 1 encB h15 (putDirB items), boxR b6 27 [[(slV c.ph c.parents)], [(.int .i64 c.time)], [(.int .i64 c.r)], [(slV c.oh c.ops)], (idCells c.tree), [(.string c.msg)]]] [deepW S145 46 2 (fun x : OpS => x.oh) (fun x : OpS => x.over.length) x144.ops, deepI (Old w) stampCh 2 (fun x : OpS => x.oh) (fun x : OpS => x.over) c.ops, slI (Old w) opCh 41 c.oh c.ops, slI (Old w) idCh 32 c.ph c.parents, deepI (Old w) headCh 34 (fun x : ItemS => x.hh) (fun x : ItemS => x.heads) items, slI (Old w) itemCh 38 hitems items]) _ ⟨0, rfl, (by omega), _, envL_self ⟨rfl, rfl, rfl, rfl, rfl, rfl, rfl, rfl, rfl, rfl, rfl, rfl, rfl, rfl, rfl, rfl, rfl, rfl, trivial⟩, H183⟩ ?_
      rintro m184 _ w186 ⟨n, rfl, hn, eb187, rfl, H188⟩
      refine W_seq (W_reg ?_)
      refine O_v rfl (R_cmp (a := (n : Int)) (b := ((((nth x144.ops j).over).length : Nat) : Int)) (r := (decide ((n : Int) < ((((nth x144.ops j).over).length : Nat) : Int)))) rfl rfl rfl ?_)
      refine O_nil (Then_n (W_seq ?_))
      refine W_cond rfl (fun hc189 => ?_) (fun hc189 => ?_)
      ·have hc189 := (of_decide_eq_true hc189)
       refine W_skip (Then_n (W_seq (W_block (W_seq (W_reg ?_)))))
       refine O_mv (v := (.int .i64 (n : Int))) rfl rfl (O_as (v := (.int .i64 (n : Int))) rfl rfl ?_)
       refine O_nil (Then_n (W_reg ?_))
       refine O_v rfl (R_fieldAddr (off := 3) (oo := 3) Try.underlying27 rfl rfl Try.sizeOf23 rfl rfl ?_)
       refine O_v rfl (R_load1 (v := (slV x144.oh x144.ops)) Try.isAgg23 rfl (H188.bx 0 rfl 3 1 3 3 _ rfl rfl rfl) ?_)
       refine O_mv (v := (.int .i64 (j : Int))) rfl rfl ?_
       refine O_v rfl (R_index_pure (OwnS.sl (H188.getOwn 2 rfl) (fun _ => rfl)) (n := x144.ops.length) rfl (j := (j : Int)) (oo := (x144.oh.o + j * 41)) Try.underlying23 Try.sizeOf56 rfl rfl (by omega) (by first | omega | (simp only [List.length_set]; omega)) rfl ?_)
       refine O_v rfl (R_fieldAddr (off := 40) (oo := ((x144.oh.o + j * 41) + 40)) Try.underlying56 rfl rfl Try.sizeOf54 rfl rfl ?_)
       refine O_v rfl (R_load1 (v := (slV ((nth x144.ops j).oh) ((nth x144.ops j).over))) Try.isAgg54 rfl ((Sl.elem (OwnS.sl (H188.getOwn 2 rfl) (fun _ => rfl)) (i := j) (by first | omega | (simp only [List.length_set]; omega)) rfl).chunks 9 1 40 ((x144.oh.o + j * 41) + 40) _ rfl rfl rfl) ?_)
       refine O_mv (v := (.int .i64 (n : Int))) rfl rfl ?_
       refine O_v rfl (R_index_shp (H188.getImm 0 rfl _ (nth_mem (by first | omega | (simp only [List.length_set]; omega)))) (j := (n : Int)) (oo := (((nth x144.ops j).oh).o + n * 2)) Try.underlying54 Try.sizeOf46 rfl rfl (by omega) (by first | omega | (simp only [List.length_set]; omega)) rfl ?_)
       refine O_v rfl (R_fieldAddr (off := 0) (oo := (((nth x144.ops j).oh).o + n * 2)) Try.underlying46 rfl rfl Try.sizeOf2 rfl rfl ?_)
       refine O_u (C_storeShp H188 0 rfl (nth_mem (by first | omega | (simp only [List.length_set]; omega))) (i := n) (q := 0) (by omega) (by decide) Try.sizeOf2 rfl rfl rfl rfl rfl rfl (fun b hb => Nat.le_trans H142.gr.size (hS152 b hb).1) [deepI (Old w) stampCh 2 (fun x : OpS => x.oh) (fun x : OpS => x.over) c.ops, slI (Old w) opCh 41 c.oh c.ops, slI (Old w) idCh 32 c.ph c.parents, deepI (Old w) headCh 34 (fun x : ItemS => x.hh) (fun x : ItemS => x.heads) items, slI (Old w) itemCh 38 hitems items] (List.forall_mem_cons.2 ⟨⟨List.mem_of_getElem? (i := 1) rfl, fun _ h => h⟩, (List.forall_mem_cons.2 ⟨⟨List.mem_of_getElem? (i := 2) rfl, fun _ h => h⟩, (List.forall_mem_cons.2 ⟨⟨List.mem_of_getElem? (i := 3) rfl, fun _ h => h⟩, (List.forall_mem_cons.2 ⟨⟨List.mem_of_getElem? (i := 4) rfl, fun _ h => h⟩, (List.forall_mem_cons.2 ⟨⟨List.mem_of_getElem? (i := 5) rfl, fun _ h => h⟩, (fun _ h => (nomatch h))⟩)⟩)⟩)⟩)⟩) ?_)
       intro w190 hg191 H192
       refine O_nil (Blk_n (Then_n (W_reg ?_)))
       refine O_v rfl (R_arith (a := (n : Int)) (b := 1) (r0 := (n : Int) + 1) (r := ((n + 1 : Nat) : Int)) rfl rfl rfl (wrapN _ (by have hX := chgs_ok hC hr155; have h1 := change_lens hX; (try have h2 := good_lens (change_ops hX _ (nth_mem (show j < x144.ops.length by omega)))); omega)) ?_)
       refine O_mv (v := (.int .i64 ((n + 1 : Nat) : Int))) rfl rfl ?_
       refine O_nil (Then_n ?_)
       refine ⟨_, ?_, (n + 1), rfl, (by omega), _, envL_self ⟨rfl, rfl, rfl, rfl, rfl, rfl, rfl, rfl, rfl, rfl, rfl, rfl, rfl, rfl, rfl, rfl, rfl, rfl, trivial⟩, H192⟩
       omega
      ·have hc189 := (of_decide_eq_false hc189)
       refine W_exit (Then_x (Then_x (Blk_x (Blk_n (Then_n (W_reg ?_))))))
       refine O_v rfl (R_arith (a := (j : Int)) (b := 1) (r0 := (j : Int) + 1) (r := ((j + 1 : Nat) : Int)) rfl rfl rfl (wrapN _ (by have hX := chgs_ok hC hr155; have h1 := change_lens hX; (try have h2 := good_lens (change_ops hX _ (nth_mem (show j < x144.ops.length by omega)))); omega)) ?_)
       refine O_mv (v := (.int .i64 ((j + 1 : Nat) : Int))) rfl rfl ?_
       refine O_nil (Then_n ?_)
       refine ⟨_, ?_, (j + 1), rfl, (by omega), _, envL_self ⟨rfl, rfl, rfl, rfl, rfl, rfl, rfl, trivial⟩, H188⟩
       omega
     ·have hc182 := (of_decide_eq_false hc182)
      refine W_exit (Then_x (Then_x (Blk_x (Then_n (W_seq (W_reg ?_))))))
      refine O_v rfl (R_loadA (cs := [[(slV c.ph c.parents)], [(.int .i64 c.time)], [(.int .i64 c.r)], [(slV c.oh c.ops)], (idCells c.tree), [(.string c.msg)]]) Try.isAgg27 Try.sizeOf27 rfl rfl (H181.bx 5 rfl 0 6 0 0 _ rfl rfl rfl) ?_)
      refine O_v rfl (R_callL (vs := [(aggOf (changeCh c))]) cF6 rfl rfl ((obj_PutChange c w179 (H181.slOld 3 rfl) (H181.slOld 2 rfl) (H181.deepOld 1 rfl)).ret ?_))
      rintro _ w194 ⟨h193, rfl, hx195, ho196⟩
      have H197 := H181.addRow hx195 ho196
      refine O_mv (v := (.tuple #[(slV h193 (putChangeB c)), (.int .i64 (putChangeE c))])) rfl rfl (O_ex (v := (slV h193 (putChangeB c))) rfl rfl rfl (O_ex (v := (.int .i64 (putChangeE c))) rfl rfl rfl (O_as (v := (slV h193 (putChangeB c))) rfl rfl ?_)))
      refine O_as (v := (.int .i64 (putChangeE c))) rfl rfl ?_
      refine O_nil (Then_n (W_seq (W_reg ?_)))
      refine O_mv (v := (.int .i64 (putChangeE c))) rfl rfl ?_
      refine O_k rfl (.bool true) (R_cmp (a := putChangeE c) (b := 0) (r := (decide (putChangeE c = 0))) rfl rfl rfl ⟨(boolK (decide_eq_true hF)), Gr.refl _ _⟩) (fun w198 hx199 => ?_)
      have H200 := H197.ext hx199
      refine O_mv (v := (.bool true)) rfl rfl ?_
      refine O_vT rfl rfl rfl rfl (R_move (v := (slV h193 (putChangeB c))) rfl ?_)
      refine O_vT rfl rfl rfl rfl (R_conv_bs (l := putChangeB c) Try.underlying31 Try.underlying5 Try.underlying9 (OwnS.sl (H200.getOwn 0 rfl) (fun _ => rfl)) rfl ?_)
      refine O_vT rfl rfl rfl rfl (R_move (v := (.string (⟨(putChangeB c).toArray⟩ : ByteArray))) rfl ?_)
      refine O_kT rfl rfl rfl rfl (.bool true) (R_cmpS (a := (⟨(putChangeB c).toArray⟩ : ByteArray)) (b := (⟨(putChangeB c).toArray⟩ : ByteArray)) (r := (decide ((⟨(putChangeB c).toArray⟩ : ByteArray) = (⟨(putChangeB c).toArray⟩ : ByteArray)))) rfl rfl rfl ⟨(boolK (decide_eq_true rfl)), Gr.refl _ _⟩) (fun w201 hx202 => ?_)
      have H203 := H200.ext hx202
      refine O_v rfl (R_pick (t := true) (v := (.bool true)) rfl rfl ?_)
      refine O_mv (v := (.bool true)) rfl rfl ?_
      refine O_vT rfl rfl rfl rfl (R_move (v := (slV h138 (putChangeB c))) rfl ?_)
      refine O_vT rfl rfl rfl rfl (R_conv_bs (l := putChangeB c) Try.underlying31 Try.underlying5 Try.underlying9 (OwnS.sl (H203.getOwn 4 rfl) (fun _ => rfl)) rfl ?_)
      refine O_vT rfl rfl rfl rfl (R_move (v := (.string (⟨(putChangeB c).toArray⟩ : ByteArray))) rfl ?_)
      refine O_kT rfl rfl rfl rfl (.bool true) (R_cmpS (a := (⟨(putChangeB c).toArray⟩ : ByteArray)) (b := (⟨(putChangeB c).toArray⟩ : ByteArray)) (r := (decide ((⟨(putChangeB c).toArray⟩ : ByteArray) = (⟨(putChangeB c).toArray⟩ : ByteArray)))) rfl rfl rfl ⟨(boolK (decide_eq_true rfl)), Gr.refl _ _⟩) (fun w204 hx205 => ?_)
      have H206 := H203.ext hx205
      refine O_v rfl (R_pick (t := true) (v := (.bool true)) rfl rfl ?_)
      refine O_as (v := (.bool true)) rfl rfl ?_
      refine O_nil (Then_n (W_ret (Then_r ?_)))
      refine ret_1 (v := (.bool true)) Try.results4 rfl ?_
      exact ⟨rfl, H206.gr⟩
   ·have hc143 := (of_decide_eq_false hc143)
    refine W_skip (Then_n (W_seq (W_reg ?_)))
    refine O_as (v := (.bool true)) rfl rfl ?_
    refine O_nil (Then_n (W_ret ?_))
    refine ret_1 (v := (.bool true)) Try.results4 rfl ?_
    exact ⟨rfl, H142.gr⟩
end Go.Proofs.Ythjdhfoeckfmbaa
