/- Proved: for every input, pollardlaw04.ObjLabels returns true and leaves its argument as it was. No condition. -/
import Derived.Test.YthjdhfoeckfmbaaGreatX4
namespace Go.Proofs.YthjdhfoeckfmbaaGreat
open Go
set_option maxRecDepth 100000
set_option linter.unusedVariables false
set_option linter.unusedSimpArgs false
set_option linter.unusedSectionVars false
theorem stamp_Put_c39 : callable Tryz.prog 39 = true := by kernel_rfl
theorem stamp_Put_c40 : callable Tryz.prog 40 = true := by kernel_rfl
theorem stamp_Put_c41 : callable Tryz.prog 41 = true := by kernel_rfl
theorem stamp_Put_c85 : callable Tryz.prog 85 = true := by kernel_rfl
theorem stamp_Put_c97 : callable Tryz.prog 97 = true := by kernel_rfl
theorem stamp_Put_c105 : callable Tryz.prog 105 = true := by kernel_rfl
set_option maxHeartbeats 2000000 in
theorem stamp_Put (hb : SlH) (b : List UInt8) (o : OpS) (w : World) (Sb : Sl (Old w) encB 1 hb b w) (So_over : Sl (Old w) stampCh 2 o.oh o.over w) (hl : b.length ≤ 1099511627776) :
    Calls Tryz.prog 59 #[(slV hb b), (aggOf (opCh o))] w (Ret fun v w' => ∃ h, v = slV h (b ++ putOpB o) ∧ Ext w w' ∧ OwnS w.heap.size 5 1 encB h (b ++ putOpB o) w') := by
 refine calls_W Tryz.func59 rfl Tryz.ntmps59 rfl ?_
 have H0 := Ctx.start w nob
 have H1 := H0.addSl _ Sb (fun b hb => ⟨hb, fun _ ho => (nomatch ho)⟩)
 have LSb := Sb.len
 have H2 := H1.addSl _ So_over (fun b hb => ⟨hb, fun _ ho => (nomatch ho)⟩)
 have LSo_over := So_over.len
 refine W_seq (W_reg ?_)
 refine O_v rfl (C_box H2 [[(.int .i64 o.kind)], [(.int .i64 o.tm.T)], [(.int .i64 o.tm.R)], [(.int .i64 o.node.T)], [(.int .i64 o.node.R)], [(.int .i64 o.par.T)], [(.int .i64 o.par.R)], [(.string o.name)], (idCells o.data), [(slV o.oh o.over)]] rfl ?_)
 intro b3 w4 hb5 hx6 H7
 refine O_v rfl (R_assign (v := (.slice none 0 0)) rfl ?_)
 refine O_nil (Then_n (W_seq (W_seq (W_reg ?_))))
 refine O_v rfl (R_loadA (cs := [[(.int .i64 o.kind)], [(.int .i64 o.tm.T)], [(.int .i64 o.tm.R)], [(.int .i64 o.node.T)], [(.int .i64 o.node.R)], [(.int .i64 o.par.T)], [(.int .i64 o.par.R)], [(.string o.name)], (idCells o.data), [(slV o.oh o.over)]]) Tryz.isAgg72 Tryz.sizeOf72 rfl rfl ((boxR_at (H7.getOwn 0 rfl)).chunks 0 10 0 0 _ rfl rfl rfl) ?_)
 refine O_v rfl (R_callL (vs := [(aggOf (opCh o))]) stamp_Put_c97 rfl rfl ((stamp_Good o w4 (H7.slOld 0 rfl)).ret ?_))
 rintro _ w8 ⟨rfl, hx9⟩
 have H10 := H7.ext hx9
 refine O_v rfl (R_not rfl ?_)
 refine O_nil (Then_n ?_)
 refine W_cond (t := (!(goodOp o))) rfl (fun hc11 => ?_) (fun hc11 => ?_)
 ·have hc11 : (goodOp o) = false := (notT hc11)
  refine W_seq (W_reg ?_)
  refine O_v rfl (R_move (v := (slV hb b)) rfl ?_)
  refine O_v rfl (R_callL (vs := [(slV hb b)]) stamp_Put_c85 rfl rfl ((Clone_byte hb b w8 (H10.slOld 1 rfl) (by omega)).ret ?_))
  rintro _ w13 ⟨h12, rfl, hx14, ho15⟩
  have H16 := H10.addRow hx14 ho15
  refine O_v rfl (R_assign (v := (slV h12 b)) rfl ?_)
  refine O_nil (Then_n (W_ret (Then_r ?_)))
  refine ret_1 (v := (slV h12 b)) Tryz.results59 rfl ?_
  have hE : b = b ++ putOpB o := (putOp_no (by assumption))
  refine ⟨h12, ?_, H16.gr, ?_⟩
  · exact congrArg (fun l => slV h12 l) hE
  · have hO := H16.retRow 0 rfl
    exact hE ▸ hO
 ·have hc11 : (goodOp o) = true := (notF hc11)
  have hG := hc11
  refine W_skip (Then_n (W_seq ?_))
  refine W_rgd TryzMixed [(0, .q 0), (1, .q 0), (2, .q 0), (4, .q 0), (5, .q 0), (7, .q 0), (8, .q 0), (3, .c 0), (6, .c 0), (9, .c 0), (10, .q 0)] (by kernel_rfl) ?_
  refine Lx_q (i := 0) rfl rfl _ (fun v17 hv18 => R_move (v := (slV hb b)) rfl ⟨rfl, Gr.refl _ _⟩) ?_
  refine Lx_q (i := 1) rfl rfl _ (fun v19 hv20 => R_fieldAddr (off := 0) (oo := 0) Tryz.underlying72 rfl rfl Tryz.sizeOf3 rfl rfl ⟨rfl, Gr.refl _ _⟩) ?_
  refine Lx_q (i := 2) rfl rfl _ (fun v21 hv22 => R_load1 (v := (.int .i64 o.kind)) Tryz.isAgg3 rfl ((boxR_at ((H10.ext hv22).getOwn 0 rfl)).chunks 0 1 0 0 _ rfl rfl rfl) ⟨rfl, Gr.refl _ _⟩) ?_
  refine Lx_q (i := 4) rfl rfl _ (fun v23 hv24 => R_fieldAddr (off := 1) (oo := 1) Tryz.underlying72 rfl rfl Tryz.sizeOf69 rfl rfl ⟨rfl, Gr.refl _ _⟩) ?_
  refine Lx_q (i := 5) rfl rfl _ (fun v25 hv26 => R_loadA (cs := [[(.int .i64 o.tm.T)], [(.int .i64 o.tm.R)]]) Tryz.isAgg69 Tryz.sizeOf69 rfl rfl ((boxR_at ((H10.ext hv26).getOwn 0 rfl)).chunks 1 2 1 1 _ rfl rfl rfl) ⟨rfl, Gr.refl _ _⟩) ?_
  refine Lx_q (i := 7) rfl rfl _ (fun v27 hv28 => R_fieldAddr (off := 3) (oo := 3) Tryz.underlying72 rfl rfl Tryz.sizeOf69 rfl rfl ⟨rfl, Gr.refl _ _⟩) ?_
  refine Lx_q (i := 8) rfl rfl _ (fun v29 hv30 => R_loadA (cs := [[(.int .i64 o.node.T)], [(.int .i64 o.node.R)]]) Tryz.isAgg69 Tryz.sizeOf69 rfl rfl ((boxR_at ((H10.ext hv30).getOwn 0 rfl)).chunks 3 2 3 3 _ rfl rfl rfl) ⟨rfl, Gr.refl _ _⟩) ?_
  refine Lx_c (i := 3) rfl rfl (fun w31 hw32 => ?_)
  have H33 := H10.ext hw32
  refine (R_callL (vs := [(slV hb b), (.int .i64 o.kind)]) stamp_Put_c39 rfl rfl ((enc_Num hb b o.kind w31 (H33.slOld 1 rfl) (by omega)).ret ?_))
  rintro _ w35 ⟨h34, rfl, hx36, ho37⟩
  have H38 := H33.addRow hx36 ho37
  refine ⟨GrF.ofExt hx36, ?_⟩
  refine Lx_c (i := 6) rfl rfl (fun w39 hw40 => ?_)
  have H41 := H38.ext hw40
  refine (R_callL (vs := [(slV h34 (b ++ numB o.kind)), (aggOf (stampCh o.tm))]) stamp_Put_c105 rfl rfl ((stamp_put h34 (b ++ numB o.kind) o.tm w39 (H41.rowSl 0 rfl (fun _ => rfl)) (by have h1 := numB_len o.kind; have h2 := atB_len o.tm; have h3 := atB_len o.node; have h4 := atB_len o.par; have h5 := numB_len ((o.over.length : Nat) : Int); have h6 := good_lens hG; simp only [List.length_append, idList_len]; omega)).ret ?_))
  rintro _ w43 ⟨h42, rfl, hx44, ho45⟩
  have H46 := H41.addRow hx44 ho45
  refine ⟨GrF.ofExt hx44, ?_⟩
  refine Lx_c (i := 9) rfl rfl (fun w47 hw48 => ?_)
  have H49 := H46.ext hw48
  refine (R_callL (vs := [(slV h42 ((b ++ numB o.kind) ++ atB o.tm)), (aggOf (stampCh o.node))]) stamp_Put_c105 rfl rfl ((stamp_put h42 ((b ++ numB o.kind) ++ atB o.tm) o.node w47 (H49.rowSl 0 rfl (fun _ => rfl)) (by have h1 := numB_len o.kind; have h2 := atB_len o.tm; have h3 := atB_len o.node; have h4 := atB_len o.par; have h5 := numB_len ((o.over.length : Nat) : Int); have h6 := good_lens hG; simp only [List.length_append, idList_len]; omega)).ret ?_))
  rintro _ w51 ⟨h50, rfl, hx52, ho53⟩
  have H54 := H49.addRow hx52 ho53
  refine ⟨GrF.ofExt hx52, ?_⟩
  refine Lx_q (i := 10) rfl rfl _ (fun v55 hv56 => R_assign (v := (slV h50 (((b ++ numB o.kind) ++ atB o.tm) ++ atB o.node))) rfl ⟨rfl, Gr.refl _ _⟩) ?_
  refine Lx_nil (fun w57 hw58 => ?_)
  have H59 := H54.ext hw58
  refine Then_n (W_seq (W_seq (W_reg ?_)))
  refine O_v rfl (R_fieldAddr (off := 0) (oo := 0) Tryz.underlying72 rfl rfl Tryz.sizeOf3 rfl rfl ?_)
  refine O_v rfl (R_load1 (v := (.int .i64 o.kind)) Tryz.isAgg3 rfl ((boxR_at (H59.getOwn 3 rfl)).chunks 0 1 0 0 _ rfl rfl rfl) ?_)
  refine O_v rfl (R_cmp (a := o.kind) (b := 1) (r := (decide (o.kind = 1))) rfl rfl rfl ?_)
  refine O_nil (Then_n ?_)
  refine W_cond (t := (decide (o.kind = 1))) rfl (fun hc60 => ?_) (fun hc60 => ?_)
  ·have hc60 : (o.kind = 1) := (of_decide_eq_true hc60)
   have hK := hc60
   refine W_seq ?_
   refine W_rgd TryzMixed [(0, .q 0), (1, .q 0), (2, .q 0), (4, .q 0), (5, .q 0), (3, .c 0), (6, .c 0), (7, .q 0)] (by kernel_rfl) ?_
   refine Lx_q (i := 0) rfl rfl _ (fun v61 hv62 => R_move (v := (slV h50 (((b ++ numB o.kind) ++ atB o.tm) ++ atB o.node))) rfl ⟨rfl, Gr.refl _ _⟩) ?_
   refine Lx_q (i := 1) rfl rfl _ (fun v63 hv64 => R_fieldAddr (off := 5) (oo := 5) Tryz.underlying72 rfl rfl Tryz.sizeOf69 rfl rfl ⟨rfl, Gr.refl _ _⟩) ?_
   refine Lx_q (i := 2) rfl rfl _ (fun v65 hv66 => R_loadA (cs := [[(.int .i64 o.par.T)], [(.int .i64 o.par.R)]]) Tryz.isAgg69 Tryz.sizeOf69 rfl rfl ((boxR_at ((H59.ext hv66).getOwn 3 rfl)).chunks 5 2 5 5 _ rfl rfl rfl) ⟨rfl, Gr.refl _ _⟩) ?_
   refine Lx_q (i := 4) rfl rfl _ (fun v67 hv68 => R_fieldAddr (off := 7) (oo := 7) Tryz.underlying72 rfl rfl Tryz.sizeOf9 rfl rfl ⟨rfl, Gr.refl _ _⟩) ?_
   refine Lx_q (i := 5) rfl rfl _ (fun v69 hv70 => R_load1 (v := (.string o.name)) Tryz.isAgg9 rfl ((boxR_at ((H59.ext hv70).getOwn 3 rfl)).chunks 7 1 7 7 _ rfl rfl rfl) ⟨rfl, Gr.refl _ _⟩) ?_
   refine Lx_c (i := 3) rfl rfl (fun w71 hw72 => ?_)
   have H73 := H59.ext hw72
   refine (R_callL (vs := [(slV h50 (((b ++ numB o.kind) ++ atB o.tm) ++ atB o.node)), (aggOf (stampCh o.par))]) stamp_Put_c105 rfl rfl ((stamp_put h50 (((b ++ numB o.kind) ++ atB o.tm) ++ atB o.node) o.par w71 (H73.rowSl 0 rfl (fun _ => rfl)) (by have h1 := numB_len o.kind; have h2 := atB_len o.tm; have h3 := atB_len o.node; have h4 := atB_len o.par; have h5 := numB_len ((o.over.length : Nat) : Int); have h6 := good_lens hG; simp only [List.length_append, idList_len]; omega)).ret ?_))
   rintro _ w75 ⟨h74, rfl, hx76, ho77⟩
   have H78 := H73.addRow hx76 ho77
   refine ⟨GrF.ofExt hx76, ?_⟩
   refine Lx_c (i := 6) rfl rfl (fun w79 hw80 => ?_)
   have H81 := H78.ext hw80
   refine (R_callL (vs := [(slV h74 ((((b ++ numB o.kind) ++ atB o.tm) ++ atB o.node) ++ atB o.par)), (.string o.name)]) stamp_Put_c41 rfl rfl ((enc_Text h74 ((((b ++ numB o.kind) ++ atB o.tm) ++ atB o.node) ++ atB o.par) o.name w79 (H81.rowSl 0 rfl (fun _ => rfl)) (by have h6 := good_name hG hK; have h1 := numB_len o.kind; have h2 := atB_len o.tm; have h3 := atB_len o.node; have h4 := atB_len o.par; simp only [List.length_append]; omega)).ret ?_))
   rintro _ w83 ⟨h82, rfl, hx84, ho85⟩
   have H86 := H81.addRow hx84 ho85
   refine ⟨GrF.ofExt hx84, ?_⟩
   refine Lx_q (i := 7) rfl rfl _ (fun v87 hv88 => R_assign (v := (slV h82 (((((b ++ numB o.kind) ++ atB o.tm) ++ atB o.node) ++ atB o.par) ++ textB o.name))) rfl ⟨rfl, Gr.refl _ _⟩) ?_
   refine Lx_nil (fun w89 hw90 => ?_)
   have H91 := H86.ext hw90
   refine Then_n (W_ret (Then_r ?_))
   refine ret_1 (v := (slV h82 (((((b ++ numB o.kind) ++ atB o.tm) ++ atB o.node) ++ atB o.par) ++ textB o.name))) Tryz.results59 rfl ?_
   have hE : ((((b ++ numB o.kind) ++ atB o.tm) ++ atB o.node) ++ atB o.par) ++ textB o.name = b ++ putOpB o := (putOp_move hG hK)
   refine ⟨h82, ?_, H91.gr, ?_⟩
   · exact congrArg (fun l => slV h82 l) hE
   · have hO := H91.retRow 0 rfl
     exact hE ▸ hO
  ·have hc60 : ¬ (o.kind = 1) := (of_decide_eq_false hc60)
   have hK := hc60
   refine W_skip (Then_n (W_seq ?_))
   refine W_rgd TryzMixed [(0, .q 0), (1, .q 0), (2, .q 0), (4, .q 0), (5, .q 0), (6, .q 0), (3, .c 0), (7, .c 0), (8, .q 0)] (by kernel_rfl) ?_
   refine Lx_q (i := 0) rfl rfl _ (fun v92 hv93 => R_move (v := (slV h50 (((b ++ numB o.kind) ++ atB o.tm) ++ atB o.node))) rfl ⟨rfl, Gr.refl _ _⟩) ?_
   refine Lx_q (i := 1) rfl rfl _ (fun v94 hv95 => R_fieldAddr (off := 8) (oo := 8) Tryz.underlying72 rfl rfl Tryz.sizeOf45 rfl rfl ⟨rfl, Gr.refl _ _⟩) ?_
   refine Lx_q (i := 2) rfl rfl _ (fun v96 hv97 => R_loadA (cs := [(idCells o.data)]) Tryz.isAgg45 Tryz.sizeOf45 rfl rfl ((boxR_at ((H59.ext hv97).getOwn 3 rfl)).chunks 8 1 8 8 _ rfl rfl rfl) ⟨rfl, Gr.refl _ _⟩) ?_
   refine Lx_q (i := 4) rfl rfl _ (fun v98 hv99 => R_fieldAddr (off := 40) (oo := 40) Tryz.underlying72 rfl rfl Tryz.sizeOf70 rfl rfl ⟨rfl, Gr.refl _ _⟩) ?_
   refine Lx_q (i := 5) rfl rfl _ (fun v100 hv101 => R_load1 (v := (slV o.oh o.over)) Tryz.isAgg70 rfl ((boxR_at ((H59.ext hv101).getOwn 3 rfl)).chunks 9 1 40 40 _ rfl rfl rfl) ⟨rfl, Gr.refl _ _⟩) ?_
   refine Lx_q (i := 6) rfl rfl _ (fun v102 hv103 => R_len_slice (a := o.oh.a) (n := o.over.length) (c := o.oh.c) Tryz.underlying70 rfl ⟨rfl, Gr.refl _ _⟩) ?_
   refine Lx_c (i := 3) rfl rfl (fun w104 hw105 => ?_)
   have H106 := H59.ext hw105
   refine (R_callL (vs := [(slV h50 (((b ++ numB o.kind) ++ atB o.tm) ++ atB o.node)), (aggOf (idCh o.data))]) stamp_Put_c40 rfl rfl ((enc_Id h50 (((b ++ numB o.kind) ++ atB o.tm) ++ atB o.node) o.data w104 (H106.rowSl 0 rfl (fun _ => rfl)) (by have h1 := numB_len o.kind; have h2 := atB_len o.tm; have h3 := atB_len o.node; have h4 := atB_len o.par; have h5 := numB_len ((o.over.length : Nat) : Int); have h6 := good_lens hG; simp only [List.length_append, idList_len]; omega)).ret ?_))
   rintro _ w108 ⟨h107, rfl, hx109, ho110⟩
   have H111 := H106.addRow hx109 ho110
   refine ⟨GrF.ofExt hx109, ?_⟩
   refine Lx_c (i := 7) rfl rfl (fun w112 hw113 => ?_)
   have H114 := H111.ext hw113
   refine (R_callL (vs := [(slV h107 ((((b ++ numB o.kind) ++ atB o.tm) ++ atB o.node) ++ idList o.data)), (.int .i64 ((o.over.length : Nat) : Int))]) stamp_Put_c39 rfl rfl ((enc_Num h107 ((((b ++ numB o.kind) ++ atB o.tm) ++ atB o.node) ++ idList o.data) ((o.over.length : Nat) : Int) w112 (H114.rowSl 0 rfl (fun _ => rfl)) (by have h1 := numB_len o.kind; have h2 := atB_len o.tm; have h3 := atB_len o.node; have h4 := atB_len o.par; have h5 := numB_len ((o.over.length : Nat) : Int); have h6 := good_lens hG; simp only [List.length_append, idList_len]; omega)).ret ?_))
   rintro _ w116 ⟨h115, rfl, hx117, ho118⟩
   have H119 := H114.addRow hx117 ho118
   refine ⟨GrF.ofExt hx117, ?_⟩
   refine Lx_q (i := 8) rfl rfl _ (fun v120 hv121 => R_assign (v := (slV h115 (((((b ++ numB o.kind) ++ atB o.tm) ++ atB o.node) ++ idList o.data) ++ numB ((o.over.length : Nat) : Int)))) rfl ⟨rfl, Gr.refl _ _⟩) ?_
   refine Lx_nil (fun w122 hw123 => ?_)
   have H124 := H119.ext hw123
   refine Then_n (W_seq (W_seq (W_reg ?_)))
   refine O_v rfl (R_fieldAddr (off := 40) (oo := 40) Tryz.underlying72 rfl rfl Tryz.sizeOf70 rfl rfl ?_)
   refine O_v rfl (R_load1 (v := (slV o.oh o.over)) Tryz.isAgg70 rfl ((boxR_at (H124.getOwn 5 rfl)).chunks 9 1 40 40 _ rfl rfl rfl) ?_)
   refine O_v rfl (R_len_slice (a := o.oh.a) (n := o.over.length) (c := o.oh.c) Tryz.underlying70 rfl ?_)
   refine O_v rfl (R_move (v := (.int .i64 0)) rfl ?_)
   refine O_nil (Then_n (W_block ?_))
   refine W_loop (fun m126 e127 w128 => ∃ (k : Nat), ∃ (acc : List UInt8), ∃ (h125 : SlH), m126 = o.over.length - k ∧ (k ≤ o.over.length) ∧ (acc = overTo b o k) ∧ (acc.length ≤ b.length + 200 + 18 * k) ∧ ∃ eb129, e127 = envL [(0, (slV h125 acc)), (4, (.slice none 0 0)), (41, (slV o.oh o.over)), (42, (.int .i64 ((o.over.length : Nat) : Int))), (43, (.int .i64 ((k : Nat) : Int)))] eb129 ∧ Ctx w nob w128 [rowR 5 1 encB h125 acc, rowR 5 1 encB h107 ((((b ++ numB o.kind) ++ atB o.tm) ++ atB o.node) ++ idList o.data), rowR 5 1 encB h50 (((b ++ numB o.kind) ++ atB o.tm) ++ atB o.node), rowR 5 1 encB h42 ((b ++ numB o.kind) ++ atB o.tm), rowR 5 1 encB h34 (b ++ numB o.kind), boxR b3 72 [[(.int .i64 o.kind)], [(.int .i64 o.tm.T)], [(.int .i64 o.tm.R)], [(.int .i64 o.node.T)], [(.int .i64 o.node.R)], [(.int .i64 o.par.T)], [(.int .i64 o.par.R)], [(.string o.name)], (idCells o.data), [(slV o.oh o.over)]]] [slI (Old w) stampCh 2 o.oh o.over, slI (Old w) encB 1 hb b]) _ ⟨0, (((((b ++ numB o.kind) ++ atB o.tm) ++ atB o.node) ++ idList o.data) ++ numB ((o.over.length : Nat) : Int)), h115, rfl, (by omega), (overTo_zero b o), (by have h1 := numB_len o.kind; have h2 := atB_len o.tm; have h3 := atB_len o.node; have h4 := atB_len o.par; have h5 := numB_len ((o.over.length : Nat) : Int); have h6 := good_lens hG; simp only [List.length_append, idList_len]; omega), _, envL_self ⟨rfl, rfl, rfl, rfl, rfl, trivial⟩, H124⟩ ?_
   rintro m126 _ w128 ⟨k, acc, h125, rfl, hk, ha, hal, eb129, rfl, H130⟩
   refine W_seq (W_reg ?_)
   refine O_v rfl (R_cmp (a := ((k : Nat) : Int)) (b := ((o.over.length : Nat) : Int)) (r := (decide (((k : Nat) : Int) < ((o.over.length : Nat) : Int)))) rfl rfl rfl ?_)
   refine O_nil (Then_n (W_seq ?_))
   refine W_cond (t := (decide (((k : Nat) : Int) < ((o.over.length : Nat) : Int)))) rfl (fun hc131 => ?_) (fun hc131 => ?_)
   ·have hc131 : (((k : Nat) : Int) < ((o.over.length : Nat) : Int)) := (of_decide_eq_true hc131)
    refine W_skip (Then_n (W_seq (W_block (W_seq (W_reg ?_)))))
    refine O_v rfl (R_index_pure (H130.sl 0 rfl) (n := o.over.length) rfl (j := ((k : Nat) : Int)) (oo := (o.oh.o + k * 2)) Tryz.underlying70 Tryz.sizeOf69 rfl rfl (by omega) (by omega) rfl ?_)
    refine O_v rfl (R_loadA (cs := [[(.int .i64 ((nth o.over k).T))], [(.int .i64 ((nth o.over k).R))]]) Tryz.isAgg69 Tryz.sizeOf69 rfl rfl ((Sl.elem (H130.sl 0 rfl) (i := k) (by omega) rfl).chunks 0 2 0 (o.oh.o + k * 2) _ rfl rfl rfl) ?_)
    refine O_v rfl (C_alloc H130 [[(.int .i64 0)], [(.int .i64 0)]] Tryz.zeroValue69 ?_)
    intro b132 w133 hb134 hx135 H136
    refine O_u (C_storeA H136 0 rfl 0 (sub := [[(.int .i64 ((nth o.over k).T))], [(.int .i64 ((nth o.over k).R))]]) [[(.int .i64 ((nth o.over k).T))], [(.int .i64 ((nth o.over k).R))]] Tryz.sizeOf69 rfl rfl rfl rfl ⟨[[(.int .i64 0)], [(.int .i64 0)]], [], rfl, rfl, rfl⟩ rfl ?_)
    intro w137 hg138 H139
    refine O_nil (Then_n (W_reg ?_))
    refine O_v rfl (R_move (v := (slV h125 acc)) rfl ?_)
    refine O_v rfl (R_loadA (cs := [[(.int .i64 ((nth o.over k).T))], [(.int .i64 ((nth o.over k).R))]]) Tryz.isAgg69 Tryz.sizeOf69 rfl rfl ((boxR_at (H139.getOwn 0 rfl)).chunks 0 2 0 0 _ rfl rfl rfl) ?_)
    refine O_v rfl (R_callL (vs := [(slV h125 acc), (aggOf (stampCh (nth o.over k)))]) stamp_Put_c105 rfl rfl ((stamp_put h125 acc (nth o.over k) w137 (H139.rowSl 1 rfl (fun _ => rfl)) (by have := good_lens hG; omega)).ret ?_))
    rintro _ w141 ⟨h140, rfl, hx142, ho143⟩
    have H144 := H139.addRow hx142 ho143
    refine O_v rfl (R_assign (v := (slV h140 (acc ++ atB (nth o.over k)))) rfl ?_)
    refine O_nil (Blk_n (Then_n (W_reg ?_)))
    refine O_v rfl (R_arith (a := ((k : Nat) : Int)) (b := 1) (r0 := ((k : Nat) : Int) + 1) (r := ((k + 1 : Nat) : Int)) rfl rfl rfl (wrapN _ (by omega)) ?_)
    refine O_v rfl (R_move (v := (.int .i64 ((k + 1 : Nat) : Int))) rfl ?_)
    refine O_nil (Then_n ?_)
    have H145 := H144.sub (B' := [rowR 5 1 encB h140 (acc ++ atB (nth o.over k)), rowR 5 1 encB h107 ((((b ++ numB o.kind) ++ atB o.tm) ++ atB o.node) ++ idList o.data), rowR 5 1 encB h50 (((b ++ numB o.kind) ++ atB o.tm) ++ atB o.node), rowR 5 1 encB h42 ((b ++ numB o.kind) ++ atB o.tm), rowR 5 1 encB h34 (b ++ numB o.kind), boxR b3 72 [[(.int .i64 o.kind)], [(.int .i64 o.tm.T)], [(.int .i64 o.tm.R)], [(.int .i64 o.node.T)], [(.int .i64 o.node.R)], [(.int .i64 o.par.T)], [(.int .i64 o.par.R)], [(.string o.name)], (idCells o.data), [(slV o.oh o.over)]]]) (I' := [slI (Old w) stampCh 2 o.oh o.over, slI (Old w) encB 1 hb b]) (List.Sublist.cons_cons _ (List.Sublist.cons _ (List.Sublist.cons _ (List.Sublist.cons_cons _ (List.Sublist.cons_cons _ (List.Sublist.cons_cons _ (List.Sublist.cons_cons _ (List.Sublist.cons_cons _ List.Sublist.slnil)))))))) (List.forall_mem_cons.2 ⟨List.mem_of_getElem? (i := 0) rfl, List.forall_mem_cons.2 ⟨List.mem_of_getElem? (i := 1) rfl, fun _ h => (nomatch h)⟩⟩)
    refine ⟨_, ?_, (k + 1), (acc ++ atB (nth o.over k)), h140, rfl, (by omega), (overTo_succ ha (by omega)), (by have := atB_len (nth o.over k); simp only [List.length_append]; omega), _, envL_self ⟨rfl, rfl, rfl, rfl, rfl, trivial⟩, H145⟩
    omega
   ·have hc131 : ¬ (((k : Nat) : Int) < ((o.over.length : Nat) : Int)) := (of_decide_eq_false hc131)
    refine W_exit (Then_x (Then_x (Blk_x (Then_n (W_seq (W_reg ?_))))))
    refine O_v rfl (R_move (v := (slV h125 acc)) rfl ?_)
    refine O_v rfl (R_assign (v := (slV h125 acc)) rfl ?_)
    refine O_nil (Then_n (W_ret ?_))
    refine ret_1 (v := (slV h125 acc)) Tryz.results59 rfl ?_
    have hE : acc = b ++ putOpB o := (putOp_edit hG hK ha (by omega))
    refine ⟨h125, ?_, H130.gr, ?_⟩
    · exact congrArg (fun l => slV h125 l) hE
    · have hO := H130.retRow 0 rfl
      exact hE ▸ hO

end Go.Proofs.YthjdhfoeckfmbaaGreat
namespace Go.Proofs.YthjdhfoeckfmbaaGreat
open Go
set_option maxRecDepth 100000
set_option linter.unusedVariables false
set_option linter.unusedSimpArgs false
set_option linter.unusedSectionVars false
theorem obj_PutChange_c39 : callable Tryz.prog 39 = true := by kernel_rfl
theorem obj_PutChange_c40 : callable Tryz.prog 40 = true := by kernel_rfl
theorem obj_PutChange_c41 : callable Tryz.prog 41 = true := by kernel_rfl
theorem obj_PutChange_c58 : callable Tryz.prog 58 = true := by kernel_rfl
theorem obj_PutChange_c59 : callable Tryz.prog 59 = true := by kernel_rfl
set_option maxHeartbeats 2000000 in
theorem obj_PutChange (c : ChangeS) (w : World) (Sc_parents : Sl (Old w) idCh 32 c.ph c.parents w) (Sc_ops : Sl (Old w) opCh 41 c.oh c.ops w) (Dc_over : ∀ x ∈ c.ops, Sl (Old w) stampCh 2 x.oh x.over w) :
    Calls Tryz.prog 23 #[(aggOf (changeCh c))] w (Ret fun v w' => ∃ h0, v = .tuple #[slV h0 (putChangeB c), (.int .i64 (putChangeE c))] ∧ Ext w w' ∧ OwnS w.heap.size 5 1 encB h0 (putChangeB c) w') := by
 refine calls_W Tryz.func23 rfl Tryz.ntmps23 rfl ?_
 have H0 := Ctx.start w nob
 have H1 := H0.addSl _ Sc_parents (fun b hb => ⟨hb, fun _ ho => (nomatch ho)⟩)
 have LSc_parents := Sc_parents.len
 have H2 := H1.addSl _ Sc_ops (fun b hb => ⟨hb, fun _ ho => (nomatch ho)⟩)
 have LSc_ops := Sc_ops.len
 have H3 := H2.addImm' (deepI (Old w) stampCh 2 (fun x : OpS => x.oh) (fun x : OpS => x.over) c.ops) Dc_over (fun b hb => ⟨hb, fun _ ho => (nomatch ho)⟩)
 refine W_seq (W_reg ?_)
 refine O_v rfl (C_box H3 [[(slV c.ph c.parents)], [(.int .i64 c.time)], [(.int .i64 c.r)], [(slV c.oh c.ops)], (idCells c.tree), [(.string c.msg)]] rfl ?_)
 intro b4 w5 hb6 hx7 H8
 refine O_v rfl (R_assign (v := (.slice none 0 0)) rfl ?_)
 refine O_v rfl (R_assign (v := (.int .i64 0)) rfl ?_)
 refine O_nil (Then_n (W_seq (W_seq (W_reg ?_))))
 refine O_v rfl (R_loadA (cs := [[(slV c.ph c.parents)], [(.int .i64 c.time)], [(.int .i64 c.r)], [(slV c.oh c.ops)], (idCells c.tree), [(.string c.msg)]]) Tryz.isAgg47 Tryz.sizeOf47 rfl rfl ((boxR_at (H8.getOwn 0 rfl)).chunks 0 6 0 0 _ rfl rfl rfl) ?_)
 refine O_v rfl (R_callL (vs := [(aggOf (changeCh c))]) obj_PutChange_c58 rfl rfl ((obj_rightChange c w5 (H8.slOld 2 rfl) (H8.slOld 1 rfl) (H8.deepOld 0 rfl)).ret ?_))
 rintro _ w9 ⟨rfl, hx10⟩
 have H11 := H8.ext hx10
 refine O_v rfl (R_not rfl ?_)
 refine O_nil (Then_n ?_)
 refine W_cond (t := (!(changeOk c))) rfl (fun hc12 => ?_) (fun hc12 => ?_)
 ·have hc12 : (changeOk c) = false := (notT hc12)
  refine W_seq (W_reg ?_)
  refine O_v rfl (R_assign (v := (.slice none 0 0)) rfl ?_)
  refine O_v rfl (R_assign (v := (.int .i64 1)) rfl ?_)
  refine O_nil (Then_n (W_ret (Then_r ?_)))
  refine ret_2 (v := (.slice none 0 0)) (v' := (.int .i64 1)) Tryz.results23 rfl rfl ?_
  have H13 := H11.addNil 5 1 encB
  have hE : [] = putChangeB c := (putChange_f (by assumption)).1
  have hV : 1 = putChangeE c := (putChange_f (by assumption)).2
  refine ⟨nilH, ?_, H13.gr, ?_⟩
  · exact two_eq (fun l n => Value.tuple #[slV nilH l, Value.int .i64 n]) hE hV
  · have hO := H13.retRow 0 rfl
    exact hE ▸ hO
 ·have hc12 : (changeOk c) = true := (notF hc12)
  refine W_skip (Then_n (W_seq (W_reg ?_)))
  refine O_v rfl (C_buildSliceL H11 (enc := encB) (val := byteV) ([3] : List UInt8) Tryz.underlying22 Tryz.sizeOf5 Tryz.zeroValue5 rfl (by decide) (fun _ => rfl) (fun _ => rfl) rfl rfl (by decide) ?_)
  intro b14 w15 hb16 hx17 H18
  refine O_v rfl (R_fieldAddr (off := 0) (oo := 0) Tryz.underlying47 rfl rfl Tryz.sizeOf39 rfl rfl ?_)
  refine O_v rfl (R_load1 (v := (slV c.ph c.parents)) Tryz.isAgg39 rfl ((boxR_at (H18.getOwn 1 rfl)).chunks 0 1 0 0 _ rfl rfl rfl) ?_)
  refine O_v rfl (R_len_slice (a := c.ph.a) (n := c.parents.length) (c := c.ph.c) Tryz.underlying39 rfl ?_)
  refine O_v rfl (R_callL (vs := [(slV ⟨some ⟨b14, 0, none⟩, b14, 0, 1⟩ ([3] : List UInt8)), (.int .i64 ((c.parents.length : Nat) : Int))]) obj_PutChange_c39 rfl rfl ((enc_Num ⟨some ⟨b14, 0, none⟩, b14, 0, 1⟩ ([3] : List UInt8) ((c.parents.length : Nat) : Int) w15 (H18.rowSl 0 rfl (fun _ => rfl)) (by simp only [List.length_cons, List.length_nil]; omega)).ret ?_))
  rintro _ w20 ⟨h19, rfl, hx21, ho22⟩
  have H23 := H18.addRow hx21 ho22
  refine O_v rfl (R_assign (v := (slV h19 (([3] : List UInt8) ++ numB ((c.parents.length : Nat) : Int)))) rfl ?_)
  refine O_nil (Then_n (W_seq (W_seq (W_reg ?_))))
  refine O_v rfl (R_fieldAddr (off := 0) (oo := 0) Tryz.underlying47 rfl rfl Tryz.sizeOf39 rfl rfl ?_)
  refine O_v rfl (R_load1 (v := (slV c.ph c.parents)) Tryz.isAgg39 rfl ((boxR_at (H23.getOwn 2 rfl)).chunks 0 1 0 0 _ rfl rfl rfl) ?_)
  refine O_v rfl (R_len_slice (a := c.ph.a) (n := c.parents.length) (c := c.ph.c) Tryz.underlying39 rfl ?_)
  refine O_v rfl (R_move (v := (.int .i64 0)) rfl ?_)
  refine O_nil (Then_n (W_block ?_))
  refine W_loop (fun m25 e26 w27 => ∃ (k : Nat), ∃ (acc : List UInt8), ∃ (h24 : SlH), m25 = c.parents.length - k ∧ (k ≤ c.parents.length) ∧ (acc = parTo c k) ∧ (acc.length ≤ 10 + 32 * k) ∧ (changeOk c = true) ∧ ∃ eb28, e26 = envL [(1, (.pointer (some ⟨b4, 0, none⟩))), (2, (.slice none 0 0)), (3, (.int .i64 0)), (4, (slV h24 acc)), (18, (slV c.ph c.parents)), (19, (.int .i64 ((c.parents.length : Nat) : Int))), (20, (.int .i64 ((k : Nat) : Int)))] eb28 ∧ Ctx w nob w27 [rowR 5 1 encB h24 acc, rowR 5 1 encB ⟨some ⟨b14, 0, none⟩, b14, 0, 1⟩ ([3] : List UInt8), boxR b4 47 [[(slV c.ph c.parents)], [(.int .i64 c.time)], [(.int .i64 c.r)], [(slV c.oh c.ops)], (idCells c.tree), [(.string c.msg)]]] [deepI (Old w) stampCh 2 (fun x : OpS => x.oh) (fun x : OpS => x.over) c.ops, slI (Old w) opCh 41 c.oh c.ops, slI (Old w) idCh 32 c.ph c.parents]) _ ⟨0, (([3] : List UInt8) ++ numB ((c.parents.length : Nat) : Int)), h19, rfl, (by omega), (parTo_zero c), (by have h1 := numB_len ((c.parents.length : Nat) : Int); simp only [List.length_append, List.length_cons, List.length_nil]; omega), (by assumption), _, envL_self ⟨rfl, rfl, rfl, rfl, rfl, rfl, rfl, trivial⟩, H23⟩ ?_
  rintro m25 _ w27 ⟨k, acc, h24, rfl, hk, ha, hal, hC, eb28, rfl, H29⟩
  refine W_seq (W_reg ?_)
  refine O_v rfl (R_cmp (a := ((k : Nat) : Int)) (b := ((c.parents.length : Nat) : Int)) (r := (decide (((k : Nat) : Int) < ((c.parents.length : Nat) : Int)))) rfl rfl rfl ?_)
  refine O_nil (Then_n (W_seq ?_))
  refine W_cond (t := (decide (((k : Nat) : Int) < ((c.parents.length : Nat) : Int)))) rfl (fun hc30 => ?_) (fun hc30 => ?_)
  ·have hc30 : (((k : Nat) : Int) < ((c.parents.length : Nat) : Int)) := (of_decide_eq_true hc30)
   refine W_skip (Then_n (W_seq (W_block (W_seq (W_reg ?_)))))
   refine O_v rfl (R_index_pure (H29.sl 2 rfl) (n := c.parents.length) rfl (j := ((k : Nat) : Int)) (oo := (c.ph.o + k * 32)) Tryz.underlying39 Tryz.sizeOf45 rfl rfl (by omega) (by omega) rfl ?_)
   refine O_v rfl (R_loadA (cs := [(idCells (nth c.parents k))]) Tryz.isAgg45 Tryz.sizeOf45 rfl rfl ((Sl.elem (H29.sl 2 rfl) (i := k) (by omega) rfl).chunks 0 1 0 (c.ph.o + k * 32) _ rfl rfl rfl) ?_)
   refine O_v rfl (C_alloc H29 [(idCells zeroId)] Tryz.zeroValue45 ?_)
   intro b31 w32 hb33 hx34 H35
   refine O_u (C_storeA H35 0 rfl 0 (sub := [(idCells (nth c.parents k))]) [(idCells (nth c.parents k))] Tryz.sizeOf45 rfl rfl rfl rfl ⟨[(idCells zeroId)], [], rfl, rfl, rfl⟩ rfl ?_)
   intro w36 hg37 H38
   refine O_nil (Then_n (W_reg ?_))
   refine O_v rfl (R_move (v := (slV h24 acc)) rfl ?_)
   refine O_v rfl (R_loadA (cs := [(idCells (nth c.parents k))]) Tryz.isAgg45 Tryz.sizeOf45 rfl rfl ((boxR_at (H38.getOwn 0 rfl)).chunks 0 1 0 0 _ rfl rfl rfl) ?_)
   refine O_v rfl (R_callL (vs := [(slV h24 acc), (aggOf (idCh (nth c.parents k)))]) obj_PutChange_c40 rfl rfl ((enc_Id h24 acc (nth c.parents k) w36 (H38.rowSl 1 rfl (fun _ => rfl)) (by have := change_lens hC; omega)).ret ?_))
   rintro _ w40 ⟨h39, rfl, hx41, ho42⟩
   have H43 := H38.addRow hx41 ho42
   refine O_v rfl (R_assign (v := (slV h39 (acc ++ idList (nth c.parents k)))) rfl ?_)
   refine O_nil (Blk_n (Then_n (W_reg ?_)))
   refine O_v rfl (R_arith (a := ((k : Nat) : Int)) (b := 1) (r0 := ((k : Nat) : Int) + 1) (r := ((k + 1 : Nat) : Int)) rfl rfl rfl (wrapN _ (by omega)) ?_)
   refine O_v rfl (R_move (v := (.int .i64 ((k + 1 : Nat) : Int))) rfl ?_)
   refine O_nil (Then_n ?_)
   have H44 := H43.sub (B' := [rowR 5 1 encB h39 (acc ++ idList (nth c.parents k)), rowR 5 1 encB ⟨some ⟨b14, 0, none⟩, b14, 0, 1⟩ ([3] : List UInt8), boxR b4 47 [[(slV c.ph c.parents)], [(.int .i64 c.time)], [(.int .i64 c.r)], [(slV c.oh c.ops)], (idCells c.tree), [(.string c.msg)]]]) (I' := [deepI (Old w) stampCh 2 (fun x : OpS => x.oh) (fun x : OpS => x.over) c.ops, slI (Old w) opCh 41 c.oh c.ops, slI (Old w) idCh 32 c.ph c.parents]) (List.Sublist.cons_cons _ (List.Sublist.cons _ (List.Sublist.cons _ (List.Sublist.cons_cons _ (List.Sublist.cons_cons _ List.Sublist.slnil))))) (List.forall_mem_cons.2 ⟨List.mem_of_getElem? (i := 0) rfl, List.forall_mem_cons.2 ⟨List.mem_of_getElem? (i := 1) rfl, List.forall_mem_cons.2 ⟨List.mem_of_getElem? (i := 2) rfl, fun _ h => (nomatch h)⟩⟩⟩)
   refine ⟨_, ?_, (k + 1), (acc ++ idList (nth c.parents k)), h39, rfl, (by omega), (parTo_succ ha (by omega)), (by simp only [List.length_append, idList_len]; omega), hC, _, envL_self ⟨rfl, rfl, rfl, rfl, rfl, rfl, rfl, trivial⟩, H44⟩
   omega
  ·have hc30 : ¬ (((k : Nat) : Int) < ((c.parents.length : Nat) : Int)) := (of_decide_eq_false hc30)
   refine W_exit (Then_x (Then_x (Blk_x (Then_n (W_seq ?_)))))
   refine W_rgd TryzMixed [(0, .q 0), (1, .q 0), (2, .q 0), (4, .q 0), (5, .q 0), (7, .q 0), (8, .q 0), (9, .q 0), (3, .c 0), (6, .c 0), (10, .c 0), (11, .q 0)] (by kernel_rfl) ?_
   refine Lx_q (i := 0) rfl rfl _ (fun v45 hv46 => R_move (v := (slV h24 acc)) rfl ⟨rfl, Gr.refl _ _⟩) ?_
   refine Lx_q (i := 1) rfl rfl _ (fun v47 hv48 => R_fieldAddr (off := 1) (oo := 1) Tryz.underlying47 rfl rfl Tryz.sizeOf2 rfl rfl ⟨rfl, Gr.refl _ _⟩) ?_
   refine Lx_q (i := 2) rfl rfl _ (fun v49 hv50 => R_load1 (v := (.int .i64 c.time)) Tryz.isAgg2 rfl ((boxR_at ((H29.ext hv50).getOwn 2 rfl)).chunks 1 1 1 1 _ rfl rfl rfl) ⟨rfl, Gr.refl _ _⟩) ?_
   refine Lx_q (i := 4) rfl rfl _ (fun v51 hv52 => R_fieldAddr (off := 2) (oo := 2) Tryz.underlying47 rfl rfl Tryz.sizeOf3 rfl rfl ⟨rfl, Gr.refl _ _⟩) ?_
   refine Lx_q (i := 5) rfl rfl _ (fun v53 hv54 => R_load1 (v := (.int .i64 c.r)) Tryz.isAgg3 rfl ((boxR_at ((H29.ext hv54).getOwn 2 rfl)).chunks 2 1 2 2 _ rfl rfl rfl) ⟨rfl, Gr.refl _ _⟩) ?_
   refine Lx_q (i := 7) rfl rfl _ (fun v55 hv56 => R_fieldAddr (off := 3) (oo := 3) Tryz.underlying47 rfl rfl Tryz.sizeOf43 rfl rfl ⟨rfl, Gr.refl _ _⟩) ?_
   refine Lx_q (i := 8) rfl rfl _ (fun v57 hv58 => R_load1 (v := (slV c.oh c.ops)) Tryz.isAgg43 rfl ((boxR_at ((H29.ext hv58).getOwn 2 rfl)).chunks 3 1 3 3 _ rfl rfl rfl) ⟨rfl, Gr.refl _ _⟩) ?_
   refine Lx_q (i := 9) rfl rfl _ (fun v59 hv60 => R_len_slice (a := c.oh.a) (n := c.ops.length) (c := c.oh.c) Tryz.underlying43 rfl ⟨rfl, Gr.refl _ _⟩) ?_
   refine Lx_c (i := 3) rfl rfl (fun w61 hw62 => ?_)
   have H63 := H29.ext hw62
   refine (R_callL (vs := [(slV h24 acc), (.int .i64 c.time)]) obj_PutChange_c39 rfl rfl ((enc_Num h24 acc c.time w61 (H63.rowSl 0 rfl (fun _ => rfl)) (by have h1 := numB_len ((c.parents.length : Nat) : Int); have h2 := numB_len c.time; have h3 := numB_len c.r; have h4 := numB_len ((c.ops.length : Nat) : Int); have h5 := change_lens hC; (try simp only [List.length_append, List.length_cons, List.length_nil, idList_len]); omega)).ret ?_))
   rintro _ w65 ⟨h64, rfl, hx66, ho67⟩
   have H68 := H63.addRow hx66 ho67
   refine ⟨GrF.ofExt hx66, ?_⟩
   refine Lx_c (i := 6) rfl rfl (fun w69 hw70 => ?_)
   have H71 := H68.ext hw70
   refine (R_callL (vs := [(slV h64 (acc ++ numB c.time)), (.int .i64 c.r)]) obj_PutChange_c39 rfl rfl ((enc_Num h64 (acc ++ numB c.time) c.r w69 (H71.rowSl 0 rfl (fun _ => rfl)) (by have h1 := numB_len ((c.parents.length : Nat) : Int); have h2 := numB_len c.time; have h3 := numB_len c.r; have h4 := numB_len ((c.ops.length : Nat) : Int); have h5 := change_lens hC; (try simp only [List.length_append, List.length_cons, List.length_nil, idList_len]); omega)).ret ?_))
   rintro _ w73 ⟨h72, rfl, hx74, ho75⟩
   have H76 := H71.addRow hx74 ho75
   refine ⟨GrF.ofExt hx74, ?_⟩
   refine Lx_c (i := 10) rfl rfl (fun w77 hw78 => ?_)
   have H79 := H76.ext hw78
   refine (R_callL (vs := [(slV h72 ((acc ++ numB c.time) ++ numB c.r)), (.int .i64 ((c.ops.length : Nat) : Int))]) obj_PutChange_c39 rfl rfl ((enc_Num h72 ((acc ++ numB c.time) ++ numB c.r) ((c.ops.length : Nat) : Int) w77 (H79.rowSl 0 rfl (fun _ => rfl)) (by have h1 := numB_len ((c.parents.length : Nat) : Int); have h2 := numB_len c.time; have h3 := numB_len c.r; have h4 := numB_len ((c.ops.length : Nat) : Int); have h5 := change_lens hC; (try simp only [List.length_append, List.length_cons, List.length_nil, idList_len]); omega)).ret ?_))
   rintro _ w81 ⟨h80, rfl, hx82, ho83⟩
   have H84 := H79.addRow hx82 ho83
   refine ⟨GrF.ofExt hx82, ?_⟩
   refine Lx_q (i := 11) rfl rfl _ (fun v85 hv86 => R_assign (v := (slV h80 (((acc ++ numB c.time) ++ numB c.r) ++ numB ((c.ops.length : Nat) : Int)))) rfl ⟨rfl, Gr.refl _ _⟩) ?_
   refine Lx_nil (fun w87 hw88 => ?_)
   have H89 := H84.ext hw88
   refine Then_n (W_seq (W_seq (W_reg ?_)))
   refine O_v rfl (R_fieldAddr (off := 3) (oo := 3) Tryz.underlying47 rfl rfl Tryz.sizeOf43 rfl rfl ?_)
   refine O_v rfl (R_load1 (v := (slV c.oh c.ops)) Tryz.isAgg43 rfl ((boxR_at (H89.getOwn 5 rfl)).chunks 3 1 3 3 _ rfl rfl rfl) ?_)
   refine O_v rfl (R_len_slice (a := c.oh.a) (n := c.ops.length) (c := c.oh.c) Tryz.underlying43 rfl ?_)
   refine O_v rfl (R_move (v := (.int .i64 0)) rfl ?_)
   refine O_nil (Then_n (W_block ?_))
   refine W_loop (fun m91 e92 w93 => ∃ (j : Nat), ∃ (acc2 : List UInt8), ∃ (h90 : SlH), m91 = c.ops.length - j ∧ (j ≤ c.ops.length) ∧ (acc2 = opsTo c j) ∧ (acc2.length ≤ 200 + 1400 * j) ∧ ∃ eb94, e92 = envL [(1, (.pointer (some ⟨b4, 0, none⟩))), (2, (.slice none 0 0)), (3, (.int .i64 0)), (4, (slV h90 acc2)), (40, (slV c.oh c.ops)), (41, (.int .i64 ((c.ops.length : Nat) : Int))), (42, (.int .i64 ((j : Nat) : Int)))] eb94 ∧ Ctx w nob w93 [rowR 5 1 encB h90 acc2, rowR 5 1 encB h72 ((acc ++ numB c.time) ++ numB c.r), rowR 5 1 encB h64 (acc ++ numB c.time), rowR 5 1 encB h24 acc, rowR 5 1 encB ⟨some ⟨b14, 0, none⟩, b14, 0, 1⟩ ([3] : List UInt8), boxR b4 47 [[(slV c.ph c.parents)], [(.int .i64 c.time)], [(.int .i64 c.r)], [(slV c.oh c.ops)], (idCells c.tree), [(.string c.msg)]]] [deepI (Old w) stampCh 2 (fun x : OpS => x.oh) (fun x : OpS => x.over) c.ops, slI (Old w) opCh 41 c.oh c.ops, slI (Old w) idCh 32 c.ph c.parents]) _ ⟨0, (((acc ++ numB c.time) ++ numB c.r) ++ numB ((c.ops.length : Nat) : Int)), h80, rfl, (by omega), (opsTo_zero ha (by omega)), (by have h1 := numB_len ((c.parents.length : Nat) : Int); have h2 := numB_len c.time; have h3 := numB_len c.r; have h4 := numB_len ((c.ops.length : Nat) : Int); have h5 := change_lens hC; (try simp only [List.length_append, List.length_cons, List.length_nil, idList_len]); omega), _, envL_self ⟨rfl, rfl, rfl, rfl, rfl, rfl, rfl, trivial⟩, H89⟩ ?_
   rintro m91 _ w93 ⟨j, acc2, h90, rfl, hj, ha2, hal2, eb94, rfl, H95⟩
   refine W_seq (W_reg ?_)
   refine O_v rfl (R_cmp (a := ((j : Nat) : Int)) (b := ((c.ops.length : Nat) : Int)) (r := (decide (((j : Nat) : Int) < ((c.ops.length : Nat) : Int)))) rfl rfl rfl ?_)
   refine O_nil (Then_n (W_seq ?_))
   refine W_cond (t := (decide (((j : Nat) : Int) < ((c.ops.length : Nat) : Int)))) rfl (fun hc96 => ?_) (fun hc96 => ?_)
   ·have hc96 : (((j : Nat) : Int) < ((c.ops.length : Nat) : Int)) := (of_decide_eq_true hc96)
    refine W_skip (Then_n (W_seq (W_block (W_seq (W_reg ?_)))))
    refine O_v rfl (R_index_pure (H95.sl 1 rfl) (n := c.ops.length) rfl (j := ((j : Nat) : Int)) (oo := (c.oh.o + j * 41)) Tryz.underlying43 Tryz.sizeOf72 rfl rfl (by omega) (by omega) rfl ?_)
    refine O_v rfl (R_loadA (cs := [[(.int .i64 ((nth c.ops j).kind))], [(.int .i64 (((nth c.ops j).tm).T))], [(.int .i64 (((nth c.ops j).tm).R))], [(.int .i64 (((nth c.ops j).node).T))], [(.int .i64 (((nth c.ops j).node).R))], [(.int .i64 (((nth c.ops j).par).T))], [(.int .i64 (((nth c.ops j).par).R))], [(.string ((nth c.ops j).name))], (idCells ((nth c.ops j).data)), [(slV ((nth c.ops j).oh) ((nth c.ops j).over))]]) Tryz.isAgg72 Tryz.sizeOf72 rfl rfl ((Sl.elem (H95.sl 1 rfl) (i := j) (by omega) rfl).chunks 0 10 0 (c.oh.o + j * 41) _ rfl rfl rfl) ?_)
    refine O_v rfl (C_alloc H95 [[(.int .i64 0)], [(.int .i64 0)], [(.int .i64 0)], [(.int .i64 0)], [(.int .i64 0)], [(.int .i64 0)], [(.int .i64 0)], [(.string ByteArray.empty)], (idCells zeroId), [(.slice none 0 0)]] Tryz.zeroValue72 ?_)
    intro b97 w98 hb99 hx100 H101
    refine O_u (C_storeA H101 0 rfl 0 (sub := [[(.int .i64 ((nth c.ops j).kind))], [(.int .i64 (((nth c.ops j).tm).T))], [(.int .i64 (((nth c.ops j).tm).R))], [(.int .i64 (((nth c.ops j).node).T))], [(.int .i64 (((nth c.ops j).node).R))], [(.int .i64 (((nth c.ops j).par).T))], [(.int .i64 (((nth c.ops j).par).R))], [(.string ((nth c.ops j).name))], (idCells ((nth c.ops j).data)), [(slV ((nth c.ops j).oh) ((nth c.ops j).over))]]) [[(.int .i64 ((nth c.ops j).kind))], [(.int .i64 (((nth c.ops j).tm).T))], [(.int .i64 (((nth c.ops j).tm).R))], [(.int .i64 (((nth c.ops j).node).T))], [(.int .i64 (((nth c.ops j).node).R))], [(.int .i64 (((nth c.ops j).par).T))], [(.int .i64 (((nth c.ops j).par).R))], [(.string ((nth c.ops j).name))], (idCells ((nth c.ops j).data)), [(slV ((nth c.ops j).oh) ((nth c.ops j).over))]] Tryz.sizeOf72 rfl rfl rfl rfl ⟨[[(.int .i64 0)], [(.int .i64 0)], [(.int .i64 0)], [(.int .i64 0)], [(.int .i64 0)], [(.int .i64 0)], [(.int .i64 0)], [(.string ByteArray.empty)], (idCells zeroId), [(.slice none 0 0)]], [], rfl, rfl, rfl⟩ rfl ?_)
    intro w102 hg103 H104
    refine O_nil (Then_n (W_reg ?_))
    refine O_v rfl (R_move (v := (slV h90 acc2)) rfl ?_)
    refine O_v rfl (R_loadA (cs := [[(.int .i64 ((nth c.ops j).kind))], [(.int .i64 (((nth c.ops j).tm).T))], [(.int .i64 (((nth c.ops j).tm).R))], [(.int .i64 (((nth c.ops j).node).T))], [(.int .i64 (((nth c.ops j).node).R))], [(.int .i64 (((nth c.ops j).par).T))], [(.int .i64 (((nth c.ops j).par).R))], [(.string ((nth c.ops j).name))], (idCells ((nth c.ops j).data)), [(slV ((nth c.ops j).oh) ((nth c.ops j).over))]]) Tryz.isAgg72 Tryz.sizeOf72 rfl rfl ((boxR_at (H104.getOwn 0 rfl)).chunks 0 10 0 0 _ rfl rfl rfl) ?_)
    refine O_v rfl (R_callL (vs := [(slV h90 acc2), (aggOf (opCh (nth c.ops j)))]) obj_PutChange_c59 rfl rfl ((stamp_Put h90 acc2 (nth c.ops j) w102 (H104.rowSl 1 rfl (fun _ => rfl)) (H104.deepOld 0 rfl _ (nth_mem (by omega))) (by have := change_lens hC; omega)).ret ?_))
    rintro _ w106 ⟨h105, rfl, hx107, ho108⟩
    have H109 := H104.addRow hx107 ho108
    refine O_v rfl (R_assign (v := (slV h105 (acc2 ++ putOpB (nth c.ops j)))) rfl ?_)
    refine O_nil (Blk_n (Then_n (W_reg ?_)))
    refine O_v rfl (R_arith (a := ((j : Nat) : Int)) (b := 1) (r0 := ((j : Nat) : Int) + 1) (r := ((j + 1 : Nat) : Int)) rfl rfl rfl (wrapN _ (by omega)) ?_)
    refine O_v rfl (R_move (v := (.int .i64 ((j + 1 : Nat) : Int))) rfl ?_)
    refine O_nil (Then_n ?_)
    have H110 := H109.sub (B' := [rowR 5 1 encB h105 (acc2 ++ putOpB (nth c.ops j)), rowR 5 1 encB h72 ((acc ++ numB c.time) ++ numB c.r), rowR 5 1 encB h64 (acc ++ numB c.time), rowR 5 1 encB h24 acc, rowR 5 1 encB ⟨some ⟨b14, 0, none⟩, b14, 0, 1⟩ ([3] : List UInt8), boxR b4 47 [[(slV c.ph c.parents)], [(.int .i64 c.time)], [(.int .i64 c.r)], [(slV c.oh c.ops)], (idCells c.tree), [(.string c.msg)]]]) (I' := [deepI (Old w) stampCh 2 (fun x : OpS => x.oh) (fun x : OpS => x.over) c.ops, slI (Old w) opCh 41 c.oh c.ops, slI (Old w) idCh 32 c.ph c.parents]) (List.Sublist.cons_cons _ (List.Sublist.cons _ (List.Sublist.cons _ (List.Sublist.cons_cons _ (List.Sublist.cons_cons _ (List.Sublist.cons_cons _ (List.Sublist.cons_cons _ (List.Sublist.cons_cons _ List.Sublist.slnil)))))))) (List.forall_mem_cons.2 ⟨List.mem_of_getElem? (i := 0) rfl, List.forall_mem_cons.2 ⟨List.mem_of_getElem? (i := 1) rfl, List.forall_mem_cons.2 ⟨List.mem_of_getElem? (i := 2) rfl, fun _ h => (nomatch h)⟩⟩⟩)
    refine ⟨_, ?_, (j + 1), (acc2 ++ putOpB (nth c.ops j)), h105, rfl, (by omega), (opsTo_succ ha2 (by omega)), (by have := putOpB_len (nth c.ops j); simp only [List.length_append]; omega), _, envL_self ⟨rfl, rfl, rfl, rfl, rfl, rfl, rfl, trivial⟩, H110⟩
    omega
   ·have hc96 : ¬ (((j : Nat) : Int) < ((c.ops.length : Nat) : Int)) := (of_decide_eq_false hc96)
    refine W_exit (Then_x (Then_x (Blk_x (Then_n (W_seq ?_)))))
    refine W_rgd TryzMixed [(0, .q 0), (1, .q 0), (2, .q 0), (4, .q 0), (5, .q 0), (3, .c 0), (6, .c 0), (7, .q 0), (8, .q 0)] (by kernel_rfl) ?_
    refine Lx_q (i := 0) rfl rfl _ (fun v111 hv112 => R_move (v := (slV h90 acc2)) rfl ⟨rfl, Gr.refl _ _⟩) ?_
    refine Lx_q (i := 1) rfl rfl _ (fun v113 hv114 => R_fieldAddr (off := 4) (oo := 4) Tryz.underlying47 rfl rfl Tryz.sizeOf45 rfl rfl ⟨rfl, Gr.refl _ _⟩) ?_
    refine Lx_q (i := 2) rfl rfl _ (fun v115 hv116 => R_loadA (cs := [(idCells c.tree)]) Tryz.isAgg45 Tryz.sizeOf45 rfl rfl ((boxR_at ((H95.ext hv116).getOwn 5 rfl)).chunks 4 1 4 4 _ rfl rfl rfl) ⟨rfl, Gr.refl _ _⟩) ?_
    refine Lx_q (i := 4) rfl rfl _ (fun v117 hv118 => R_fieldAddr (off := 36) (oo := 36) Tryz.underlying47 rfl rfl Tryz.sizeOf9 rfl rfl ⟨rfl, Gr.refl _ _⟩) ?_
    refine Lx_q (i := 5) rfl rfl _ (fun v119 hv120 => R_load1 (v := (.string c.msg)) Tryz.isAgg9 rfl ((boxR_at ((H95.ext hv120).getOwn 5 rfl)).chunks 5 1 36 36 _ rfl rfl rfl) ⟨rfl, Gr.refl _ _⟩) ?_
    refine Lx_c (i := 3) rfl rfl (fun w121 hw122 => ?_)
    have H123 := H95.ext hw122
    refine (R_callL (vs := [(slV h90 acc2), (aggOf (idCh c.tree))]) obj_PutChange_c40 rfl rfl ((enc_Id h90 acc2 c.tree w121 (H123.rowSl 0 rfl (fun _ => rfl)) (by have := change_lens hC; omega)).ret ?_))
    rintro _ w125 ⟨h124, rfl, hx126, ho127⟩
    have H128 := H123.addRow hx126 ho127
    refine ⟨GrF.ofExt hx126, ?_⟩
    refine Lx_c (i := 6) rfl rfl (fun w129 hw130 => ?_)
    have H131 := H128.ext hw130
    refine (R_callL (vs := [(slV h124 (acc2 ++ idList c.tree)), (.string c.msg)]) obj_PutChange_c41 rfl rfl ((enc_Text h124 (acc2 ++ idList c.tree) c.msg w129 (H131.rowSl 0 rfl (fun _ => rfl)) (by have := change_lens hC; simp only [List.length_append, idList_len]; omega)).ret ?_))
    rintro _ w133 ⟨h132, rfl, hx134, ho135⟩
    have H136 := H131.addRow hx134 ho135
    refine ⟨GrF.ofExt hx134, ?_⟩
    refine Lx_q (i := 7) rfl rfl _ (fun v137 hv138 => R_assign (v := (slV h132 ((acc2 ++ idList c.tree) ++ textB c.msg))) rfl ⟨rfl, Gr.refl _ _⟩) ?_
    refine Lx_q (i := 8) rfl rfl _ (fun v139 hv140 => R_assign (v := (.int .i64 0)) rfl ⟨rfl, Gr.refl _ _⟩) ?_
    refine Lx_nil (fun w141 hw142 => ?_)
    have H143 := H136.ext hw142
    refine Then_n (W_ret ?_)
    refine ret_2 (v := (slV h132 ((acc2 ++ idList c.tree) ++ textB c.msg))) (v' := (.int .i64 0)) Tryz.results23 rfl rfl ?_
    have hE : (acc2 ++ idList c.tree) ++ textB c.msg = putChangeB c := (putChange_t hC ha2 (by omega)).1
    have hV : 0 = putChangeE c := (putChange_t hC ha2 (by omega)).2
    refine ⟨h132, ?_, H143.gr, ?_⟩
    · exact two_eq (fun l n => Value.tuple #[slV h132 l, Value.int .i64 n]) hE hV
    · have hO := H143.retRow 0 rfl
      exact hE ▸ hO

end Go.Proofs.YthjdhfoeckfmbaaGreat
namespace Go.Proofs.YthjdhfoeckfmbaaGreat
open Go
set_option maxRecDepth 100000
set_option linter.unusedVariables false
set_option linter.unusedSimpArgs false
set_option linter.unusedSectionVars false
variable [DD]
theorem obj_at_c39 : callable Tryz.prog 39 = true := by kernel_rfl
set_option maxHeartbeats 1000000 in
theorem obj_at (hb : SlH) (b : List UInt8) (s : Stamp) (w : World) (Sb : Sl (Old w) encB 1 hb b w) (hl : b.length ≤ 35184372088832) :
    Calls Tryz.prog 42 #[(slV hb b), (aggOf (stampCh s))] w (Ret fun v w' => ∃ h, v = slV h (b ++ atB s) ∧ Ext w w' ∧ OwnS w.heap.size 5 1 encB h (b ++ atB s) w') := by
 refine calls_W Tryz.func42 rfl Tryz.ntmps42 rfl ?_
 have H0 := Ctx.start w nob
 have H1 := H0.addSl _ Sb (fun b hb => ⟨hb, fun _ ho => (nomatch ho)⟩)
 have LSb := Sb.len
 refine W_seq (W_reg ?_)
 refine O_v rfl (C_box H1 [[(.int .i64 s.T)], [(.int .i64 s.R)]] rfl ?_)
 intro b2 w3 hb4 hx5 H6
 refine O_v rfl (R_assign (v := (.slice none 0 0)) rfl ?_)
 refine O_nil (Then_n (W_seq ?_))
 refine W_rgd TryzMixed [(0, .q 0), (1, .q 0), (2, .q 0), (4, .q 0), (5, .q 0), (3, .c 0), (6, .c 0), (7, .q 0)] (by kernel_rfl) ?_
 refine Lx_q (i := 0) rfl rfl _ (fun v7 hv8 => R_move (v := (slV hb b)) rfl ⟨rfl, Gr.refl _ _⟩) ?_
 refine Lx_q (i := 1) rfl rfl _ (fun v9 hv10 => R_fieldAddr (off := 0) (oo := 0) Tryz.underlying69 rfl rfl Tryz.sizeOf2 rfl rfl ⟨rfl, Gr.refl _ _⟩) ?_
 refine Lx_q (i := 2) rfl rfl _ (fun v11 hv12 => R_load1 (v := (.int .i64 s.T)) Tryz.isAgg2 rfl ((boxR_at ((H6.ext hv12).getOwn 0 rfl)).chunks 0 1 0 0 _ rfl rfl rfl) ⟨rfl, Gr.refl _ _⟩) ?_
 refine Lx_q (i := 4) rfl rfl _ (fun v13 hv14 => R_fieldAddr (off := 1) (oo := 1) Tryz.underlying69 rfl rfl Tryz.sizeOf3 rfl rfl ⟨rfl, Gr.refl _ _⟩) ?_
 refine Lx_q (i := 5) rfl rfl _ (fun v15 hv16 => R_load1 (v := (.int .i64 s.R)) Tryz.isAgg3 rfl ((boxR_at ((H6.ext hv16).getOwn 0 rfl)).chunks 1 1 1 1 _ rfl rfl rfl) ⟨rfl, Gr.refl _ _⟩) ?_
 refine Lx_c (i := 3) rfl rfl (fun w17 hw18 => ?_)
 have H19 := H6.ext hw18
 refine (R_callL (vs := [(slV hb b), (.int .i64 s.T)]) obj_at_c39 rfl rfl ((enc_Num hb b s.T w17 (H19.slOld 0 rfl) (by omega)).ret ?_))
 rintro _ w21 ⟨h20, rfl, hx22, ho23⟩
 have H24 := H19.addRow hx22 ho23
 refine ⟨GrF.ofExt hx22, ?_⟩
 refine Lx_c (i := 6) rfl rfl (fun w25 hw26 => ?_)
 have H27 := H24.ext hw26
 refine (R_callL (vs := [(slV h20 (b ++ numB s.T)), (.int .i64 s.R)]) obj_at_c39 rfl rfl ((enc_Num h20 (b ++ numB s.T) s.R w25 (H27.rowSl 0 rfl (fun _ => rfl)) (by have := numB_len s.T; simp only [List.length_append]; omega)).ret ?_))
 rintro _ w29 ⟨h28, rfl, hx30, ho31⟩
 have H32 := H27.addRow hx30 ho31
 refine ⟨GrF.ofExt hx30, ?_⟩
 refine Lx_q (i := 7) rfl rfl _ (fun v33 hv34 => R_assign (v := (slV h28 ((b ++ numB s.T) ++ numB s.R))) rfl ⟨rfl, Gr.refl _ _⟩) ?_
 refine Lx_nil (fun w35 hw36 => ?_)
 have H37 := H32.ext hw36
 refine Then_n (W_ret ?_)
 refine ret_1 (v := (slV h28 ((b ++ numB s.T) ++ numB s.R))) Tryz.results42 rfl ?_
 have hE : (b ++ numB s.T) ++ numB s.R = b ++ atB s := (List.append_assoc _ _ _)
 refine ⟨h28, ?_, H37.gr, ?_⟩
 · exact congrArg (fun l => slV h28 l) hE
 · have hO := H37.retRow 0 rfl
   exact hE ▸ hO

end Go.Proofs.YthjdhfoeckfmbaaGreat
namespace Go.Proofs.YthjdhfoeckfmbaaGreat
open Go
set_option maxRecDepth 100000
set_option linter.unusedVariables false
set_option linter.unusedSimpArgs false
set_option linter.unusedSectionVars false
theorem obj_PutDir_c38 : callable Tryz.prog 38 = true := by kernel_rfl
theorem obj_PutDir_c39 : callable Tryz.prog 39 = true := by kernel_rfl
theorem obj_PutDir_c40 : callable Tryz.prog 40 = true := by kernel_rfl
theorem obj_PutDir_c41 : callable Tryz.prog 41 = true := by kernel_rfl
theorem obj_PutDir_c42 : callable Tryz.prog 42 = true := by kernel_rfl
set_option maxHeartbeats 2000000 in
theorem obj_PutDir (hitems : SlH) (items : List ItemS) (w : World) (Sitems : Sl (Old w) itemCh 38 hitems items w) (Ditems_heads : ∀ x ∈ items, Sl (Old w) headCh 34 x.hh x.heads w) :
    Calls Tryz.prog 15 #[(slV hitems items)] w (Ret fun v w' => ∃ h0, v = .tuple #[slV h0 (putDirB items), (.int .i64 (putDirE items))] ∧ Ext w w' ∧ OwnS w.heap.size 5 1 encB h0 (putDirB items) w') := by
 refine calls_W Tryz.func15 rfl Tryz.ntmps15 rfl ?_
 have H0 := Ctx.start w nob
 have H1 := H0.addSl _ Sitems (fun b hb => ⟨hb, fun _ ho => (nomatch ho)⟩)
 have LSitems := Sitems.len
 have H2 := H1.addImm' (deepI (Old w) headCh 34 (fun x : ItemS => x.hh) (fun x : ItemS => x.heads) items) Ditems_heads (fun b hb => ⟨hb, fun _ ho => (nomatch ho)⟩)
 refine W_seq (W_reg ?_)
 refine O_v rfl (R_assign (v := (.slice none 0 0)) rfl ?_)
 refine O_v rfl (R_assign (v := (.int .i64 0)) rfl ?_)
 refine O_nil (Then_n (W_seq (W_seq (W_reg ?_))))
 refine O_v rfl (R_move (v := (slV hitems items)) rfl ?_)
 refine O_v rfl (R_callL (vs := [(slV hitems items)]) obj_PutDir_c38 rfl rfl ((obj_rightDir hitems items w (H2.slOld 1 rfl) (H2.deepOld 0 rfl)).ret ?_))
 rintro _ w3 ⟨rfl, hx4⟩
 have H5 := H2.ext hx4
 refine O_v rfl (R_not rfl ?_)
 refine O_nil (Then_n ?_)
 refine W_cond (t := (!(dirOk items))) rfl (fun hc6 => ?_) (fun hc6 => ?_)
 ·have hc6 : (dirOk items) = false := (notT hc6)
  refine W_seq (W_reg ?_)
  refine O_v rfl (R_assign (v := (.slice none 0 0)) rfl ?_)
  refine O_v rfl (R_assign (v := (.int .i64 1)) rfl ?_)
  refine O_nil (Then_n (W_ret (Then_r ?_)))
  refine ret_2 (v := (.slice none 0 0)) (v' := (.int .i64 1)) Tryz.results15 rfl rfl ?_
  have H7 := H5.addNil 5 1 encB
  have hE : [] = putDirB items := (putDir_no (by assumption)).1
  have hV : 1 = putDirE items := (putDir_no (by assumption)).2
  refine ⟨nilH, ?_, H7.gr, ?_⟩
  · exact two_eq (fun l n => Value.tuple #[slV nilH l, Value.int .i64 n]) hE hV
  · have hO := H7.retRow 0 rfl
    exact hE ▸ hO
 ·have hc6 : (dirOk items) = true := (notF hc6)
  refine W_skip (Then_n (W_seq (W_reg ?_)))
  refine O_v rfl (C_buildSliceL H5 (enc := encB) (val := byteV) ([2] : List UInt8) Tryz.underlying22 Tryz.sizeOf5 Tryz.zeroValue5 rfl (by decide) (fun _ => rfl) (fun _ => rfl) rfl rfl (by decide) ?_)
  intro b8 w9 hb10 hx11 H12
  refine O_v rfl (R_move (v := (slV hitems items)) rfl ?_)
  refine O_v rfl (R_len_slice (a := hitems.a) (n := items.length) (c := hitems.c) Tryz.underlying31 rfl ?_)
  refine O_v rfl (R_callL (vs := [(slV ⟨some ⟨b8, 0, none⟩, b8, 0, 1⟩ ([2] : List UInt8)), (.int .i64 ((items.length : Nat) : Int))]) obj_PutDir_c39 rfl rfl ((enc_Num ⟨some ⟨b8, 0, none⟩, b8, 0, 1⟩ ([2] : List UInt8) ((items.length : Nat) : Int) w9 (H12.rowSl 0 rfl (fun _ => rfl)) (by decide)).ret ?_))
  rintro _ w14 ⟨h13, rfl, hx15, ho16⟩
  have H17 := H12.addRow hx15 ho16
  refine O_v rfl (R_assign (v := (slV h13 (([2] : List UInt8) ++ numB ((items.length : Nat) : Int)))) rfl ?_)
  refine O_nil (Then_n (W_seq (W_seq (W_reg ?_))))
  refine O_v rfl (R_move (v := (slV hitems items)) rfl ?_)
  refine O_v rfl (R_len_slice (a := hitems.a) (n := items.length) (c := hitems.c) Tryz.underlying31 rfl ?_)
  refine O_v rfl (R_move (v := (.int .i64 0)) rfl ?_)
  refine O_nil (Then_n (W_block ?_))
  refine W_loop (fun m19 e20 w21 => ∃ (k : Nat), ∃ (acc : List UInt8), ∃ (h18 : SlH), m19 = items.length - k ∧ (k ≤ items.length) ∧ (acc = dirTo items k) ∧ (acc.length ≤ 10 + k * 51000) ∧ (dirOk items = true) ∧ ∃ eb22, e20 = envL [(2, (.slice none 0 0)), (3, (.int .i64 0)), (4, (slV h18 acc)), (16, (slV hitems items)), (17, (.int .i64 ((items.length : Nat) : Int))), (18, (.int .i64 ((k : Nat) : Int)))] eb22 ∧ Ctx w nob w21 [rowR 5 1 encB h18 acc, rowR 5 1 encB ⟨some ⟨b8, 0, none⟩, b8, 0, 1⟩ ([2] : List UInt8)] [deepI (Old w) headCh 34 (fun x : ItemS => x.hh) (fun x : ItemS => x.heads) items, slI (Old w) itemCh 38 hitems items]) _ ⟨0, (([2] : List UInt8) ++ numB ((items.length : Nat) : Int)), h13, rfl, (by omega), (dirTo_zero items), (by have := numB_len (items.length : Nat); simp only [List.length_append, List.length_cons, List.length_nil]; omega), (by assumption), _, envL_self ⟨rfl, rfl, rfl, rfl, rfl, rfl, trivial⟩, H17⟩ ?_
  rintro m19 _ w21 ⟨k, acc, h18, rfl, hk, ha, hal, hD, eb22, rfl, H23⟩
  refine W_seq (W_reg ?_)
  refine O_v rfl (R_cmp (a := ((k : Nat) : Int)) (b := ((items.length : Nat) : Int)) (r := (decide (((k : Nat) : Int) < ((items.length : Nat) : Int)))) rfl rfl rfl ?_)
  refine O_nil (Then_n (W_seq ?_))
  refine W_cond (t := (decide (((k : Nat) : Int) < ((items.length : Nat) : Int)))) rfl (fun hc24 => ?_) (fun hc24 => ?_)
  ·have hc24 : (((k : Nat) : Int) < ((items.length : Nat) : Int)) := (of_decide_eq_true hc24)
   refine W_skip (Then_n (W_seq (W_block (W_seq (W_reg ?_)))))
   refine O_v rfl (R_index_pure (H23.sl 1 rfl) (n := items.length) rfl (j := ((k : Nat) : Int)) (oo := (hitems.o + k * 38)) Tryz.underlying31 Tryz.sizeOf77 rfl rfl (by omega) (by omega) rfl ?_)
   refine O_v rfl (R_loadA (cs := [[(.int .i64 (((nth items k).node).T))], [(.int .i64 (((nth items k).node).R))], [(.int .i64 (((nth items k).tm).T))], [(.int .i64 (((nth items k).tm).R))], [(.string ((nth items k).name))], (idCells ((nth items k).sub)), [(slV ((nth items k).hh) ((nth items k).heads))]]) Tryz.isAgg77 Tryz.sizeOf77 rfl rfl ((Sl.elem (H23.sl 1 rfl) (i := k) (by omega) rfl).chunks 0 7 0 (hitems.o + k * 38) _ rfl rfl rfl) ?_)
   refine O_v rfl (C_alloc H23 [[(.int .i64 0)], [(.int .i64 0)], [(.int .i64 0)], [(.int .i64 0)], [(.string ByteArray.empty)], (idCells zeroId), [(.slice none 0 0)]] Tryz.zeroValue77 ?_)
   intro b25 w26 hb27 hx28 H29
   refine O_u (C_storeA H29 0 rfl 0 (sub := [[(.int .i64 (((nth items k).node).T))], [(.int .i64 (((nth items k).node).R))], [(.int .i64 (((nth items k).tm).T))], [(.int .i64 (((nth items k).tm).R))], [(.string ((nth items k).name))], (idCells ((nth items k).sub)), [(slV ((nth items k).hh) ((nth items k).heads))]]) [[(.int .i64 (((nth items k).node).T))], [(.int .i64 (((nth items k).node).R))], [(.int .i64 (((nth items k).tm).T))], [(.int .i64 (((nth items k).tm).R))], [(.string ((nth items k).name))], (idCells ((nth items k).sub)), [(slV ((nth items k).hh) ((nth items k).heads))]] Tryz.sizeOf77 rfl rfl rfl rfl ⟨[[(.int .i64 0)], [(.int .i64 0)], [(.int .i64 0)], [(.int .i64 0)], [(.string ByteArray.empty)], (idCells zeroId), [(.slice none 0 0)]], [], rfl, rfl, rfl⟩ rfl ?_)
   intro w30 hg31 H32
   refine O_nil (Then_n (W_seq ?_))
   refine W_rgdM TryzMixed nob (fun i => if i == 17 then 2 else 0) [(0, .q 2), (1, .q 2), (2, .q 0), (4, .q 2), (5, .q 0), (7, .q 2), (8, .q 0), (10, .q 2), (11, .q 0), (13, .q 2), (14, .q 0), (15, .q 2), (3, .c 0), (6, .c 0), (9, .c 0), (12, .c 0), (16, .c 0), (17, .c 2), (18, .q 2)] (by kernel_rfl) ?_
   refine Lx_q (i := 0) rfl rfl _ (fun v33 hv34 => R_move (v := (slV h18 acc)) rfl ⟨rfl, Gr.refl _ _⟩) ?_
   refine Lx_q (i := 1) rfl rfl _ (fun v35 hv36 => R_fieldAddr (off := 0) (oo := 0) Tryz.underlying77 rfl rfl Tryz.sizeOf69 rfl rfl ⟨rfl, Gr.refl _ _⟩) ?_
   refine Lx_q (i := 2) rfl rfl _ (fun v37 hv38 => R_loadA (cs := [[(.int .i64 (((nth items k).node).T))], [(.int .i64 (((nth items k).node).R))]]) Tryz.isAgg69 Tryz.sizeOf69 rfl rfl ((boxR_at ((H32.ext hv38).getOwn 0 rfl)).chunks 0 2 0 0 _ rfl rfl rfl) ⟨rfl, Gr.refl _ _⟩) ?_
   refine Lx_q (i := 4) rfl rfl _ (fun v39 hv40 => R_fieldAddr (off := 2) (oo := 2) Tryz.underlying77 rfl rfl Tryz.sizeOf69 rfl rfl ⟨rfl, Gr.refl _ _⟩) ?_
   refine Lx_q (i := 5) rfl rfl _ (fun v41 hv42 => R_loadA (cs := [[(.int .i64 (((nth items k).tm).T))], [(.int .i64 (((nth items k).tm).R))]]) Tryz.isAgg69 Tryz.sizeOf69 rfl rfl ((boxR_at ((H32.ext hv42).getOwn 0 rfl)).chunks 2 2 2 2 _ rfl rfl rfl) ⟨rfl, Gr.refl _ _⟩) ?_
   refine Lx_q (i := 7) rfl rfl _ (fun v43 hv44 => R_fieldAddr (off := 4) (oo := 4) Tryz.underlying77 rfl rfl Tryz.sizeOf9 rfl rfl ⟨rfl, Gr.refl _ _⟩) ?_
   refine Lx_q (i := 8) rfl rfl _ (fun v45 hv46 => R_load1 (v := (.string ((nth items k).name))) Tryz.isAgg9 rfl ((boxR_at ((H32.ext hv46).getOwn 0 rfl)).chunks 4 1 4 4 _ rfl rfl rfl) ⟨rfl, Gr.refl _ _⟩) ?_
   refine Lx_q (i := 10) rfl rfl _ (fun v47 hv48 => R_fieldAddr (off := 5) (oo := 5) Tryz.underlying77 rfl rfl Tryz.sizeOf45 rfl rfl ⟨rfl, Gr.refl _ _⟩) ?_
   refine Lx_q (i := 11) rfl rfl _ (fun v49 hv50 => R_loadA (cs := [(idCells ((nth items k).sub))]) Tryz.isAgg45 Tryz.sizeOf45 rfl rfl ((boxR_at ((H32.ext hv50).getOwn 0 rfl)).chunks 5 1 5 5 _ rfl rfl rfl) ⟨rfl, Gr.refl _ _⟩) ?_
   refine Lx_q (i := 13) rfl rfl _ (fun v51 hv52 => R_fieldAddr (off := 37) (oo := 37) Tryz.underlying77 rfl rfl Tryz.sizeOf75 rfl rfl ⟨rfl, Gr.refl _ _⟩) ?_
   refine Lx_q (i := 14) rfl rfl _ (fun v53 hv54 => R_load1 (v := (slV ((nth items k).hh) ((nth items k).heads))) Tryz.isAgg75 rfl ((boxR_at ((H32.ext hv54).getOwn 0 rfl)).chunks 6 1 37 37 _ rfl rfl rfl) ⟨rfl, Gr.refl _ _⟩) ?_
   refine Lx_q (i := 15) rfl rfl _ (fun v55 hv56 => R_len_slice (a := ((nth items k).hh).a) (n := ((nth items k).heads).length) (c := ((nth items k).hh).c) Tryz.underlying75 rfl ⟨rfl, Gr.refl _ _⟩) ?_
   refine Lx_c (i := 3) rfl rfl (fun w57 hw58 => ?_)
   have H59 := H32.ext hw58
   refine (R_callL (vs := [(.slice none 0 0), (aggOf (stampCh ((nth items k).node)))]) obj_PutDir_c42 rfl rfl ((obj_at nilH [] ((nth items k).node) w57 (Sl.nil _ _ _ _) (by decide)).ret ?_))
   rintro _ w61 ⟨h60, rfl, hx62, ho63⟩
   have H64 := H59.addRow hx62 ho63
   refine ⟨GrF.ofExt hx62, ?_⟩
   refine Lx_c (i := 6) rfl rfl (fun w65 hw66 => ?_)
   have H67 := H64.ext hw66
   refine (R_callL (vs := [(slV h60 ([] ++ atB ((nth items k).node))), (aggOf (stampCh ((nth items k).tm)))]) obj_PutDir_c42 rfl rfl ((obj_at h60 ([] ++ atB ((nth items k).node)) ((nth items k).tm) w65 (H67.rowSl 0 rfl (fun _ => rfl)) (by have h1 := atB_len (nth items k).node; have h2 := atB_len (nth items k).tm; have h3 := (dirOk_lens hD (show k < items.length by omega)); have h4 := textB_len (nth items k).name; have h5 := numB_len ((nth items k).heads.length : Nat); simp only [List.length_append, List.length_nil, idList_len]; omega)).ret ?_))
   rintro _ w69 ⟨h68, rfl, hx70, ho71⟩
   have H72 := H67.addRow hx70 ho71
   refine ⟨GrF.ofExt hx70, ?_⟩
   refine Lx_c (i := 9) rfl rfl (fun w73 hw74 => ?_)
   have H75 := H72.ext hw74
   refine (R_callL (vs := [(slV h68 (([] ++ atB ((nth items k).node)) ++ atB ((nth items k).tm))), (.string ((nth items k).name))]) obj_PutDir_c41 rfl rfl ((enc_Text h68 (([] ++ atB ((nth items k).node)) ++ atB ((nth items k).tm)) ((nth items k).name) w73 (H75.rowSl 0 rfl (fun _ => rfl)) (by have h1 := atB_len (nth items k).node; have h2 := atB_len (nth items k).tm; have h3 := (dirOk_lens hD (show k < items.length by omega)); have h4 := textB_len (nth items k).name; have h5 := numB_len ((nth items k).heads.length : Nat); simp only [List.length_append, List.length_nil, idList_len]; omega)).ret ?_))
   rintro _ w77 ⟨h76, rfl, hx78, ho79⟩
   have H80 := H75.addRow hx78 ho79
   refine ⟨GrF.ofExt hx78, ?_⟩
   refine Lx_c (i := 12) rfl rfl (fun w81 hw82 => ?_)
   have H83 := H80.ext hw82
   refine (R_callL (vs := [(slV h76 ((([] ++ atB ((nth items k).node)) ++ atB ((nth items k).tm)) ++ textB ((nth items k).name))), (aggOf (idCh ((nth items k).sub)))]) obj_PutDir_c40 rfl rfl ((enc_Id h76 ((([] ++ atB ((nth items k).node)) ++ atB ((nth items k).tm)) ++ textB ((nth items k).name)) ((nth items k).sub) w81 (H83.rowSl 0 rfl (fun _ => rfl)) (by have h1 := atB_len (nth items k).node; have h2 := atB_len (nth items k).tm; have h3 := (dirOk_lens hD (show k < items.length by omega)); have h4 := textB_len (nth items k).name; have h5 := numB_len ((nth items k).heads.length : Nat); simp only [List.length_append, List.length_nil, idList_len]; omega)).ret ?_))
   rintro _ w85 ⟨h84, rfl, hx86, ho87⟩
   have H88 := H83.addRow hx86 ho87
   refine ⟨GrF.ofExt hx86, ?_⟩
   refine Lx_c (i := 16) rfl rfl (fun w89 hw90 => ?_)
   have H91 := H88.ext hw90
   refine (R_callL (vs := [(slV h84 (((([] ++ atB ((nth items k).node)) ++ atB ((nth items k).tm)) ++ textB ((nth items k).name)) ++ idList ((nth items k).sub))), (.int .i64 ((((nth items k).heads).length : Nat) : Int))]) obj_PutDir_c39 rfl rfl ((enc_Num h84 (((([] ++ atB ((nth items k).node)) ++ atB ((nth items k).tm)) ++ textB ((nth items k).name)) ++ idList ((nth items k).sub)) ((((nth items k).heads).length : Nat) : Int) w89 (H91.rowSl 0 rfl (fun _ => rfl)) (by have h1 := atB_len (nth items k).node; have h2 := atB_len (nth items k).tm; have h3 := (dirOk_lens hD (show k < items.length by omega)); have h4 := textB_len (nth items k).name; have h5 := numB_len ((nth items k).heads.length : Nat); simp only [List.length_append, List.length_nil, idList_len]; omega)).ret ?_))
   rintro _ w93 ⟨h92, rfl, hx94, ho95⟩
   have H96 := H91.addRow hx94 ho95
   refine ⟨GrF.ofExt hx94, ?_⟩
   refine Lx_c (i := 17) rfl rfl (fun w97 hw98 => ?_)
   have H99 := H96.ext hw98
   refine (C_append H99 6 rfl (bytes := 1) (l := acc) (ys := ((((([] ++ atB ((nth items k).node)) ++ atB ((nth items k).tm)) ++ textB ((nth items k).name)) ++ idList ((nth items k).sub)) ++ numB ((((nth items k).heads).length : Nat) : Int))) Tryz.underlying22 rfl rfl rfl rfl rfl (by decide) rfl rfl (OwnS.sl (H99.getOwn 0 rfl) (fun _ => rfl)) (fun _ => rfl) (fun _ => rfl) (by have h1 := atB_len (nth items k).node; have h2 := atB_len (nth items k).tm; have h3 := (dirOk_lens hD (show k < items.length by omega)); have h4 := textB_len (nth items k).name; have h5 := numB_len ((nth items k).heads.length : Nat); simp only [List.length_append, List.length_nil, idList_len]; omega) (by decide) ?_)
   intro h100 w101 hg102 H103
   refine ⟨Gr.mono (M' := fun _ => True) hg102 (fun _ _ => trivial), ?_⟩
   refine Lx_q (i := 18) rfl rfl _ (fun v104 hv105 => R_assign (v := (slV h100 (acc ++ ((((([] ++ atB ((nth items k).node)) ++ atB ((nth items k).tm)) ++ textB ((nth items k).name)) ++ idList ((nth items k).sub)) ++ numB ((((nth items k).heads).length : Nat) : Int))))) rfl ⟨rfl, Gr.refl _ _⟩) ?_
   refine Lx_nil (fun w106 hw107 => ?_)
   have H108 := H103.ext hw107
   refine Then_n (W_seq (W_reg ?_))
   refine O_v rfl (R_fieldAddr (off := 37) (oo := 37) Tryz.underlying77 rfl rfl Tryz.sizeOf75 rfl rfl ?_)
   refine O_v rfl (R_load1 (v := (slV ((nth items k).hh) ((nth items k).heads))) Tryz.isAgg75 rfl ((boxR_at (H108.getOwn 5 rfl)).chunks 6 1 37 37 _ rfl rfl rfl) ?_)
   refine O_v rfl (R_len_slice (a := ((nth items k).hh).a) (n := ((nth items k).heads).length) (c := ((nth items k).hh).c) Tryz.underlying75 rfl ?_)
   refine O_v rfl (R_move (v := (.int .i64 0)) rfl ?_)
   refine O_nil (Then_n (W_block ?_))
   refine W_loop (fun m110 e111 w112 => ∃ (j : Nat), ∃ (acc2 : List UInt8), ∃ (h109 : SlH), m110 = (nth items k).heads.length - j ∧ (j ≤ (nth items k).heads.length) ∧ (acc2 = acc ++ itemTo (nth items k) j) ∧ (acc2.length ≤ 10 + k * 51000 + 200 + j * 50) ∧ ((nth items k).heads.length ≤ 1000) ∧ (items.length ≤ 1000) ∧ ∃ eb113, e111 = envL [(2, (.slice none 0 0)), (3, (.int .i64 0)), (4, (slV h109 acc2)), (6, (.pointer (some ⟨b25, 0, none⟩))), (16, (slV hitems items)), (17, (.int .i64 ((items.length : Nat) : Int))), (18, (.int .i64 ((k : Nat) : Int))), (19, (.bool (decide (((k : Nat) : Int) < ((items.length : Nat) : Int))))), (20, (.pointer (some ⟨hitems.b, (hitems.o + k * 38), none⟩))), (21, (aggOf (itemCh (nth items k)))), (22, (slV h18 acc)), (23, (.pointer (some ⟨b25, 0, none⟩))), (24, (aggOf (stampCh ((nth items k).node)))), (25, (slV h60 ([] ++ atB ((nth items k).node)))), (26, (.pointer (some ⟨b25, 2, none⟩))), (27, (aggOf (stampCh ((nth items k).tm)))), (28, (slV h68 (([] ++ atB ((nth items k).node)) ++ atB ((nth items k).tm)))), (29, (.pointer (some ⟨b25, 4, none⟩))), (30, (.string ((nth items k).name))), (31, (slV h76 ((([] ++ atB ((nth items k).node)) ++ atB ((nth items k).tm)) ++ textB ((nth items k).name)))), (32, (.pointer (some ⟨b25, 5, none⟩))), (33, (aggOf (idCh ((nth items k).sub)))), (34, (slV h84 (((([] ++ atB ((nth items k).node)) ++ atB ((nth items k).tm)) ++ textB ((nth items k).name)) ++ idList ((nth items k).sub)))), (35, (.pointer (some ⟨b25, 37, none⟩))), (36, (slV ((nth items k).hh) ((nth items k).heads))), (37, (.int .i64 ((((nth items k).heads).length : Nat) : Int))), (38, (slV h92 ((((([] ++ atB ((nth items k).node)) ++ atB ((nth items k).tm)) ++ textB ((nth items k).name)) ++ idList ((nth items k).sub)) ++ numB ((((nth items k).heads).length : Nat) : Int)))), (39, (slV h100 (acc ++ ((((([] ++ atB ((nth items k).node)) ++ atB ((nth items k).tm)) ++ textB ((nth items k).name)) ++ idList ((nth items k).sub)) ++ numB ((((nth items k).heads).length : Nat) : Int))))), (40, (.pointer (some ⟨b25, 37, none⟩))), (41, (slV ((nth items k).hh) ((nth items k).heads))), (42, (.int .i64 ((((nth items k).heads).length : Nat) : Int))), (43, (.int .i64 ((j : Nat) : Int)))] eb113 ∧ Ctx w nob w112 [rowR 5 1 encB h92 ((((([] ++ atB ((nth items k).node)) ++ atB ((nth items k).tm)) ++ textB ((nth items k).name)) ++ idList ((nth items k).sub)) ++ numB ((((nth items k).heads).length : Nat) : Int)), rowR 5 1 encB h84 (((([] ++ atB ((nth items k).node)) ++ atB ((nth items k).tm)) ++ textB ((nth items k).name)) ++ idList ((nth items k).sub)), rowR 5 1 encB h76 ((([] ++ atB ((nth items k).node)) ++ atB ((nth items k).tm)) ++ textB ((nth items k).name)), rowR 5 1 encB h68 (([] ++ atB ((nth items k).node)) ++ atB ((nth items k).tm)), rowR 5 1 encB h60 ([] ++ atB ((nth items k).node)), boxR b25 77 [[(.int .i64 (((nth items k).node).T))], [(.int .i64 (((nth items k).node).R))], [(.int .i64 (((nth items k).tm).T))], [(.int .i64 (((nth items k).tm).R))], [(.string ((nth items k).name))], (idCells ((nth items k).sub)), [(slV ((nth items k).hh) ((nth items k).heads))]], rowR 5 1 encB h109 acc2, rowR 5 1 encB ⟨some ⟨b8, 0, none⟩, b8, 0, 1⟩ ([2] : List UInt8)] [deepI (Old w) headCh 34 (fun x : ItemS => x.hh) (fun x : ItemS => x.heads) items, slI (Old w) itemCh 38 hitems items]) _ ⟨0, (acc ++ ((((([] ++ atB ((nth items k).node)) ++ atB ((nth items k).tm)) ++ textB ((nth items k).name)) ++ idList ((nth items k).sub)) ++ numB ((((nth items k).heads).length : Nat) : Int))), h100, rfl, (by omega), (item_start acc (nth items k)), (by have h1 := atB_len (nth items k).node; have h2 := atB_len (nth items k).tm; have h3 := (dirOk_lens hD (show k < items.length by omega)); have h4 := textB_len (nth items k).name; have h5 := numB_len ((nth items k).heads.length : Nat); simp only [List.length_append, List.length_nil, idList_len]; omega), (dirOk_lens hD (show k < items.length by omega)).2.1, (dirOk_lens hD (show k < items.length by omega)).2.2, _, envL_self ⟨rfl, rfl, rfl, rfl, rfl, rfl, rfl, rfl, rfl, rfl, rfl, rfl, rfl, rfl, rfl, rfl, rfl, rfl, rfl, rfl, rfl, rfl, rfl, rfl, rfl, rfl, rfl, rfl, rfl, rfl, rfl, rfl, trivial⟩, H108⟩ ?_
   rintro m110 _ w112 ⟨j, acc2, h109, rfl, hj, ha2, hal2, hx, hki, eb113, rfl, H114⟩
   refine W_seq (W_reg ?_)
   refine O_v rfl (R_cmp (a := ((j : Nat) : Int)) (b := ((((nth items k).heads).length : Nat) : Int)) (r := (decide (((j : Nat) : Int) < ((((nth items k).heads).length : Nat) : Int)))) rfl rfl rfl ?_)
   refine O_nil (Then_n (W_seq ?_))
   refine W_cond (t := (decide (((j : Nat) : Int) < ((((nth items k).heads).length : Nat) : Int)))) rfl (fun hc115 => ?_) (fun hc115 => ?_)
   ·have hc115 : (((j : Nat) : Int) < ((((nth items k).heads).length : Nat) : Int)) := (of_decide_eq_true hc115)
    refine W_skip (Then_n (W_seq (W_block (W_seq (W_reg ?_)))))
    refine O_v rfl (R_index_pure (Sl.as ((nth items k).hh) ((nth items k).heads) ((H114.getImm 0 rfl) _ (nth_mem (by omega)))) (n := ((nth items k).heads).length) rfl (j := ((j : Nat) : Int)) (oo := (((nth items k).hh).o + j * 34)) Tryz.underlying75 Tryz.sizeOf84 rfl rfl (by omega) (by omega) rfl ?_)
    refine O_v rfl (R_loadA (cs := [[(.int .i64 (((nth ((nth items k).heads) j).tm).T))], [(.int .i64 (((nth ((nth items k).heads) j).tm).R))], (idCells ((nth ((nth items k).heads) j).data))]) Tryz.isAgg84 Tryz.sizeOf84 rfl rfl ((Sl.elem (Sl.as ((nth items k).hh) ((nth items k).heads) ((H114.getImm 0 rfl) _ (nth_mem (by omega)))) (i := j) (by omega) rfl).chunks 0 3 0 (((nth items k).hh).o + j * 34) _ rfl rfl rfl) ?_)
    refine O_v rfl (C_alloc H114 [[(.int .i64 0)], [(.int .i64 0)], (idCells zeroId)] Tryz.zeroValue84 ?_)
    intro b116 w117 hb118 hx119 H120
    refine O_u (C_storeA H120 0 rfl 0 (sub := [[(.int .i64 (((nth ((nth items k).heads) j).tm).T))], [(.int .i64 (((nth ((nth items k).heads) j).tm).R))], (idCells ((nth ((nth items k).heads) j).data))]) [[(.int .i64 (((nth ((nth items k).heads) j).tm).T))], [(.int .i64 (((nth ((nth items k).heads) j).tm).R))], (idCells ((nth ((nth items k).heads) j).data))] Tryz.sizeOf84 rfl rfl rfl rfl ⟨[[(.int .i64 0)], [(.int .i64 0)], (idCells zeroId)], [], rfl, rfl, rfl⟩ rfl ?_)
    intro w121 hg122 H123
    refine O_nil (Then_n ?_)
    refine W_rgdM TryzMixed nob (fun i => if i == 7 then 2 else 0) [(0, .q 2), (1, .q 2), (2, .q 0), (4, .q 2), (5, .q 0), (3, .c 0), (6, .c 0), (7, .c 2), (8, .q 2)] (by kernel_rfl) ?_
    refine Lx_q (i := 0) rfl rfl _ (fun v124 hv125 => R_move (v := (slV h109 acc2)) rfl ⟨rfl, Gr.refl _ _⟩) ?_
    refine Lx_q (i := 1) rfl rfl _ (fun v126 hv127 => R_fieldAddr (off := 0) (oo := 0) Tryz.underlying84 rfl rfl Tryz.sizeOf69 rfl rfl ⟨rfl, Gr.refl _ _⟩) ?_
    refine Lx_q (i := 2) rfl rfl _ (fun v128 hv129 => R_loadA (cs := [[(.int .i64 (((nth ((nth items k).heads) j).tm).T))], [(.int .i64 (((nth ((nth items k).heads) j).tm).R))]]) Tryz.isAgg69 Tryz.sizeOf69 rfl rfl ((boxR_at ((H123.ext hv129).getOwn 0 rfl)).chunks 0 2 0 0 _ rfl rfl rfl) ⟨rfl, Gr.refl _ _⟩) ?_
    refine Lx_q (i := 4) rfl rfl _ (fun v130 hv131 => R_fieldAddr (off := 2) (oo := 2) Tryz.underlying84 rfl rfl Tryz.sizeOf45 rfl rfl ⟨rfl, Gr.refl _ _⟩) ?_
    refine Lx_q (i := 5) rfl rfl _ (fun v132 hv133 => R_loadA (cs := [(idCells ((nth ((nth items k).heads) j).data))]) Tryz.isAgg45 Tryz.sizeOf45 rfl rfl ((boxR_at ((H123.ext hv133).getOwn 0 rfl)).chunks 2 1 2 2 _ rfl rfl rfl) ⟨rfl, Gr.refl _ _⟩) ?_
    refine Lx_c (i := 3) rfl rfl (fun w134 hw135 => ?_)
    have H136 := H123.ext hw135
    refine (R_callL (vs := [(.slice none 0 0), (aggOf (stampCh ((nth ((nth items k).heads) j).tm)))]) obj_PutDir_c42 rfl rfl ((obj_at nilH [] ((nth ((nth items k).heads) j).tm) w134 (Sl.nil _ _ _ _) (by decide)).ret ?_))
    rintro _ w138 ⟨h137, rfl, hx139, ho140⟩
    have H141 := H136.addRow hx139 ho140
    refine ⟨GrF.ofExt hx139, ?_⟩
    refine Lx_c (i := 6) rfl rfl (fun w142 hw143 => ?_)
    have H144 := H141.ext hw143
    refine (R_callL (vs := [(slV h137 ([] ++ atB ((nth ((nth items k).heads) j).tm))), (aggOf (idCh ((nth ((nth items k).heads) j).data)))]) obj_PutDir_c40 rfl rfl ((enc_Id h137 ([] ++ atB ((nth ((nth items k).heads) j).tm)) ((nth ((nth items k).heads) j).data) w142 (H144.rowSl 0 rfl (fun _ => rfl)) (by have h1 := atB_len (nth (nth items k).heads j).tm; have h3 := (dirOk_lens hD (show k < items.length by omega)); simp only [List.length_append, List.length_nil, List.length_cons, idList_len]; omega)).ret ?_))
    rintro _ w146 ⟨h145, rfl, hx147, ho148⟩
    have H149 := H144.addRow hx147 ho148
    refine ⟨GrF.ofExt hx147, ?_⟩
    refine Lx_c (i := 7) rfl rfl (fun w150 hw151 => ?_)
    have H152 := H149.ext hw151
    refine (C_append H152 9 rfl (bytes := 1) (l := acc2) (ys := (([] ++ atB ((nth ((nth items k).heads) j).tm)) ++ idList ((nth ((nth items k).heads) j).data))) Tryz.underlying22 rfl rfl rfl rfl rfl (by decide) rfl rfl (OwnS.sl (H152.getOwn 0 rfl) (fun _ => rfl)) (fun _ => rfl) (fun _ => rfl) (by have h1 := atB_len (nth (nth items k).heads j).tm; have h3 := (dirOk_lens hD (show k < items.length by omega)); simp only [List.length_append, List.length_nil, List.length_cons, idList_len]; omega) (by decide) ?_)
    intro h153 w154 hg155 H156
    refine ⟨Gr.mono (M' := fun _ => True) hg155 (fun _ _ => trivial), ?_⟩
    refine Lx_q (i := 8) rfl rfl _ (fun v157 hv158 => R_assign (v := (slV h153 (acc2 ++ (([] ++ atB ((nth ((nth items k).heads) j).tm)) ++ idList ((nth ((nth items k).heads) j).data))))) rfl ⟨rfl, Gr.refl _ _⟩) ?_
    refine Lx_nil (fun w159 hw160 => ?_)
    have H161 := H156.ext hw160
    refine Blk_n (Then_n (W_reg ?_))
    refine O_v rfl (R_arith (a := ((j : Nat) : Int)) (b := 1) (r0 := ((j : Nat) : Int) + 1) (r := ((j + 1 : Nat) : Int)) rfl rfl rfl (wrapN _ (by omega)) ?_)
    refine O_v rfl (R_move (v := (.int .i64 ((j + 1 : Nat) : Int))) rfl ?_)
    refine O_nil (Then_n ?_)
    have H162 := H161.sub (B' := [rowR 5 1 encB h92 ((((([] ++ atB ((nth items k).node)) ++ atB ((nth items k).tm)) ++ textB ((nth items k).name)) ++ idList ((nth items k).sub)) ++ numB ((((nth items k).heads).length : Nat) : Int)), rowR 5 1 encB h84 (((([] ++ atB ((nth items k).node)) ++ atB ((nth items k).tm)) ++ textB ((nth items k).name)) ++ idList ((nth items k).sub)), rowR 5 1 encB h76 ((([] ++ atB ((nth items k).node)) ++ atB ((nth items k).tm)) ++ textB ((nth items k).name)), rowR 5 1 encB h68 (([] ++ atB ((nth items k).node)) ++ atB ((nth items k).tm)), rowR 5 1 encB h60 ([] ++ atB ((nth items k).node)), boxR b25 77 [[(.int .i64 (((nth items k).node).T))], [(.int .i64 (((nth items k).node).R))], [(.int .i64 (((nth items k).tm).T))], [(.int .i64 (((nth items k).tm).R))], [(.string ((nth items k).name))], (idCells ((nth items k).sub)), [(slV ((nth items k).hh) ((nth items k).heads))]], rowR 5 1 encB h153 (acc2 ++ (([] ++ atB ((nth ((nth items k).heads) j).tm)) ++ idList ((nth ((nth items k).heads) j).data))), rowR 5 1 encB ⟨some ⟨b8, 0, none⟩, b8, 0, 1⟩ ([2] : List UInt8)]) (I' := [deepI (Old w) headCh 34 (fun x : ItemS => x.hh) (fun x : ItemS => x.heads) items, slI (Old w) itemCh 38 hitems items]) (List.Sublist.cons _ (List.Sublist.cons _ (List.Sublist.cons _ (List.Sublist.cons_cons _ (List.Sublist.cons_cons _ (List.Sublist.cons_cons _ (List.Sublist.cons_cons _ (List.Sublist.cons_cons _ (List.Sublist.cons_cons _ (List.Sublist.cons_cons _ (List.Sublist.cons_cons _ List.Sublist.slnil))))))))))) (List.forall_mem_cons.2 ⟨List.mem_of_getElem? (i := 0) rfl, List.forall_mem_cons.2 ⟨List.mem_of_getElem? (i := 1) rfl, fun _ h => (nomatch h)⟩⟩)
    refine ⟨_, ?_, (j + 1), (acc2 ++ (([] ++ atB ((nth ((nth items k).heads) j).tm)) ++ idList ((nth ((nth items k).heads) j).data))), h153, rfl, (by omega), (head_step ha2 (by omega)), (by have h1 := atB_len (nth (nth items k).heads j).tm; have h3 := (dirOk_lens hD (show k < items.length by omega)); simp only [List.length_append, List.length_nil, List.length_cons, idList_len]; omega), (by omega), (by omega), _, envL_self ⟨rfl, rfl, rfl, rfl, rfl, rfl, rfl, rfl, rfl, rfl, rfl, rfl, rfl, rfl, rfl, rfl, rfl, rfl, rfl, rfl, rfl, rfl, rfl, rfl, rfl, rfl, rfl, rfl, rfl, rfl, rfl, rfl, trivial⟩, H162⟩
    omega
   ·have hc115 : ¬ (((j : Nat) : Int) < ((((nth items k).heads).length : Nat) : Int)) := (of_decide_eq_false hc115)
    refine W_exit (Then_x (Then_x (Blk_x (Blk_n (Then_n (W_reg ?_))))))
    refine O_v rfl (R_arith (a := ((k : Nat) : Int)) (b := 1) (r0 := ((k : Nat) : Int) + 1) (r := ((k + 1 : Nat) : Int)) rfl rfl rfl (wrapN _ (by omega)) ?_)
    refine O_v rfl (R_move (v := (.int .i64 ((k + 1 : Nat) : Int))) rfl ?_)
    refine O_nil (Then_n ?_)
    have H163 := H114.sub (B' := [rowR 5 1 encB h109 acc2, rowR 5 1 encB ⟨some ⟨b8, 0, none⟩, b8, 0, 1⟩ ([2] : List UInt8)]) (I' := [deepI (Old w) headCh 34 (fun x : ItemS => x.hh) (fun x : ItemS => x.heads) items, slI (Old w) itemCh 38 hitems items]) (List.Sublist.cons _ (List.Sublist.cons _ (List.Sublist.cons _ (List.Sublist.cons _ (List.Sublist.cons _ (List.Sublist.cons _ (List.Sublist.cons_cons _ (List.Sublist.cons_cons _ List.Sublist.slnil)))))))) (List.forall_mem_cons.2 ⟨List.mem_of_getElem? (i := 0) rfl, List.forall_mem_cons.2 ⟨List.mem_of_getElem? (i := 1) rfl, fun _ h => (nomatch h)⟩⟩)
    refine ⟨_, ?_, (k + 1), acc2, h109, rfl, (by omega), (item_end ha ha2 (by omega) (by omega)), (by have := dirOk_lens hD (show k < items.length by omega); omega), hD, _, envL_self ⟨rfl, rfl, rfl, rfl, rfl, rfl, trivial⟩, H163⟩
    omega
  ·have hc24 : ¬ (((k : Nat) : Int) < ((items.length : Nat) : Int)) := (of_decide_eq_false hc24)
   refine W_exit (Then_x (Then_x (Blk_x (Then_n (W_seq (W_reg ?_))))))
   refine O_v rfl (R_move (v := (slV h18 acc)) rfl ?_)
   refine O_v rfl (R_assign (v := (slV h18 acc)) rfl ?_)
   refine O_v rfl (R_assign (v := (.int .i64 0)) rfl ?_)
   refine O_nil (Then_n (W_ret ?_))
   refine ret_2 (v := (slV h18 acc)) (v' := (.int .i64 0)) Tryz.results15 rfl rfl ?_
   have hE : acc = putDirB items := (dir_end ha hD (by omega)).1
   have hV : 0 = putDirE items := (dir_end ha hD (by omega)).2
   refine ⟨h18, ?_, H23.gr, ?_⟩
   · exact two_eq (fun l n => Value.tuple #[slV h18 l, Value.int .i64 n]) hE hV
   · have hO := H23.retRow 0 rfl
     exact hE ▸ hO

end Go.Proofs.YthjdhfoeckfmbaaGreat
namespace Go.Proofs.YthjdhfoeckfmbaaGreat
open Go
set_option maxRecDepth 100000
set_option linter.unusedVariables false
set_option linter.unusedSimpArgs false
set_option linter.unusedSectionVars false
theorem obj_PutLabel_c40 : callable Tryz.prog 40 = true := by kernel_rfl
theorem obj_PutLabel_c41 : callable Tryz.prog 41 = true := by kernel_rfl
theorem obj_PutLabel_c70 : callable Tryz.prog 70 = true := by kernel_rfl
set_option maxHeartbeats 1000000 in
theorem obj_PutLabel (l : Label) (w : World) :
    Calls Tryz.prog 28 #[(aggOf (labelCh l))] w (Ret fun v w' => ∃ h0, v = .tuple #[slV h0 (putLabelB l), (.int .i64 (putLabelE l))] ∧ Ext w w' ∧ OwnS w.heap.size 5 1 encB h0 (putLabelB l) w') := by
 refine calls_W Tryz.func28 rfl Tryz.ntmps28 rfl ?_
 have H0 := Ctx.start w nob
 have hLn := textB_len l.name
 refine W_seq (W_reg ?_)
 refine O_v rfl (C_box H0 [(idCells l.target), [(.string l.name)], [(.string l.msg)]] rfl ?_)
 intro b1 w2 hb3 hx4 H5
 refine O_v rfl (R_assign (v := (.slice none 0 0)) rfl ?_)
 refine O_v rfl (R_assign (v := (.int .i64 0)) rfl ?_)
 refine O_nil (Then_n (W_seq (W_seq (W_reg ?_))))
 refine O_v rfl (R_loadA (cs := [(idCells l.target), [(.string l.name)], [(.string l.msg)]]) Tryz.isAgg55 Tryz.sizeOf55 rfl rfl ((boxR_at (H5.getOwn 0 rfl)).chunks 0 3 0 0 _ rfl rfl rfl) ?_)
 refine O_v rfl (R_callL (vs := [(aggOf (labelCh l))]) obj_PutLabel_c70 rfl rfl ((obj_rightLabel l w2 ).ret ?_))
 rintro _ w6 ⟨rfl, hx7⟩
 have H8 := H5.ext hx7
 refine O_v rfl (R_not rfl ?_)
 refine O_nil (Then_n ?_)
 refine W_cond (t := (!(labelOk l))) rfl (fun hc9 => ?_) (fun hc9 => ?_)
 ·have hc9 : (labelOk l) = false := (notT hc9)
  refine W_seq (W_reg ?_)
  refine O_v rfl (R_assign (v := (.slice none 0 0)) rfl ?_)
  refine O_v rfl (R_assign (v := (.int .i64 1)) rfl ?_)
  refine O_nil (Then_n (W_ret (Then_r ?_)))
  refine ret_2 (v := (.slice none 0 0)) (v' := (.int .i64 1)) Tryz.results28 rfl rfl ?_
  have H10 := H8.addNil 5 1 encB
  have hE : [] = putLabelB l := (putLabel_f (by assumption)).1
  have hV : 1 = putLabelE l := (putLabel_f (by assumption)).2
  refine ⟨nilH, ?_, H10.gr, ?_⟩
  · exact two_eq (fun l n => Value.tuple #[slV nilH l, Value.int .i64 n]) hE hV
  · have hO := H10.retRow 0 rfl
    exact hE ▸ hO
 ·have hc9 : (labelOk l) = true := (notF hc9)
  refine W_skip (Then_n (W_seq ?_))
  refine W_rgd TryzMixed [(1, .q 0), (2, .q 0), (4, .q 0), (5, .q 0), (7, .q 0), (8, .q 0), (0, .c 0), (3, .c 0), (6, .c 0), (9, .c 0), (10, .q 0), (11, .q 0)] (by kernel_rfl) ?_
  refine Lx_q (i := 1) rfl rfl _ (fun v11 hv12 => R_fieldAddr (off := 0) (oo := 0) Tryz.underlying55 rfl rfl Tryz.sizeOf45 rfl rfl ⟨rfl, Gr.refl _ _⟩) ?_
  refine Lx_q (i := 2) rfl rfl _ (fun v13 hv14 => R_loadA (cs := [(idCells l.target)]) Tryz.isAgg45 Tryz.sizeOf45 rfl rfl ((boxR_at ((H8.ext hv14).getOwn 0 rfl)).chunks 0 1 0 0 _ rfl rfl rfl) ⟨rfl, Gr.refl _ _⟩) ?_
  refine Lx_q (i := 4) rfl rfl _ (fun v15 hv16 => R_fieldAddr (off := 32) (oo := 32) Tryz.underlying55 rfl rfl Tryz.sizeOf9 rfl rfl ⟨rfl, Gr.refl _ _⟩) ?_
  refine Lx_q (i := 5) rfl rfl _ (fun v17 hv18 => R_load1 (v := (.string l.name)) Tryz.isAgg9 rfl ((boxR_at ((H8.ext hv18).getOwn 0 rfl)).chunks 1 1 32 32 _ rfl rfl rfl) ⟨rfl, Gr.refl _ _⟩) ?_
  refine Lx_q (i := 7) rfl rfl _ (fun v19 hv20 => R_fieldAddr (off := 33) (oo := 33) Tryz.underlying55 rfl rfl Tryz.sizeOf9 rfl rfl ⟨rfl, Gr.refl _ _⟩) ?_
  refine Lx_q (i := 8) rfl rfl _ (fun v21 hv22 => R_load1 (v := (.string l.msg)) Tryz.isAgg9 rfl ((boxR_at ((H8.ext hv22).getOwn 0 rfl)).chunks 2 1 33 33 _ rfl rfl rfl) ⟨rfl, Gr.refl _ _⟩) ?_
  refine Lx_c (i := 0) rfl rfl (fun w23 hw24 => ?_)
  have H25 := H8.ext hw24
  refine (C_buildSliceL H25 (enc := encB) (val := byteV) ([4] : List UInt8) Tryz.underlying22 Tryz.sizeOf5 Tryz.zeroValue5 rfl (by decide) (fun _ => rfl) (fun _ => rfl) rfl rfl (by decide) ?_)
  intro b26 w27 hb28 hx29 H30
  refine ⟨GrF.ofExt hx29, ?_⟩
  refine Lx_c (i := 3) rfl rfl (fun w31 hw32 => ?_)
  have H33 := H30.ext hw32
  refine (R_callL (vs := [(slV ⟨some ⟨b26, 0, none⟩, b26, 0, 1⟩ ([4] : List UInt8)), (aggOf (idCh l.target))]) obj_PutLabel_c40 rfl rfl ((enc_Id ⟨some ⟨b26, 0, none⟩, b26, 0, 1⟩ ([4] : List UInt8) l.target w31 (H33.rowSl 0 rfl (fun _ => rfl)) (by simp only [List.length_cons, List.length_nil]; omega)).ret ?_))
  rintro _ w35 ⟨h34, rfl, hx36, ho37⟩
  have H38 := H33.addRow hx36 ho37
  refine ⟨GrF.ofExt hx36, ?_⟩
  refine Lx_c (i := 6) rfl rfl (fun w39 hw40 => ?_)
  have H41 := H38.ext hw40
  refine (R_callL (vs := [(slV h34 (([4] : List UInt8) ++ idList l.target)), (.string l.name)]) obj_PutLabel_c41 rfl rfl ((enc_Text h34 (([4] : List UInt8) ++ idList l.target) l.name w39 (H41.rowSl 0 rfl (fun _ => rfl)) (label_h1 (by assumption))).ret ?_))
  rintro _ w43 ⟨h42, rfl, hx44, ho45⟩
  have H46 := H41.addRow hx44 ho45
  refine ⟨GrF.ofExt hx44, ?_⟩
  refine Lx_c (i := 9) rfl rfl (fun w47 hw48 => ?_)
  have H49 := H46.ext hw48
  refine (R_callL (vs := [(slV h42 ((([4] : List UInt8) ++ idList l.target) ++ textB l.name)), (.string l.msg)]) obj_PutLabel_c41 rfl rfl ((enc_Text h42 ((([4] : List UInt8) ++ idList l.target) ++ textB l.name) l.msg w47 (H49.rowSl 0 rfl (fun _ => rfl)) (label_h2 (by assumption))).ret ?_))
  rintro _ w51 ⟨h50, rfl, hx52, ho53⟩
  have H54 := H49.addRow hx52 ho53
  refine ⟨GrF.ofExt hx52, ?_⟩
  refine Lx_q (i := 10) rfl rfl _ (fun v55 hv56 => R_assign (v := (slV h50 (((([4] : List UInt8) ++ idList l.target) ++ textB l.name) ++ textB l.msg))) rfl ⟨rfl, Gr.refl _ _⟩) ?_
  refine Lx_q (i := 11) rfl rfl _ (fun v57 hv58 => R_assign (v := (.int .i64 0)) rfl ⟨rfl, Gr.refl _ _⟩) ?_
  refine Lx_nil (fun w59 hw60 => ?_)
  have H61 := H54.ext hw60
  refine Then_n (W_ret ?_)
  refine ret_2 (v := (slV h50 (((([4] : List UInt8) ++ idList l.target) ++ textB l.name) ++ textB l.msg))) (v' := (.int .i64 0)) Tryz.results28 rfl rfl ?_
  have hE : ((([4] : List UInt8) ++ idList l.target) ++ textB l.name) ++ textB l.msg = putLabelB l := (putLabel_t (by assumption)).1
  have hV : 0 = putLabelE l := (putLabel_t (by assumption)).2
  refine ⟨h50, ?_, H61.gr, ?_⟩
  · exact two_eq (fun l n => Value.tuple #[slV h50 l, Value.int .i64 n]) hE hV
  · have hO := H61.retRow 0 rfl
    exact hE ▸ hO

end Go.Proofs.YthjdhfoeckfmbaaGreat
/- The document's example of layer 4, in plain words. -/
namespace Go.Proofs.YthjdhfoeckfmbaaGreat
open Go
set_option linter.unusedVariables false
set_option linter.unusedSimpArgs false
set_option maxRecDepth 20000
def mkId (b : UInt8) : ID := ⟨#[b, 0, 0, 0, 0, 0, 0, 0, 0, 0, 0, 0, 0, 0, 0, 0, 0, 0, 0, 0, 0, 0, 0, 0, 0, 0, 0, 0, 0, 0, 0, 0], rfl⟩
def chg0 : ChangeS := { parents := [], ph := nilH, time := 1, r := 1, ops := [], oh := nilH, tree := mkId 9, msg := ByteArray.empty }
def item0 : ItemS := { node := ⟨1, 1⟩, tm := ⟨1, 1⟩, name := ⟨#[97]⟩, sub := zeroId, heads := [], hh := nilH }
def lab0 : Label := ⟨mkId 1, ⟨#[118]⟩, ByteArray.empty⟩
theorem numB_0 : numB 0 = [0] := by rw [numB, numGo_small (by decide)]; rfl
theorem numB_1 : numB 1 = [1] := by rw [numB, numGo_small (by decide)]; rfl
def z31 : List UInt8 := List.replicate 31 0
theorem chg_ok : changeOk chg0 = true := by decide
theorem chg_bytes : putChangeB chg0 = [3, 0, 1, 1, 0, 9] ++ z31 ++ [0] := by
  rw [putChangeB, if_pos chg_ok, changeB, opsTo, parTo, textB]
  show ((((([3] ++ numB 0) ++ [] ++ numB 1) ++ numB 1) ++ numB 0) ++ [] ++ idList (mkId 9)) ++ (numB 0 ++ []) = _
  rw [numB_0, numB_1]
  decide
theorem chg_kind : kindOf (putChangeB chg0) = 3 := by
  rw [chg_bytes]
  decide
theorem item_ok : dirOk [item0] = true := by decide
theorem item_bytes : putDirB [item0] = [2, 1, 1, 1, 1, 1, 1, 97, 0] ++ z31 ++ [0] := by
  rw [putDirB, if_pos item_ok, dirB, dirTo]
  show ([2] ++ numB 1) ++ [itemB item0].flatten = _
  rw [itemB, itemTo, atB, atB, textB]
  show ([2] ++ numB 1) ++ [((((([] : List UInt8) ++ (numB 1 ++ numB 1)) ++ (numB 1 ++ numB 1)) ++ (numB 1 ++ [97])) ++ idList zeroId ++ numB 0) ++ []].flatten = _
  rw [numB_0, numB_1]
  decide
theorem item_kind : kindOf (putDirB [item0]) = 2 := by
  rw [item_bytes]
  decide
theorem lab_ok : labelOk lab0 = true := by decide
theorem lab_bytes : putLabelB lab0 = [4, 1] ++ z31 ++ [1, 118, 0] := by
  rw [putLabelB, if_pos lab_ok, labelB, textB, textB]
  show (([4] ++ idList (mkId 1)) ++ (numB 1 ++ [118])) ++ (numB 0 ++ []) = _
  rw [numB_0, numB_1]
  decide
theorem lab_kind : kindOf (putLabelB lab0) = 4 := by
  rw [lab_bytes]
  decide
theorem chg_raw : linksRaw (putChangeB chg0) = [mkId 9] := by
  rw [linksRaw, if_neg (by rw [chg_kind]; decide), if_pos chg_kind, chg_bytes]
  decide
theorem chg_links : links1 (putChangeB chg0) = [mkId 9] := by
  rw [links1, chg_raw]
  decide
theorem chg_len : (((putChangeB chg0).length : Nat) : Int) = 38 := by rw [chg_bytes]; rfl
theorem chg_first : ((nth (putChangeB chg0) 0).toNat : Int) = 3 := by rw [chg_bytes]; rfl
theorem chg_ix : (0 : Int) < (((putChangeB chg0).length : Nat) : Int) := by rw [chg_len]; decide
theorem chg_ixn : 0 < (putChangeB chg0).length := by rw [chg_bytes]; decide
theorem chg_bound : (putChangeB chg0).length ≤ 140737488355328 := by rw [chg_bytes]; decide
theorem item_bound : (putDirB [item0]).length ≤ 140737488355328 := by rw [item_bytes]; decide
theorem lab_bound : (putLabelB lab0).length ≤ 140737488355328 := by rw [lab_bytes]; decide
theorem chg_raw1 : (linksRaw (putChangeB chg0)).length ≤ 1 := by rw [chg_raw]; decide
theorem chg_one : (((links1 (putChangeB chg0)).length : Nat) : Int) = 1 := by rw [chg_links]; rfl
/-! ### ObjBlobs -/
section
variable {b : List UInt8}
theorem pb_E (h : ¬ (4096 : Int) < ((b.length : Nat) : Int)) : putBlobE b = 0 := if_pos (by omega)
theorem pb_B (h : ¬ (4096 : Int) < ((b.length : Nat) : Int)) : putBlobB b = [1] ++ b := if_pos (by omega)
theorem pb_ok (h : ¬ (4096 : Int) < ((b.length : Nat) : Int)) : blobOk (putBlobB b) := by
  rw [pb_B h]
  exact ⟨by simp, rfl, by simp only [List.length_append, List.length_cons, List.length_nil]; omega⟩
theorem pb_E2 (h : ¬ (4096 : Int) < ((b.length : Nat) : Int)) : blobE (putBlobB b) = 0 := if_pos (pb_ok h)
theorem pb_B2 (h : ¬ (4096 : Int) < ((b.length : Nat) : Int)) : blobB (putBlobB b) = b := by
  rw [blobB, if_pos (pb_ok h), pb_B h]; rfl
theorem pb_K (h : ¬ (4096 : Int) < ((b.length : Nat) : Int)) : kindOf (putBlobB b) = 1 := by
  have h1 := pb_ok h
  rw [kindOf, if_neg (by have := h1.1; omega), if_pos h1.2.1, if_pos (pb_E2 h)]
theorem pb_len (h : ¬ (4096 : Int) < ((b.length : Nat) : Int)) : (putBlobB b).length ≤ 140737488355328 := by have := (pb_ok h).2.2; omega
theorem blobs_1 (h : (4096 : Int) < ((b.length : Nat) : Int)) : Value.bool (decide (putBlobE b = 2) && decide ((((putBlobB b).length : Nat) : Int) = 0)) = Value.bool true := by
  rw [putBlobE, putBlobB, if_neg (by omega), if_neg (by omega)]; rfl
theorem blobs_2 (h : ((b.length : Nat) : Int) = 0 ∨ ¬ ((nth b 0).toNat : Int) = 1) : Value.bool (decide (blobE b = 20) && decide ((((blobB b).length : Nat) : Int) = 0)) = Value.bool true := by
  have : ¬ blobOk b := fun ⟨h1, h2, h3⟩ => by omega
  rw [blobE, blobB, if_neg this, if_neg this]; rfl
theorem blobs_3 (h : ¬ ((b.length : Nat) : Int) = 0 ∧ ((nth b 0).toNat : Int) = 1) (h2 : ¬ (4096 : Int) < ((b.length : Nat) : Int)) : Value.bool (decide (blobE b = 0) && decide (blobB b = b.drop 1)) = Value.bool true := by
  have : blobOk b := ⟨by omega, by omega, by omega⟩
  rw [blobE, blobB, if_pos this, if_pos this]
  simp
end
end Go.Proofs.YthjdhfoeckfmbaaGreat
namespace Go.Proofs.YthjdhfoeckfmbaaGreat
open Go
set_option maxRecDepth 100000
set_option linter.unusedVariables false
set_option linter.unusedSimpArgs false
set_option linter.unusedSectionVars false
theorem law04_alive_c10 : callable Tryz.prog 10 = true := by kernel_rfl
theorem law04_alive_c14 : callable Tryz.prog 14 = true := by kernel_rfl
theorem law04_alive_c15 : callable Tryz.prog 15 = true := by kernel_rfl
theorem law04_alive_c21 : callable Tryz.prog 21 = true := by kernel_rfl
theorem law04_alive_c23 : callable Tryz.prog 23 = true := by kernel_rfl
theorem law04_alive_c28 : callable Tryz.prog 28 = true := by kernel_rfl
set_option maxHeartbeats 4000000 in
theorem law04_alive  (w : World) :
    Calls Tryz.prog 9 #[] w (Ret fun v w' => v = (.bool true) ∧ Ext w w') := by
 refine calls_W Tryz.func9 rfl Tryz.ntmps9 rfl ?_
 have H0 := Ctx.start w nob
 refine W_seq (W_reg ?_)
 refine O_v rfl (R_assign (v := (.bool false)) rfl ?_)
 refine O_nil (Then_n (W_seq (W_reg ?_)))
 refine O_v rfl (C_buildSliceL H0 (enc := encB) (val := byteV) ([97, 98] : List UInt8) Tryz.underlying22 Tryz.sizeOf5 Tryz.zeroValue5 rfl (by decide) (fun _ => rfl) (fun _ => rfl) rfl rfl (by decide) ?_)
 intro b1 w2 hb3 hx4 H5
 refine O_v rfl (C_convBB H5 0 rfl Tryz.underlying22 Tryz.underlying5 rfl (by decide) ?_)
 intro w6 hg7 H8
 refine O_v rfl (R_callL (vs := [(slV ⟨some ⟨b1, 0, none⟩, b1, 0, 2⟩ ([97, 98] : List UInt8))]) law04_alive_c10 rfl rfl ((obj_PutBlob ⟨some ⟨b1, 0, none⟩, b1, 0, 2⟩ ([97, 98] : List UInt8) w6 (H8.slOld 0 rfl)).ret ?_))
 rintro _ w10 ⟨h9, rfl, hx11, ho12⟩
 have H13 := H8.addRow hx11 ho12
 refine O_v rfl (R_move (v := (.tuple #[(slV h9 (putBlobB ([97, 98] : List UInt8))), (.int .i64 (putBlobE ([97, 98] : List UInt8)))])) rfl ?_)
 refine O_v rfl (R_extract (v := (slV h9 (putBlobB ([97, 98] : List UInt8)))) rfl rfl ?_)
 refine O_v rfl (R_extract (v := (.int .i64 (putBlobE ([97, 98] : List UInt8)))) rfl rfl ?_)
 refine O_v rfl (R_assign (v := (slV h9 (putBlobB ([97, 98] : List UInt8)))) rfl ?_)
 refine O_v rfl (R_assign (v := (.int .i64 (putBlobE ([97, 98] : List UInt8)))) rfl ?_)
 refine O_nil (Then_n (W_seq (W_reg ?_)))
 refine O_v rfl (R_buildL (vs := [(0, (.int .u8 9))]) (v := aggOf [(idCells (mkId 9))]) rfl (fun _ => by kernel_rfl) ?_)
 refine O_v rfl (R_buildL (vs := [(1, (.int .i64 1)), (2, (.int .i64 1)), (4, (aggOf (idCh (mkId 9))))]) (v := aggOf [[(.slice none 0 0)], [(.int .i64 1)], [(.int .i64 1)], [(.slice none 0 0)], (idCells (mkId 9)), [(.string ByteArray.empty)]]) rfl (fun _ => by kernel_rfl) ?_)
 refine O_v rfl (R_callL (vs := [(aggOf [[(.slice none 0 0)], [(.int .i64 1)], [(.int .i64 1)], [(.slice none 0 0)], (idCells (mkId 9)), [(.string ByteArray.empty)]])]) law04_alive_c23 rfl rfl ((obj_PutChange ({ parents := [], ph := nilH, time := 1, r := 1, ops := [], oh := nilH, tree := (mkId 9), msg := ByteArray.empty } : ChangeS) w10 (Sl.nil _ _ _ _) (Sl.nil _ _ _ _) (fun _ hx => (nomatch hx))).ret ?_))
 rintro _ w15 ⟨h14, rfl, hx16, ho17⟩
 have H18 := H13.addRow hx16 ho17
 refine O_v rfl (R_move (v := (.tuple #[(slV h14 (putChangeB ({ parents := [], ph := nilH, time := 1, r := 1, ops := [], oh := nilH, tree := (mkId 9), msg := ByteArray.empty } : ChangeS))), (.int .i64 (putChangeE ({ parents := [], ph := nilH, time := 1, r := 1, ops := [], oh := nilH, tree := (mkId 9), msg := ByteArray.empty } : ChangeS)))])) rfl ?_)
 refine O_v rfl (R_extract (v := (slV h14 (putChangeB ({ parents := [], ph := nilH, time := 1, r := 1, ops := [], oh := nilH, tree := (mkId 9), msg := ByteArray.empty } : ChangeS)))) rfl rfl ?_)
 refine O_v rfl (R_extract (v := (.int .i64 (putChangeE ({ parents := [], ph := nilH, time := 1, r := 1, ops := [], oh := nilH, tree := (mkId 9), msg := ByteArray.empty } : ChangeS)))) rfl rfl ?_)
 refine O_v rfl (R_assign (v := (slV h14 (putChangeB ({ parents := [], ph := nilH, time := 1, r := 1, ops := [], oh := nilH, tree := (mkId 9), msg := ByteArray.empty } : ChangeS)))) rfl ?_)
 refine O_v rfl (R_assign (v := (.int .i64 (putChangeE ({ parents := [], ph := nilH, time := 1, r := 1, ops := [], oh := nilH, tree := (mkId 9), msg := ByteArray.empty } : ChangeS)))) rfl ?_)
 refine O_nil (Then_n (W_seq (W_reg ?_)))
 refine O_v rfl (R_buildL (vs := [(0, (.int .i64 1)), (1, (.int .i64 1))]) (v := aggOf [[(.int .i64 1)], [(.int .i64 1)]]) rfl (fun _ => by kernel_rfl) ?_)
 refine O_v rfl (R_buildL (vs := [(0, (.int .i64 1)), (1, (.int .i64 1))]) (v := aggOf [[(.int .i64 1)], [(.int .i64 1)]]) rfl (fun _ => by kernel_rfl) ?_)
 refine O_v rfl (R_buildL (vs := [(0, (aggOf [[(.int .i64 1)], [(.int .i64 1)]])), (1, (aggOf [[(.int .i64 1)], [(.int .i64 1)]])), (2, (.string (⟨#[97]⟩ : ByteArray)))]) (v := aggOf [[(.int .i64 1)], [(.int .i64 1)], [(.int .i64 1)], [(.int .i64 1)], [(.string (⟨#[97]⟩ : ByteArray))], (idCells zeroId), [(.slice none 0 0)]]) rfl (fun _ => by kernel_rfl) ?_)
 refine O_v rfl (C_buildSliceL H18 (enc := itemCh) (val := itemV) ([({ node := ({ T := 1, R := 1 } : Stamp), tm := ({ T := 1, R := 1 } : Stamp), name := (⟨#[97]⟩ : ByteArray), sub := zeroId, heads := [], hh := nilH } : ItemS)] : List ItemS) Tryz.underlying31 Tryz.sizeOf77 Tryz.zeroValue77 rfl (by decide) (fun _ => rfl) (fun _ => rfl) rfl rfl (by decide) ?_)
 intro b19 w20 hb21 hx22 H23
 refine O_v rfl (R_callL (vs := [(slV ⟨some ⟨b19, 0, none⟩, b19, 0, 1⟩ ([({ node := ({ T := 1, R := 1 } : Stamp), tm := ({ T := 1, R := 1 } : Stamp), name := (⟨#[97]⟩ : ByteArray), sub := zeroId, heads := [], hh := nilH } : ItemS)] : List ItemS))]) law04_alive_c15 rfl rfl ((obj_PutDir ⟨some ⟨b19, 0, none⟩, b19, 0, 1⟩ ([({ node := ({ T := 1, R := 1 } : Stamp), tm := ({ T := 1, R := 1 } : Stamp), name := (⟨#[97]⟩ : ByteArray), sub := zeroId, heads := [], hh := nilH } : ItemS)] : List ItemS) w20 (H23.rowSl 0 rfl (fun _ => rfl)) (deep1 (Sl.nil _ _ _ _))).ret ?_))
 rintro _ w25 ⟨h24, rfl, hx26, ho27⟩
 have H28 := H23.addRow hx26 ho27
 refine O_v rfl (R_move (v := (.tuple #[(slV h24 (putDirB ([({ node := ({ T := 1, R := 1 } : Stamp), tm := ({ T := 1, R := 1 } : Stamp), name := (⟨#[97]⟩ : ByteArray), sub := zeroId, heads := [], hh := nilH } : ItemS)] : List ItemS))), (.int .i64 (putDirE ([({ node := ({ T := 1, R := 1 } : Stamp), tm := ({ T := 1, R := 1 } : Stamp), name := (⟨#[97]⟩ : ByteArray), sub := zeroId, heads := [], hh := nilH } : ItemS)] : List ItemS)))])) rfl ?_)
 refine O_v rfl (R_extract (v := (slV h24 (putDirB ([({ node := ({ T := 1, R := 1 } : Stamp), tm := ({ T := 1, R := 1 } : Stamp), name := (⟨#[97]⟩ : ByteArray), sub := zeroId, heads := [], hh := nilH } : ItemS)] : List ItemS)))) rfl rfl ?_)
 refine O_v rfl (R_extract (v := (.int .i64 (putDirE ([({ node := ({ T := 1, R := 1 } : Stamp), tm := ({ T := 1, R := 1 } : Stamp), name := (⟨#[97]⟩ : ByteArray), sub := zeroId, heads := [], hh := nilH } : ItemS)] : List ItemS)))) rfl rfl ?_)
 refine O_v rfl (R_assign (v := (slV h24 (putDirB ([({ node := ({ T := 1, R := 1 } : Stamp), tm := ({ T := 1, R := 1 } : Stamp), name := (⟨#[97]⟩ : ByteArray), sub := zeroId, heads := [], hh := nilH } : ItemS)] : List ItemS)))) rfl ?_)
 refine O_v rfl (R_assign (v := (.int .i64 (putDirE ([({ node := ({ T := 1, R := 1 } : Stamp), tm := ({ T := 1, R := 1 } : Stamp), name := (⟨#[97]⟩ : ByteArray), sub := zeroId, heads := [], hh := nilH } : ItemS)] : List ItemS)))) rfl ?_)
 refine O_nil (Then_n (W_seq (W_reg ?_)))
 refine O_v rfl (R_buildL (vs := [(0, (.int .u8 1))]) (v := aggOf [(idCells (mkId 1))]) rfl (fun _ => by kernel_rfl) ?_)
 refine O_v rfl (R_buildL (vs := [(0, (aggOf (idCh (mkId 1)))), (1, (.string (⟨#[118]⟩ : ByteArray)))]) (v := aggOf [(idCells (mkId 1)), [(.string (⟨#[118]⟩ : ByteArray))], [(.string ByteArray.empty)]]) rfl (fun _ => by kernel_rfl) ?_)
 refine O_v rfl (R_callL (vs := [(aggOf [(idCells (mkId 1)), [(.string (⟨#[118]⟩ : ByteArray))], [(.string ByteArray.empty)]])]) law04_alive_c28 rfl rfl ((obj_PutLabel ({ target := (mkId 1), name := (⟨#[118]⟩ : ByteArray), msg := ByteArray.empty } : Label) w25 ).ret ?_))
 rintro _ w30 ⟨h29, rfl, hx31, ho32⟩
 have H33 := H28.addRow hx31 ho32
 refine O_v rfl (R_move (v := (.tuple #[(slV h29 (putLabelB ({ target := (mkId 1), name := (⟨#[118]⟩ : ByteArray), msg := ByteArray.empty } : Label))), (.int .i64 (putLabelE ({ target := (mkId 1), name := (⟨#[118]⟩ : ByteArray), msg := ByteArray.empty } : Label)))])) rfl ?_)
 refine O_v rfl (R_extract (v := (slV h29 (putLabelB ({ target := (mkId 1), name := (⟨#[118]⟩ : ByteArray), msg := ByteArray.empty } : Label)))) rfl rfl ?_)
 refine O_v rfl (R_extract (v := (.int .i64 (putLabelE ({ target := (mkId 1), name := (⟨#[118]⟩ : ByteArray), msg := ByteArray.empty } : Label)))) rfl rfl ?_)
 refine O_v rfl (R_assign (v := (slV h29 (putLabelB ({ target := (mkId 1), name := (⟨#[118]⟩ : ByteArray), msg := ByteArray.empty } : Label)))) rfl ?_)
 refine O_v rfl (R_assign (v := (.int .i64 (putLabelE ({ target := (mkId 1), name := (⟨#[118]⟩ : ByteArray), msg := ByteArray.empty } : Label)))) rfl ?_)
 refine O_nil (Then_n (W_seq ?_))
 refine W_rg [(0, .q 0), (1, .q 0), (2, .q 0), (3, .q 0), (4, .q 0), (5, .q 0), (6, .q 0), (7, .q 0), (8, .q 0), (9, .q 0), (10, .q 0), (11, .q 0), (12, .q 0), (13, .q 0), (14, .q 0), (15, .q 0), (16, .q 0), (17, .q 0), (18, .q 0), (19, .q 0), (20, .q 0), (21, .q 0), (22, .q 0), (23, .q 0), (24, .q 0), (25, .q 0), (26, .q 0), (27, .q 0), (28, .q 0), (29, .q 0), (30, .q 0), (31, .q 0), (32, .q 0), (33, .q 0), (34, .q 0), (35, .q 0), (36, .q 0), (37, .q 0), (38, .q 0), (39, .q 0), (40, .q 0), (41, .q 0), (42, .q 0), (43, .q 0), (44, .q 0), (45, .q 0), (46, .q 0), (47, .c 0), (48, .q 0), (49, .q 0), (50, .q 0), (51, .q 0)] (by kernel_rfl) ?_
 refine Lx_q (i := 0) rfl rfl _ (fun v34 hv35 => R_move (v := (.int .i64 (putBlobE ([97, 98] : List UInt8)))) rfl ⟨rfl, Gr.refl _ _⟩) ?_
 refine Lx_q (i := 1) rfl rfl (.bool true) (fun v36 hv37 => R_cmp (a := putBlobE ([97, 98] : List UInt8)) (b := 0) (r := (decide (putBlobE ([97, 98] : List UInt8) = 0))) rfl rfl rfl ⟨(boolK (by decide)), Gr.refl _ _⟩) ?_
 refine Lx_q (i := 2) rfl rfl _ (fun v38 hv39 => R_move (v := (.bool true)) rfl ⟨rfl, Gr.refl _ _⟩) ?_
 refine Lx_qT (i := 3) rfl rfl rfl rfl rfl _ (fun v40 hv41 => R_move (v := (slV h9 (putBlobB ([97, 98] : List UInt8)))) rfl ⟨rfl, Gr.refl _ _⟩) ?_
 refine Lx_qT (i := 4) rfl rfl rfl rfl rfl _ (fun v42 hv43 => R_conv_bs (l := putBlobB ([97, 98] : List UInt8)) Tryz.underlying22 Tryz.underlying5 Tryz.underlying9 (OwnS.sl ((H33.ext hv43).getOwn 4 rfl) (fun _ => rfl)) rfl ⟨rfl, Gr.refl _ _⟩) ?_
 refine Lx_qT (i := 5) rfl rfl rfl rfl rfl (.bool true) (fun v44 hv45 => R_cmpS (a := (⟨(putBlobB ([97, 98] : List UInt8)).toArray⟩ : ByteArray)) (b := (⟨#[1, 97, 98]⟩ : ByteArray)) (r := (decide ((⟨(putBlobB ([97, 98] : List UInt8)).toArray⟩ : ByteArray) = (⟨#[1, 97, 98]⟩ : ByteArray)))) rfl rfl rfl ⟨(boolK (by decide)), Gr.refl _ _⟩) ?_
 refine Lx_q (i := 6) rfl rfl _ (fun v46 hv47 => R_pick (t := true) (v := (.bool true)) rfl rfl ⟨rfl, Gr.refl _ _⟩) ?_
 refine Lx_q (i := 7) rfl rfl _ (fun v48 hv49 => R_move (v := (.bool true)) rfl ⟨rfl, Gr.refl _ _⟩) ?_
 refine Lx_qT (i := 8) rfl rfl rfl rfl rfl _ (fun v50 hv51 => R_move (v := (.int .i64 (putChangeE ({ parents := [], ph := nilH, time := 1, r := 1, ops := [], oh := nilH, tree := (mkId 9), msg := ByteArray.empty } : ChangeS)))) rfl ⟨rfl, Gr.refl _ _⟩) ?_
 refine Lx_qT (i := 9) rfl rfl rfl rfl rfl (.bool true) (fun v52 hv53 => R_cmp (a := putChangeE ({ parents := [], ph := nilH, time := 1, r := 1, ops := [], oh := nilH, tree := (mkId 9), msg := ByteArray.empty } : ChangeS)) (b := 0) (r := (decide (putChangeE ({ parents := [], ph := nilH, time := 1, r := 1, ops := [], oh := nilH, tree := (mkId 9), msg := ByteArray.empty } : ChangeS) = 0))) rfl rfl rfl ⟨(boolK (decide_eq_true (if_pos chg_ok))), Gr.refl _ _⟩) ?_
 refine Lx_q (i := 10) rfl rfl _ (fun v54 hv55 => R_pick (t := true) (v := (.bool true)) rfl rfl ⟨rfl, Gr.refl _ _⟩) ?_
 refine Lx_q (i := 11) rfl rfl _ (fun v56 hv57 => R_move (v := (.bool true)) rfl ⟨rfl, Gr.refl _ _⟩) ?_
 refine Lx_qT (i := 12) rfl rfl rfl rfl rfl _ (fun v58 hv59 => R_move (v := (slV h14 (putChangeB ({ parents := [], ph := nilH, time := 1, r := 1, ops := [], oh := nilH, tree := (mkId 9), msg := ByteArray.empty } : ChangeS)))) rfl ⟨rfl, Gr.refl _ _⟩) ?_
 refine Lx_qT (i := 13) rfl rfl rfl rfl rfl _ (fun v60 hv61 => R_len_slice (a := h14.a) (n := (putChangeB ({ parents := [], ph := nilH, time := 1, r := 1, ops := [], oh := nilH, tree := (mkId 9), msg := ByteArray.empty } : ChangeS)).length) (c := h14.c) Tryz.underlying22 rfl ⟨rfl, Gr.refl _ _⟩) ?_
 refine Lx_qT (i := 14) rfl rfl rfl rfl rfl (.bool true) (fun v62 hv63 => R_cmp (a := (((putChangeB ({ parents := [], ph := nilH, time := 1, r := 1, ops := [], oh := nilH, tree := (mkId 9), msg := ByteArray.empty } : ChangeS)).length : Nat) : Int)) (b := 38) (r := (decide ((((putChangeB ({ parents := [], ph := nilH, time := 1, r := 1, ops := [], oh := nilH, tree := (mkId 9), msg := ByteArray.empty } : ChangeS)).length : Nat) : Int) = 38))) rfl rfl rfl ⟨(boolK (decide_eq_true chg_len)), Gr.refl _ _⟩) ?_
 refine Lx_q (i := 15) rfl rfl _ (fun v64 hv65 => R_pick (t := true) (v := (.bool true)) rfl rfl ⟨rfl, Gr.refl _ _⟩) ?_
 refine Lx_q (i := 16) rfl rfl _ (fun v66 hv67 => R_move (v := (.bool true)) rfl ⟨rfl, Gr.refl _ _⟩) ?_
 refine Lx_qT (i := 17) rfl rfl rfl rfl rfl _ (fun v68 hv69 => R_move (v := (slV h14 (putChangeB ({ parents := [], ph := nilH, time := 1, r := 1, ops := [], oh := nilH, tree := (mkId 9), msg := ByteArray.empty } : ChangeS)))) rfl ⟨rfl, Gr.refl _ _⟩) ?_
 refine Lx_qT (i := 18) rfl rfl rfl rfl rfl _ (fun v70 hv71 => R_index_pure (OwnS.sl (H33.getOwn 3 rfl) (fun _ => rfl)) (n := (putChangeB ({ parents := [], ph := nilH, time := 1, r := 1, ops := [], oh := nilH, tree := (mkId 9), msg := ByteArray.empty } : ChangeS)).length) rfl (j := 0) (oo := (h14.o + 0 * 1)) Tryz.underlying22 Tryz.sizeOf5 rfl rfl (by omega) chg_ix rfl ⟨rfl, Gr.refl _ _⟩) ?_
 refine Lx_qT (i := 19) rfl rfl rfl rfl rfl _ (fun v72 hv73 => R_load1 (v := (.int .u8 ((nth (putChangeB ({ parents := [], ph := nilH, time := 1, r := 1, ops := [], oh := nilH, tree := (mkId 9), msg := ByteArray.empty } : ChangeS)) 0).toNat : Int))) Tryz.isAgg5 rfl ((Sl.elem (OwnS.sl ((H33.ext hv73).getOwn 3 rfl) (fun _ => rfl)) (i := 0) chg_ixn rfl).chunks 0 1 0 (h14.o + 0 * 1) _ rfl rfl rfl) ⟨rfl, Gr.refl _ _⟩) ?_
 refine Lx_qT (i := 20) rfl rfl rfl rfl rfl (.bool true) (fun v74 hv75 => R_cmp (a := ((nth (putChangeB ({ parents := [], ph := nilH, time := 1, r := 1, ops := [], oh := nilH, tree := (mkId 9), msg := ByteArray.empty } : ChangeS)) 0).toNat : Int)) (b := 3) (r := (decide (((nth (putChangeB ({ parents := [], ph := nilH, time := 1, r := 1, ops := [], oh := nilH, tree := (mkId 9), msg := ByteArray.empty } : ChangeS)) 0).toNat : Int) = 3))) rfl rfl rfl ⟨(boolK (decide_eq_true chg_first)), Gr.refl _ _⟩) ?_
 refine Lx_q (i := 21) rfl rfl _ (fun v76 hv77 => R_pick (t := true) (v := (.bool true)) rfl rfl ⟨rfl, Gr.refl _ _⟩) ?_
 refine Lx_q (i := 22) rfl rfl _ (fun v78 hv79 => R_move (v := (.bool true)) rfl ⟨rfl, Gr.refl _ _⟩) ?_
 refine Lx_qT (i := 23) rfl rfl rfl rfl rfl _ (fun v80 hv81 => R_move (v := (.int .i64 (putDirE ([({ node := ({ T := 1, R := 1 } : Stamp), tm := ({ T := 1, R := 1 } : Stamp), name := (⟨#[97]⟩ : ByteArray), sub := zeroId, heads := [], hh := nilH } : ItemS)] : List ItemS)))) rfl ⟨rfl, Gr.refl _ _⟩) ?_
 refine Lx_qT (i := 24) rfl rfl rfl rfl rfl (.bool true) (fun v82 hv83 => R_cmp (a := putDirE ([({ node := ({ T := 1, R := 1 } : Stamp), tm := ({ T := 1, R := 1 } : Stamp), name := (⟨#[97]⟩ : ByteArray), sub := zeroId, heads := [], hh := nilH } : ItemS)] : List ItemS)) (b := 0) (r := (decide (putDirE ([({ node := ({ T := 1, R := 1 } : Stamp), tm := ({ T := 1, R := 1 } : Stamp), name := (⟨#[97]⟩ : ByteArray), sub := zeroId, heads := [], hh := nilH } : ItemS)] : List ItemS) = 0))) rfl rfl rfl ⟨(boolK (decide_eq_true (if_pos item_ok))), Gr.refl _ _⟩) ?_
 refine Lx_q (i := 25) rfl rfl _ (fun v84 hv85 => R_pick (t := true) (v := (.bool true)) rfl rfl ⟨rfl, Gr.refl _ _⟩) ?_
 refine Lx_q (i := 26) rfl rfl _ (fun v86 hv87 => R_move (v := (.bool true)) rfl ⟨rfl, Gr.refl _ _⟩) ?_
 refine Lx_qT (i := 27) rfl rfl rfl rfl rfl _ (fun v88 hv89 => R_move (v := (slV h24 (putDirB ([({ node := ({ T := 1, R := 1 } : Stamp), tm := ({ T := 1, R := 1 } : Stamp), name := (⟨#[97]⟩ : ByteArray), sub := zeroId, heads := [], hh := nilH } : ItemS)] : List ItemS)))) rfl ⟨rfl, Gr.refl _ _⟩) ?_
 refine Lx_qT (i := 28) rfl rfl rfl rfl rfl (.int .i64 (kindOf (putDirB ([({ node := ({ T := 1, R := 1 } : Stamp), tm := ({ T := 1, R := 1 } : Stamp), name := (⟨#[97]⟩ : ByteArray), sub := zeroId, heads := [], hh := nilH } : ItemS)] : List ItemS)))) (fun v90 hv91 => R_callL (vs := [(slV h24 (putDirB ([({ node := ({ T := 1, R := 1 } : Stamp), tm := ({ T := 1, R := 1 } : Stamp), name := (⟨#[97]⟩ : ByteArray), sub := zeroId, heads := [], hh := nilH } : ItemS)] : List ItemS)))]) law04_alive_c14 rfl rfl (obj_Kind h24 (putDirB ([({ node := ({ T := 1, R := 1 } : Stamp), tm := ({ T := 1, R := 1 } : Stamp), name := (⟨#[97]⟩ : ByteArray), sub := zeroId, heads := [], hh := nilH } : ItemS)] : List ItemS)) v90 ((H33.ext hv91).rowSl 1 rfl (fun _ => rfl)) item_bound)) ?_
 refine Lx_qT (i := 29) rfl rfl rfl rfl rfl (.bool true) (fun v92 hv93 => R_cmp (a := kindOf (putDirB ([({ node := ({ T := 1, R := 1 } : Stamp), tm := ({ T := 1, R := 1 } : Stamp), name := (⟨#[97]⟩ : ByteArray), sub := zeroId, heads := [], hh := nilH } : ItemS)] : List ItemS))) (b := 2) (r := (decide (kindOf (putDirB ([({ node := ({ T := 1, R := 1 } : Stamp), tm := ({ T := 1, R := 1 } : Stamp), name := (⟨#[97]⟩ : ByteArray), sub := zeroId, heads := [], hh := nilH } : ItemS)] : List ItemS)) = 2))) rfl rfl rfl ⟨(boolK (decide_eq_true item_kind)), Gr.refl _ _⟩) ?_
 refine Lx_q (i := 30) rfl rfl _ (fun v94 hv95 => R_pick (t := true) (v := (.bool true)) rfl rfl ⟨rfl, Gr.refl _ _⟩) ?_
 refine Lx_q (i := 31) rfl rfl _ (fun v96 hv97 => R_move (v := (.bool true)) rfl ⟨rfl, Gr.refl _ _⟩) ?_
 refine Lx_qT (i := 32) rfl rfl rfl rfl rfl _ (fun v98 hv99 => R_move (v := (.int .i64 (putLabelE ({ target := (mkId 1), name := (⟨#[118]⟩ : ByteArray), msg := ByteArray.empty } : Label)))) rfl ⟨rfl, Gr.refl _ _⟩) ?_
 refine Lx_qT (i := 33) rfl rfl rfl rfl rfl (.bool true) (fun v100 hv101 => R_cmp (a := putLabelE ({ target := (mkId 1), name := (⟨#[118]⟩ : ByteArray), msg := ByteArray.empty } : Label)) (b := 0) (r := (decide (putLabelE ({ target := (mkId 1), name := (⟨#[118]⟩ : ByteArray), msg := ByteArray.empty } : Label) = 0))) rfl rfl rfl ⟨(boolK (decide_eq_true (if_pos lab_ok))), Gr.refl _ _⟩) ?_
 refine Lx_q (i := 34) rfl rfl _ (fun v102 hv103 => R_pick (t := true) (v := (.bool true)) rfl rfl ⟨rfl, Gr.refl _ _⟩) ?_
 refine Lx_q (i := 35) rfl rfl _ (fun v104 hv105 => R_move (v := (.bool true)) rfl ⟨rfl, Gr.refl _ _⟩) ?_
 refine Lx_qT (i := 36) rfl rfl rfl rfl rfl _ (fun v106 hv107 => R_move (v := (slV h29 (putLabelB ({ target := (mkId 1), name := (⟨#[118]⟩ : ByteArray), msg := ByteArray.empty } : Label)))) rfl ⟨rfl, Gr.refl _ _⟩) ?_
 refine Lx_qT (i := 37) rfl rfl rfl rfl rfl (.int .i64 (kindOf (putLabelB ({ target := (mkId 1), name := (⟨#[118]⟩ : ByteArray), msg := ByteArray.empty } : Label)))) (fun v108 hv109 => R_callL (vs := [(slV h29 (putLabelB ({ target := (mkId 1), name := (⟨#[118]⟩ : ByteArray), msg := ByteArray.empty } : Label)))]) law04_alive_c14 rfl rfl (obj_Kind h29 (putLabelB ({ target := (mkId 1), name := (⟨#[118]⟩ : ByteArray), msg := ByteArray.empty } : Label)) v108 ((H33.ext hv109).rowSl 0 rfl (fun _ => rfl)) lab_bound)) ?_
 refine Lx_qT (i := 38) rfl rfl rfl rfl rfl (.bool true) (fun v110 hv111 => R_cmp (a := kindOf (putLabelB ({ target := (mkId 1), name := (⟨#[118]⟩ : ByteArray), msg := ByteArray.empty } : Label))) (b := 4) (r := (decide (kindOf (putLabelB ({ target := (mkId 1), name := (⟨#[118]⟩ : ByteArray), msg := ByteArray.empty } : Label)) = 4))) rfl rfl rfl ⟨(boolK (decide_eq_true lab_kind)), Gr.refl _ _⟩) ?_
 refine Lx_q (i := 39) rfl rfl _ (fun v112 hv113 => R_pick (t := true) (v := (.bool true)) rfl rfl ⟨rfl, Gr.refl _ _⟩) ?_
 refine Lx_q (i := 40) rfl rfl _ (fun v114 hv115 => R_move (v := (.bool true)) rfl ⟨rfl, Gr.refl _ _⟩) ?_
 refine Lx_qT (i := 41) rfl rfl rfl rfl rfl _ (fun v116 hv117 => R_move (v := (slV h14 (putChangeB ({ parents := [], ph := nilH, time := 1, r := 1, ops := [], oh := nilH, tree := (mkId 9), msg := ByteArray.empty } : ChangeS)))) rfl ⟨rfl, Gr.refl _ _⟩) ?_
 refine Lx_qT (i := 42) rfl rfl rfl rfl rfl (.int .i64 (kindOf (putChangeB ({ parents := [], ph := nilH, time := 1, r := 1, ops := [], oh := nilH, tree := (mkId 9), msg := ByteArray.empty } : ChangeS)))) (fun v118 hv119 => R_callL (vs := [(slV h14 (putChangeB ({ parents := [], ph := nilH, time := 1, r := 1, ops := [], oh := nilH, tree := (mkId 9), msg := ByteArray.empty } : ChangeS)))]) law04_alive_c14 rfl rfl (obj_Kind h14 (putChangeB ({ parents := [], ph := nilH, time := 1, r := 1, ops := [], oh := nilH, tree := (mkId 9), msg := ByteArray.empty } : ChangeS)) v118 ((H33.ext hv119).rowSl 3 rfl (fun _ => rfl)) chg_bound)) ?_
 refine Lx_qT (i := 43) rfl rfl rfl rfl rfl (.bool true) (fun v120 hv121 => R_cmp (a := kindOf (putChangeB ({ parents := [], ph := nilH, time := 1, r := 1, ops := [], oh := nilH, tree := (mkId 9), msg := ByteArray.empty } : ChangeS))) (b := 3) (r := (decide (kindOf (putChangeB ({ parents := [], ph := nilH, time := 1, r := 1, ops := [], oh := nilH, tree := (mkId 9), msg := ByteArray.empty } : ChangeS)) = 3))) rfl rfl rfl ⟨(boolK (decide_eq_true chg_kind)), Gr.refl _ _⟩) ?_
 refine Lx_q (i := 44) rfl rfl _ (fun v122 hv123 => R_pick (t := true) (v := (.bool true)) rfl rfl ⟨rfl, Gr.refl _ _⟩) ?_
 refine Lx_q (i := 45) rfl rfl _ (fun v124 hv125 => R_move (v := (.bool true)) rfl ⟨rfl, Gr.refl _ _⟩) ?_
 refine Lx_qT (i := 46) rfl rfl rfl rfl rfl _ (fun v126 hv127 => R_move (v := (slV h14 (putChangeB ({ parents := [], ph := nilH, time := 1, r := 1, ops := [], oh := nilH, tree := (mkId 9), msg := ByteArray.empty } : ChangeS)))) rfl ⟨rfl, Gr.refl _ _⟩) ?_
 refine Lx_cT (i := 47) rfl rfl rfl rfl rfl (fun w128 hw129 => ?_)
 have H130 := H33.ext hw129
 refine (R_callL (vs := [(slV h14 (putChangeB ({ parents := [], ph := nilH, time := 1, r := 1, ops := [], oh := nilH, tree := (mkId 9), msg := ByteArray.empty } : ChangeS)))]) law04_alive_c21 rfl rfl ((obj_Links h14 (putChangeB ({ parents := [], ph := nilH, time := 1, r := 1, ops := [], oh := nilH, tree := (mkId 9), msg := ByteArray.empty } : ChangeS)) w128 (H130.rowSl 3 rfl (fun _ => rfl)) chg_bound chg_raw1).ret ?_))
 rintro _ w133 ⟨h131, S132, rfl, hx134, hS135, hv136⟩
 have H137 := H130.addImm hx134 (slI S132 idCh 32 h131 (links1 (putChangeB ({ parents := [], ph := nilH, time := 1, r := 1, ops := [], oh := nilH, tree := (mkId 9), msg := ByteArray.empty } : ChangeS)))) hv136 hS135
 refine ⟨GrF.ofExt hx134, ?_⟩
 refine Lx_qT (i := 48) rfl rfl rfl rfl rfl _ (fun v138 hv139 => R_len_slice (a := h131.a) (n := (links1 (putChangeB ({ parents := [], ph := nilH, time := 1, r := 1, ops := [], oh := nilH, tree := (mkId 9), msg := ByteArray.empty } : ChangeS))).length) (c := h131.c) Tryz.underlying39 rfl ⟨rfl, Gr.refl _ _⟩) ?_
 refine Lx_qT (i := 49) rfl rfl rfl rfl rfl (.bool true) (fun v140 hv141 => R_cmp (a := (((links1 (putChangeB ({ parents := [], ph := nilH, time := 1, r := 1, ops := [], oh := nilH, tree := (mkId 9), msg := ByteArray.empty } : ChangeS))).length : Nat) : Int)) (b := 1) (r := (decide ((((links1 (putChangeB ({ parents := [], ph := nilH, time := 1, r := 1, ops := [], oh := nilH, tree := (mkId 9), msg := ByteArray.empty } : ChangeS))).length : Nat) : Int) = 1))) rfl rfl rfl ⟨(boolK (decide_eq_true chg_one)), Gr.refl _ _⟩) ?_
 refine Lx_q (i := 50) rfl rfl _ (fun v142 hv143 => R_pick (t := true) (v := (.bool true)) rfl rfl ⟨rfl, Gr.refl _ _⟩) ?_
 refine Lx_q (i := 51) rfl rfl _ (fun v144 hv145 => R_assign (v := (.bool true)) rfl ⟨rfl, Gr.refl _ _⟩) ?_
 refine Lx_nil (fun w146 hw147 => ?_)
 have H148 := H137.ext hw147
 refine Then_n (W_ret ?_)
 refine ret_1 (v := (.bool true)) Tryz.results9 rfl ?_
 exact ⟨rfl, H148.gr⟩

end Go.Proofs.YthjdhfoeckfmbaaGreat
namespace Go.Proofs.YthjdhfoeckfmbaaGreat
open Go
set_option maxRecDepth 100000
set_option linter.unusedVariables false
set_option linter.unusedSimpArgs false
set_option linter.unusedSectionVars false
variable [DD]
set_option maxHeartbeats 1000000 in
theorem ref01_SameBytes (ha : SlH) (a : List UInt8) (hb : SlH) (b : List UInt8) (w : World) (Sa : Sl (Old w) encB 1 ha a w) (Sb : Sl (Old w) encB 1 hb b w) :
    Calls Tryz.prog 12 #[(slV ha a), (slV hb b)] w (Ret fun v w' => v = (.bool (decide (a = b))) ∧ Ext w w') := by
 refine calls_W Tryz.func12 rfl Tryz.ntmps12 rfl ?_
 have H0 := Ctx.start w nob
 have H1 := H0.addSl _ Sa (fun b hb => ⟨hb, fun _ ho => (nomatch ho)⟩)
 have LSa := Sa.len
 have H2 := H1.addSl _ Sb (fun b hb => ⟨hb, fun _ ho => (nomatch ho)⟩)
 have LSb := Sb.len
 refine W_seq (W_reg ?_)
 refine O_v rfl (R_assign (v := (.bool false)) rfl ?_)
 refine O_nil (Then_n (W_seq (W_seq (W_reg ?_))))
 refine O_v rfl (R_move (v := (slV ha a)) rfl ?_)
 refine O_v rfl (R_len_slice (a := ha.a) (n := a.length) (c := ha.c) Tryz.underlying22 rfl ?_)
 refine O_v rfl (R_move (v := (slV hb b)) rfl ?_)
 refine O_v rfl (R_len_slice (a := hb.a) (n := b.length) (c := hb.c) Tryz.underlying22 rfl ?_)
 refine O_v rfl (R_cmp (a := ((a.length : Nat) : Int)) (b := ((b.length : Nat) : Int)) (r := (!(decide (((a.length : Nat) : Int) = ((b.length : Nat) : Int))))) rfl rfl rfl ?_)
 refine O_nil (Then_n ?_)
 refine W_cond (t := (!(decide (((a.length : Nat) : Int) = ((b.length : Nat) : Int))))) rfl (fun hc3 => ?_) (fun hc3 => ?_)
 ·have hc3 : ¬ (((a.length : Nat) : Int) = ((b.length : Nat) : Int)) := (of_decide_eq_false (notT hc3))
  refine W_seq (W_reg ?_)
  refine O_v rfl (R_assign (v := (.bool false)) rfl ?_)
  refine O_nil (Then_n (W_ret (Then_r ?_)))
  refine ret_1 (v := (.bool false)) Tryz.results12 rfl ?_
  exact ⟨(boolF (fun h => by subst h; omega)), H2.gr⟩
 ·have hc3 : (((a.length : Nat) : Int) = ((b.length : Nat) : Int)) := (of_decide_eq_true (notF hc3))
  refine W_skip (Then_n (W_seq (W_seq (W_reg ?_))))
  refine O_v rfl (R_assign (v := (.int .i64 0)) rfl ?_)
  refine O_nil (Then_n (W_block ?_))
  refine W_loop (fun m4 e5 w6 => ∃ (k : Nat), m4 = a.length - k ∧ (k ≤ a.length) ∧ (∀ i, i < k → nth a i = nth b i) ∧ ∃ eb7, e5 = envL [(0, (slV ha a)), (1, (slV hb b)), (5, (.int .i64 ((k : Nat) : Int)))] eb7 ∧ Ctx w nob w6 [] [slI (Old w) encB 1 hb b, slI (Old w) encB 1 ha a]) _ ⟨0, rfl, (by omega), (all_zero _), _, envL_self ⟨rfl, rfl, rfl, trivial⟩, H2⟩ ?_
  rintro m4 _ w6 ⟨k, rfl, hk, hn, eb7, rfl, H8⟩
  refine W_seq (W_seq (W_reg ?_))
  refine O_v rfl (R_move (v := (.int .i64 ((k : Nat) : Int))) rfl ?_)
  refine O_v rfl (R_move (v := (slV ha a)) rfl ?_)
  refine O_v rfl (R_len_slice (a := ha.a) (n := a.length) (c := ha.c) Tryz.underlying22 rfl ?_)
  refine O_v rfl (R_cmp (a := ((k : Nat) : Int)) (b := ((a.length : Nat) : Int)) (r := (decide (((k : Nat) : Int) < ((a.length : Nat) : Int)))) rfl rfl rfl ?_)
  refine O_nil (Then_n ?_)
  refine W_cond (t := (decide (((k : Nat) : Int) < ((a.length : Nat) : Int)))) rfl (fun hc9 => ?_) (fun hc9 => ?_)
  ·have hc9 : (((k : Nat) : Int) < ((a.length : Nat) : Int)) := (of_decide_eq_true hc9)
   refine W_skip (Then_n (W_seq (W_block (W_seq ?_))))
   refine W_rgd TryzMixed [(0, .q 0), (1, .q 0), (2, .q 0), (3, .q 0), (4, .q 0), (5, .q 0), (6, .q 0), (7, .q 0), (8, .q 0)] (by kernel_rfl) ?_
   refine Lx_q (i := 0) rfl rfl _ (fun v10 hv11 => R_move (v := (slV ha a)) rfl ⟨rfl, Gr.refl _ _⟩) ?_
   refine Lx_q (i := 1) rfl rfl _ (fun v12 hv13 => R_move (v := (.int .i64 ((k : Nat) : Int))) rfl ⟨rfl, Gr.refl _ _⟩) ?_
   refine Lx_q (i := 2) rfl rfl _ (fun v14 hv15 => R_index_pure (H8.sl 1 rfl) (n := a.length) rfl (j := ((k : Nat) : Int)) (oo := (ha.o + k * 1)) Tryz.underlying22 Tryz.sizeOf5 rfl rfl (by omega) (by omega) rfl ⟨rfl, Gr.refl _ _⟩) ?_
   refine Lx_q (i := 3) rfl rfl _ (fun v16 hv17 => R_load1 (v := (.int .u8 ((nth a k).toNat : Int))) Tryz.isAgg5 rfl ((Sl.elem ((H8.ext hv17).sl 1 rfl) (i := k) (by omega) rfl).chunks 0 1 0 (ha.o + k * 1) _ rfl rfl rfl) ⟨rfl, Gr.refl _ _⟩) ?_
   refine Lx_q (i := 4) rfl rfl _ (fun v18 hv19 => R_move (v := (slV hb b)) rfl ⟨rfl, Gr.refl _ _⟩) ?_
   refine Lx_q (i := 5) rfl rfl _ (fun v20 hv21 => R_move (v := (.int .i64 ((k : Nat) : Int))) rfl ⟨rfl, Gr.refl _ _⟩) ?_
   refine Lx_q (i := 6) rfl rfl _ (fun v22 hv23 => R_index_pure (H8.sl 0 rfl) (n := b.length) rfl (j := ((k : Nat) : Int)) (oo := (hb.o + k * 1)) Tryz.underlying22 Tryz.sizeOf5 rfl rfl (by omega) (by omega) rfl ⟨rfl, Gr.refl _ _⟩) ?_
   refine Lx_q (i := 7) rfl rfl _ (fun v24 hv25 => R_load1 (v := (.int .u8 ((nth b k).toNat : Int))) Tryz.isAgg5 rfl ((Sl.elem ((H8.ext hv25).sl 0 rfl) (i := k) (by omega) rfl).chunks 0 1 0 (hb.o + k * 1) _ rfl rfl rfl) ⟨rfl, Gr.refl _ _⟩) ?_
   refine Lx_q (i := 8) rfl rfl _ (fun v26 hv27 => R_cmp (a := ((nth a k).toNat : Int)) (b := ((nth b k).toNat : Int)) (r := (!(decide (((nth a k).toNat : Int) = ((nth b k).toNat : Int))))) rfl rfl rfl ⟨rfl, Gr.refl _ _⟩) ?_
   refine Lx_nil (fun w28 hw29 => ?_)
   have H30 := H8.ext hw29
   refine Then_n ?_
   refine W_cond (t := (!(decide (((nth a k).toNat : Int) = ((nth b k).toNat : Int))))) rfl (fun hc31 => ?_) (fun hc31 => ?_)
   ·have hc31 : ¬ (((nth a k).toNat : Int) = ((nth b k).toNat : Int)) := (of_decide_eq_false (notT hc31))
    refine W_seq (W_reg ?_)
    refine O_v rfl (R_assign (v := (.bool false)) rfl ?_)
    refine O_nil (Then_n (W_ret (Blk_r (Then_r (Then_r (Blk_r (Then_r ?_)))))))
    refine ret_1 (v := (.bool false)) Tryz.results12 rfl ?_
    exact ⟨(boolF (fun h => by subst h; omega)), H30.gr⟩
   ·have hc31 : (((nth a k).toNat : Int) = ((nth b k).toNat : Int)) := (of_decide_eq_true (notF hc31))
    refine W_skip (Blk_n (Then_n (W_reg ?_)))
    refine O_v rfl (R_move (v := (.int .i64 ((k : Nat) : Int))) rfl ?_)
    refine O_v rfl (R_arith (a := ((k : Nat) : Int)) (b := 1) (r0 := ((k : Nat) : Int) + 1) (r := ((k + 1 : Nat) : Int)) rfl rfl rfl (wrapN _ (by omega)) ?_)
    refine O_v rfl (R_assign (v := (.int .i64 ((k + 1 : Nat) : Int))) rfl ?_)
    refine O_nil (Then_n ?_)
    refine ⟨_, ?_, (k + 1), rfl, (by omega), (all_succ hn (UInt8.toNat_inj.1 (by omega))), _, envL_self ⟨rfl, rfl, rfl, trivial⟩, H30⟩
    omega
  ·have hc9 : ¬ (((k : Nat) : Int) < ((a.length : Nat) : Int)) := (of_decide_eq_false hc9)
   refine W_exit (Then_x (Then_x (Blk_x (Then_n (W_seq (W_reg ?_))))))
   refine O_v rfl (R_assign (v := (.bool true)) rfl ?_)
   refine O_nil (Then_n (W_ret ?_))
   refine ret_1 (v := (.bool true)) Tryz.results12 rfl ?_
   exact ⟨(boolT (eq_of_nth (by omega) (by rwa [show a.length = k from by omega]))), H8.gr⟩

end Go.Proofs.YthjdhfoeckfmbaaGreat
/- Readers read on; what was written is read back. -/
namespace Go.Proofs.YthjdhfoeckfmbaaGreat
open Go
set_option linter.unusedVariables false
set_option linter.unusedSimpArgs false
/-- A reader that has failed stays so; with more bytes behind it reads the same. -/
structure Rdr {α : Type} (f : RSt → α × RSt) : Prop where
  bad : ∀ q, q.2 = true → (f q).2.2 = true
  more : ∀ l s, (f (l, false)).2.2 = false → f (l ++ s, false) = ((f (l, false)).1, ((f (l, false)).2.1 ++ s, false))
/-- These bytes are read as x. -/
def Wr {α : Type} (f : RSt → α × RSt) (x : α) (b : List UInt8) : Prop := ∀ s, f (b ++ s, false) = (x, (s, false))
section
variable {α β : Type} {f : RSt → α × RSt} {g : α → RSt → β × RSt}
theorem Rdr.bind (F : Rdr f) (G : ∀ a, Rdr (g a)) : Rdr (fun q => g (f q).1 (f q).2) := by
  refine ⟨fun q h => (G _).bad _ (F.bad q h), fun l s h => ?_⟩
  have h1 : (f (l, false)).2.2 = false := by
    cases hb : (f (l, false)).2.2 with
    | false => rfl
    | true => rw [(G _).bad _ hb] at h; cases h
  have e := F.more l s h1
  have e2 : (f (l, false)).2 = ((f (l, false)).2.1, false) := Prod.ext rfl h1
  show g (f (l ++ s, false)).1 (f (l ++ s, false)).2 = _
  rw [e]
  have h' : (g (f (l, false)).1 ((f (l, false)).2.1, false)).2.2 = false := by rw [← e2]; exact h
  have e3 := (G (f (l, false)).1).more _ s h'
  rw [← e2] at e3
  exact e3
theorem Rdr.pure (x : α) : Rdr (fun q => (x, q)) := ⟨fun q h => h, fun l s _ => rfl⟩
theorem Wr.bind {a : α} {y : β} {b1 b2 : List UInt8} (F : Wr f a b1) (G : Wr (g a) y b2) : Wr (fun q => g (f q).1 (f q).2) y (b1 ++ b2) := by
  intro s
  show g (f (b1 ++ b2 ++ s, false)).1 (f (b1 ++ b2 ++ s, false)).2 = _
  rw [List.append_assoc, F (b2 ++ s)]
  exact G s
theorem Wr.pure (x : α) : Wr (fun q => (x, q)) x [] := fun s => rfl
end
theorem Rdr_take (n : Nat) : Rdr (fun q => rdTake q n) := by
  refine ⟨fun q h => by simp only [rdTake, if_pos (Or.inl h)], fun l s h => ?_⟩
  simp only [rdTake] at h ⊢
  by_cases hl : l.length < n
  · rw [if_pos (Or.inr hl)] at h; cases h
  · have h1 : ¬ (false = true ∨ l.length < n) := fun hh => hh.elim (fun e => nomatch e) hl
    have h2 : ¬ (false = true ∨ (l ++ s).length < n) := fun hh => hh.elim (fun e => nomatch e) (fun e => hl (by rw [List.length_append] at e; omega))
    rw [if_neg h1, if_neg h2]
    simp only [Prod.mk.injEq, and_true]
    exact ⟨List.take_append_of_le_length (by omega), List.drop_append_of_le_length (by omega)⟩
theorem Wr_take {n : Nat} {b : List UInt8} (h : b.length = n) : Wr (fun q => rdTake q n) b b := by
  intro s
  simp only [rdTake]
  rw [if_neg (by simp only [List.length_append, Bool.false_eq_true, false_or]; omega)]
  simp only [Prod.mk.injEq, and_true]
  exact ⟨by rw [← h, List.take_left'] ; rfl, by rw [← h, List.drop_left']; rfl⟩
theorem Rdr_numGo (most : Int) : ∀ (n k u : Nat), Rdr (fun q => rdNumGo most n k u q)
  | 0, k, u => ⟨fun q h => rfl, fun l s h => by cases h⟩
  | n + 1, k, u => by
    have T := Rdr_take 1
    refine ⟨fun q h => ?_, fun l s h => ?_⟩
    · have h1 : rdTake q 1 = ([], ([], true)) := by simp only [rdTake, if_pos (Or.inl h)]
      show (rdNumGo most (n + 1) k u q).2.2 = true
      rw [rdNumGo, h1, if_pos rfl]
    · have h : (rdNumGo most (n + 1) k u (l, false)).2.2 = false := h
      show rdNumGo most (n + 1) k u (l ++ s, false) = ((rdNumGo most (n + 1) k u (l, false)).1, ((rdNumGo most (n + 1) k u (l, false)).2.1 ++ s, false))
      cases l with
      | nil =>
        have h1 : rdTake (([] : List UInt8), false) 1 = ([], ([], true)) := rfl
        rw [rdNumGo, h1, if_pos rfl] at h
        cases h
      | cons b l =>
        have e1 : rdTake (b :: l, false) 1 = ([b], (l, false)) := by simp [rdTake]
        have e2 : rdTake ((b :: l) ++ s, false) 1 = ([b], (l ++ s, false)) := by simp [rdTake]
        rw [rdNumGo, e1, if_neg (by simp)] at h
        rw [rdNumGo, e2, if_neg (by simp)]
        conv => rhs; rw [rdNumGo, e1, if_neg (by simp)]
        simp only at h ⊢
        split at h
        · rename_i hc
          rw [if_pos hc, if_pos hc]
          exact (Rdr_numGo most n (k + 1) _).more l s h
        · rename_i hc
          rw [if_neg hc, if_neg hc]
          split at h
          · cases h
          · rename_i hd
            rw [if_neg hd, if_neg hd]
theorem Rdr_num (most : Int) : Rdr (fun q => rdNum q most) := Rdr_numGo most 9 0 0
theorem Rdr_text (most : Int) : Rdr (fun q => rdText q most) :=
  (Rdr_num most).bind (g := fun (n : Nat) (q : RSt) => ((⟨(rdTake q n).1.toArray⟩ : ByteArray), (rdTake q n).2)) fun n => (Rdr_take n).bind (g := fun (b : List UInt8) (q : RSt) => ((⟨b.toArray⟩ : ByteArray), q)) fun b => Rdr.pure _
theorem Rdr_id : Rdr rdId := (Rdr_take 32).bind (g := fun (b : List UInt8) (q : RSt) => (idPut zeroId b, q)) fun b => Rdr.pure _
theorem Rdr_at : Rdr rdAt :=
  (Rdr_num 1099511627776).bind (g := fun (t : Nat) (q : RSt) => ((⟨(t : Int), ((rdNum q 65536).1 : Int)⟩ : Stamp), (rdNum q 65536).2)) fun t => (Rdr_num 65536).bind (g := fun (r : Nat) (q : RSt) => ((⟨(t : Int), (r : Int)⟩ : Stamp), q)) fun r => Rdr.pure _
theorem Rdr_ats : ∀ (n : Nat) (a : List Stamp), Rdr (rdAts n a)
  | 0, a => Rdr.pure a
  | n + 1, a => Rdr_at.bind (g := fun (x : Stamp) (q : RSt) => rdAts n (a ++ [x]) q) fun x => Rdr_ats n (a ++ [x])
theorem Rdr_ids : ∀ (n : Nat) (a : List ID), Rdr (rdIds n a)
  | 0, a => Rdr.pure a
  | n + 1, a => Rdr_id.bind (g := fun (x : ID) (q : RSt) => rdIds n (a ++ [x]) q) fun x => Rdr_ids n (a ++ [x])
/-- Behind an operation's kind, its At and its Node: a move's, an edit's. -/
def mvRest (k : Nat) (t n : Stamp) (q : RSt) : OpC × RSt := (⟨(k : Int), t, n, (rdAt q).1, (rdText (rdAt q).2 60).1, zeroId, []⟩, (rdText (rdAt q).2 60).2)
def edRest (k : Nat) (t n : Stamp) (q : RSt) : OpC × RSt :=
  (⟨(k : Int), t, n, ⟨0, 0⟩, ByteArray.empty, (rdId q).1, (rdAts (rdNum (rdId q).2 64).1 [] (rdNum (rdId q).2 64).2).1⟩, (rdAts (rdNum (rdId q).2 64).1 [] (rdNum (rdId q).2 64).2).2)
def opRest (k : Nat) (t n : Stamp) (q : RSt) : OpC × RSt := if ((k : Nat) : Int) = 1 then mvRest k t n q else edRest k t n q
def opRead' (q : RSt) : OpC × RSt := opRest (rdNum q 2).1 (rdAt (rdNum q 2).2).1 (rdAt (rdAt (rdNum q 2).2).2).1 (rdAt (rdAt (rdNum q 2).2).2).2
theorem opRead_eq (q : RSt) : opRead q = opRead' q := by
  unfold opRead opRead' opRest
  split <;> rfl
theorem Rdr_mv (k : Nat) (t n : Stamp) : Rdr (mvRest k t n) :=
  Rdr_at.bind (g := fun (p : Stamp) (q : RSt) => ((⟨(k : Int), t, n, p, (rdText q 60).1, zeroId, []⟩ : OpC), (rdText q 60).2)) fun p => (Rdr_text 60).bind (g := fun (x : ByteArray) (q : RSt) => ((⟨(k : Int), t, n, p, x, zeroId, []⟩ : OpC), q)) fun x => Rdr.pure _
theorem Rdr_ed (k : Nat) (t n : Stamp) : Rdr (edRest k t n) :=
  Rdr_id.bind (g := fun (d : ID) (q : RSt) => ((⟨(k : Int), t, n, ⟨0, 0⟩, ByteArray.empty, d, (rdAts (rdNum q 64).1 [] (rdNum q 64).2).1⟩ : OpC), (rdAts (rdNum q 64).1 [] (rdNum q 64).2).2)) fun d =>
    (Rdr_num 64).bind (g := fun (m : Nat) (q : RSt) => ((⟨(k : Int), t, n, ⟨0, 0⟩, ByteArray.empty, d, (rdAts m [] q).1⟩ : OpC), (rdAts m [] q).2)) fun m =>
      (Rdr_ats m []).bind (g := fun (l : List Stamp) (q : RSt) => ((⟨(k : Int), t, n, ⟨0, 0⟩, ByteArray.empty, d, l⟩ : OpC), q)) fun l => Rdr.pure _
theorem Rdr_rest (k : Nat) (t n : Stamp) : Rdr (opRest k t n) := by
  by_cases h : ((k : Nat) : Int) = 1
  · have e : opRest k t n = mvRest k t n := funext fun q => if_pos h
    rw [e]; exact Rdr_mv k t n
  · have e : opRest k t n = edRest k t n := funext fun q => if_neg h
    rw [e]; exact Rdr_ed k t n
theorem Rdr_read : Rdr opRead := by
  have e : opRead = opRead' := funext opRead_eq
  rw [e]
  exact (Rdr_num 2).bind (g := fun (k : Nat) (q : RSt) => opRest k (rdAt q).1 (rdAt (rdAt q).2).1 (rdAt (rdAt q).2).2) fun k => Rdr_at.bind (g := fun (t : Stamp) (q : RSt) => opRest k t (rdAt q).1 (rdAt q).2) fun t => Rdr_at.bind (g := fun (n : Stamp) (q : RSt) => opRest k t n q) fun n => Rdr_rest k t n
theorem Rdr_op : Rdr rdOp := by
  refine ⟨fun q h => ?_, fun l s h => ?_⟩
  · unfold rdOp
    rw [if_neg (by rw [Rdr_read.bad q h]; intro hh; cases hh.1)]
  · unfold rdOp at h ⊢
    by_cases hc : (opRead (l, false)).2.2 = false ∧ (opRead (l, false)).1.good = true
    · rw [if_pos hc]
      rw [Rdr_read.more l s hc.1]
      exact if_pos ⟨rfl, hc.2⟩
    · rw [if_neg hc] at h; cases h
theorem Rdr_ops : ∀ (n : Nat) (a : List OpC), Rdr (rdOps n a)
  | 0, a => Rdr.pure a
  | n + 1, a => Rdr_op.bind (g := fun (x : OpC) (q : RSt) => rdOps n (a ++ [x]) q) fun x => Rdr_ops n (a ++ [x])
/-- A commit behind its kind. -/
def chTail (P : List ID) (t r : Nat) (O : List OpC) (q : RSt) : ChangeC × RSt := (⟨P, (t : Int), (r : Int), O, (rdId q).1, (rdText (rdId q).2 200).1⟩, (rdText (rdId q).2 200).2)
def chOps (P : List ID) (t r : Nat) (q : RSt) : ChangeC × RSt := chTail P t r (rdOps (rdNum q 64).1 [] (rdNum q 64).2).1 (rdOps (rdNum q 64).1 [] (rdNum q 64).2).2
def chRest (P : List ID) (q : RSt) : ChangeC × RSt := chOps P (rdNum q 1099511627776).1 (rdNum (rdNum q 1099511627776).2 65536).1 (rdNum (rdNum q 1099511627776).2 65536).2
def chRd (q : RSt) : ChangeC × RSt := chRest (rdIds (rdNum q 2).1 [] (rdNum q 2).2).1 (rdIds (rdNum q 2).1 [] (rdNum q 2).2).2
theorem changeRd_eq (b : List UInt8) : changeRd b = chRd (openSt b 3) := rfl
theorem Rdr_chTail (P : List ID) (t r : Nat) (O : List OpC) : Rdr (chTail P t r O) :=
  Rdr_id.bind (g := fun (d : ID) (q : RSt) => ((⟨P, (t : Int), (r : Int), O, d, (rdText q 200).1⟩ : ChangeC), (rdText q 200).2)) fun d => (Rdr_text 200).bind (g := fun (m : ByteArray) (q : RSt) => ((⟨P, (t : Int), (r : Int), O, d, m⟩ : ChangeC), q)) fun m => Rdr.pure _
theorem Rdr_chOps (P : List ID) (t r : Nat) : Rdr (chOps P t r) :=
  (Rdr_num 64).bind (g := fun (m : Nat) (q : RSt) => chTail P t r (rdOps m [] q).1 (rdOps m [] q).2) fun m => (Rdr_ops m []).bind (g := fun (O : List OpC) (q : RSt) => chTail P t r O q) fun O => Rdr_chTail P t r O
theorem Rdr_chRest (P : List ID) : Rdr (chRest P) :=
  (Rdr_num 1099511627776).bind (g := fun (t : Nat) (q : RSt) => chOps P t (rdNum q 65536).1 (rdNum q 65536).2) fun t => (Rdr_num 65536).bind (g := fun (r : Nat) (q : RSt) => chOps P t r q) fun r => Rdr_chOps P t r
theorem Rdr_ch : Rdr chRd :=
  (Rdr_num 2).bind (g := fun (m : Nat) (q : RSt) => chRest (rdIds m [] q).1 (rdIds m [] q).2) fun m => (Rdr_ids m []).bind (g := fun (P : List ID) (q : RSt) => chRest P q) fun P => Rdr_chRest P
theorem Rdr_lab : Rdr labelRd :=
  Rdr_id.bind (g := fun (d : ID) (q : RSt) => ((⟨d, (rdText q 60).1, (rdText (rdText q 60).2 200).1⟩ : Label), (rdText (rdText q 60).2 200).2)) fun d =>
    (Rdr_text 60).bind (g := fun (n : ByteArray) (q : RSt) => ((⟨d, n, (rdText q 200).1⟩ : Label), (rdText q 200).2)) fun n => (Rdr_text 200).bind (g := fun (m : ByteArray) (q : RSt) => ((⟨d, n, m⟩ : Label), q)) fun m => Rdr.pure _
end Go.Proofs.YthjdhfoeckfmbaaGreat
/- What was written is read back; a proper beginning, or a byte more, is no object. -/
namespace Go.Proofs.YthjdhfoeckfmbaaGreat
open Go
set_option linter.unusedVariables false
set_option linter.unusedSimpArgs false
theorem or_add {acc k x : Nat} (h : acc < 2 ^ (7 * k)) : acc ||| x * 2 ^ (7 * k) = acc + x * 2 ^ (7 * k) := by
  have := Nat.two_pow_add_eq_or_of_lt h x
  rw [Nat.or_comm, Nat.mul_comm x, ← this, Nat.add_comm]
theorem byte_small {u : Nat} (h : u < 128) : (UInt8.ofNat u).toNat = u := by
  rw [UInt8.toNat_ofNat']; exact Nat.mod_eq_of_lt (by omega)
theorem and_127 (b : UInt8) : (b &&& 127).toNat = b.toNat % 128 := by
  rw [UInt8.toNat_and]
  exact Nat.and_two_pow_sub_one_eq_mod b.toNat 7
theorem byte_big (u : Nat) : 127 < (UInt8.ofNat u ||| 128).toNat ∧ (UInt8.ofNat u ||| 128).toNat % 128 = u % 128 := by
  have e : (UInt8.ofNat u ||| 128).toNat = u % 256 ||| 128 := by rw [UInt8.toNat_or, UInt8.toNat_ofNat']; rfl
  rw [e]
  refine ⟨?_, ?_⟩
  · have : 128 ≤ u % 256 ||| 128 := Nat.right_le_or
    omega
  · have := Nat.or_mod_two_pow (a := u % 256) (b := 128) (n := 7)
    have h2 : (u % 256 ||| 128) % 2 ^ 7 = u % 256 % 2 ^ 7 ||| 128 % 2 ^ 7 := this
    rw [show (128 : Nat) = 2 ^ 7 from rfl] at *
    rw [h2]
    simp
theorem rdGo {most : Int} : ∀ (f k u acc : Nat) (s : List UInt8), acc < 2 ^ (7 * k) → u < 128 ^ f → 0 < f → (0 < k → 0 < u) → ((acc + u * 2 ^ (7 * k) : Nat) : Int) ≤ most → acc + u * 2 ^ (7 * k) ≤ 4611686018427387904 →
    rdNumGo most f k acc (numGo u ++ s, false) = (acc + u * 2 ^ (7 * k), (s, false))
  | 0, _, _, _, _, _, _, h, _, _, _ => by omega
  | f + 1, k, u, acc, s, ha, hu, _, hk, hm, h62 => by
    by_cases hb : 127 < u
    · rw [numGo_big hb]
      have e1 : rdTake ((UInt8.ofNat u ||| 128) :: numGo (u / 128) ++ s, false) 1 = ([UInt8.ofNat u ||| 128], (numGo (u / 128) ++ s, false)) := by simp [rdTake]
      rw [rdNumGo, e1, if_neg (by simp)]
      have hbb := byte_big u
      have e2 : nth [UInt8.ofNat u ||| 128] 0 = UInt8.ofNat u ||| 128 := rfl
      simp only [e2]
      rw [if_pos hbb.1, and_127, hbb.2, or_add ha]
      have hx : u % 128 < 128 := Nat.mod_lt _ (by decide)
      have hd : u / 128 * 128 + u % 128 = u := by omega
      have hp : 2 ^ (7 * (k + 1)) = 128 * 2 ^ (7 * k) := by rw [show 7 * (k + 1) = 7 + 7 * k from by omega, Nat.pow_add]
      have ht : acc + u % 128 * 2 ^ (7 * k) + u / 128 * 2 ^ (7 * (k + 1)) = acc + u * 2 ^ (7 * k) := by
        rw [hp]
        conv => rhs; rw [← hd]
        rw [Nat.add_mul, Nat.mul_assoc]
        omega
      have hf : 0 < f := by
        rcases Nat.eq_zero_or_pos f with h0 | h0
        · subst h0; simp at hu; omega
        · exact h0
      have := rdGo f (k + 1) (u / 128) (acc + u % 128 * 2 ^ (7 * k)) s (by
          rw [hp]
          have : u % 128 * 2 ^ (7 * k) ≤ 127 * 2 ^ (7 * k) := Nat.mul_le_mul_right _ (by omega)
          omega) (by rw [Nat.pow_succ] at hu; exact Nat.div_lt_of_lt_mul (by omega)) hf (fun _ => by omega) (by rw [ht]; exact hm) (by rw [ht]; exact h62)
      rw [this, ht]
    · rw [numGo_small hb]
      have e1 : rdTake ([UInt8.ofNat u] ++ s, false) 1 = ([UInt8.ofNat u], (s, false)) := by simp [rdTake]
      rw [rdNumGo, e1, if_neg (by simp)]
      have e2 : nth [UInt8.ofNat u] 0 = UInt8.ofNat u := rfl
      simp only [e2]
      have h8 : (UInt8.ofNat u).toNat = u := byte_small (by omega)
      rw [and_127, h8, Nat.mod_eq_of_lt (by omega : u < 128), or_add ha, if_neg hb, if_neg]
      rintro ((h | h) | h)
      · omega
      · omega
      · have := hk h.2; omega
theorem Wr_num {most n : Int} (h0 : 0 ≤ n) (h1 : n ≤ most) (h2 : n ≤ 4611686018427387904) : Wr (fun q => rdNum q most) n.toNat (numB n) := by
  intro s
  have hc : numClamp n = n.toNat := by unfold numClamp; omega
  have := rdGo (most := most) 9 0 n.toNat 0 s (by decide) (by
    have : (4611686018427387904 : Nat) < 128 ^ 9 := by decide
    omega) (by decide) (fun h => absurd h (by decide)) (by simp; omega) (by simp; omega)
  rw [numB, hc]
  show rdNumGo most 9 0 0 _ = _
  rw [this]; simp
theorem Wr_text {most : Int} {x : ByteArray} (h : ((x.size : Nat) : Int) ≤ most) (h2 : x.size ≤ 4611686018427387904) : Wr (fun q => rdText q most) x (textB x) := by
  have h1 := (Wr_num (most := most) (n := ((x.size : Nat) : Int)) (by omega) h (by omega)).bind (g := fun (n : Nat) (q : RSt) => ((⟨(rdTake q n).1.toArray⟩ : ByteArray), (rdTake q n).2)) (y := x) (b2 := x.data.toList)
    ((Wr_take (by rw [size_data']; omega)).bind (g := fun (b : List UInt8) (q : RSt) => ((⟨b.toArray⟩ : ByteArray), q)) (y := x) (b2 := []) (by intro s; simp) |> fun h => by simpa using h)
  exact h1
theorem Wr_id (d : ID) : Wr rdId d (idList d) := by
  intro s
  have := (Wr_take (idList_len d)) s
  show (idPut zeroId (rdTake (idList d ++ s, false) 32).1, (rdTake (idList d ++ s, false) 32).2) = _
  simp only at this
  rw [this]
  have e : idPut zeroId (idList d) = d := by
    apply Vector.ext
    intro i hi
    simp [idPut, idList_eq]
  rw [e]
def stOk (s : Stamp) : Prop := 0 ≤ s.T ∧ s.T ≤ 1099511627776 ∧ 0 ≤ s.R ∧ s.R ≤ 65536
theorem Wr_at {s : Stamp} (h : stOk s) : Wr rdAt s (atB s) := by
  have e : (⟨((s.T.toNat : Nat) : Int), ((s.R.toNat : Nat) : Int)⟩ : Stamp) = s := by
    cases s; simp only [Stamp.mk.injEq]; exact ⟨Int.toNat_of_nonneg h.1, Int.toNat_of_nonneg h.2.2.1⟩
  intro x
  have h1 := Wr_num (most := 1099511627776) h.1 h.2.1 (by have := h.2.1; omega) (numB s.R ++ x)
  have h2 := Wr_num (most := 65536) h.2.2.1 h.2.2.2 (by have := h.2.2.2; omega) x
  simp only at h1 h2
  unfold rdAt atB
  rw [List.append_assoc, h1, h2]
  simp only [e]
theorem Wr_ats : ∀ (l a : List Stamp), (∀ s ∈ l, stOk s) → Wr (rdAts l.length a) (a ++ l) ((l.map atB).flatten)
  | [], a, _ => by intro s; simp [rdAts]
  | x :: l, a, h => by
    intro s
    have h1 := Wr_at (h x (by simp)) ((l.map atB).flatten ++ s)
    have h2 := Wr_ats l (a ++ [x]) (fun y hy => h y (by simp [hy])) s
    simp only [List.length_cons, rdAts, List.map_cons, List.flatten_cons, List.append_assoc]
    rw [h1]
    simpa [List.append_assoc] using h2
theorem Wr_ids : ∀ (l a : List ID), Wr (rdIds l.length a) (a ++ l) ((l.map idList).flatten)
  | [], a => by intro s; simp [rdIds]
  | x :: l, a => by
    intro s
    have h1 := Wr_id x ((l.map idList).flatten ++ s)
    have h2 := Wr_ids l (a ++ [x]) s
    simp only [List.length_cons, rdIds, List.map_cons, List.flatten_cons, List.append_assoc]
    rw [h1]
    simpa [List.append_assoc] using h2
theorem right_ok {s : Stamp} (h : stRight s = true) : stOk s := by
  simp only [stRight, decide_eq_true_eq] at h
  exact ⟨by omega, by omega, by omega, by omega⟩
theorem fixed_ok {s : Stamp} (h : fixedSt s = true) : stOk s := by
  have := of_decide_eq_true h
  exact ⟨by omega, by omega, by omega, by omega⟩
theorem Wr_op {o : OpS} (h : goodOp o = true) : Wr rdOp o.core (opB o) := by
  have hg := of_decide_eq_true h
  have ht := right_ok hg.1
  have hn := right_ok hg.2.1
  have key : Wr opRead o.core (opB o) := by
    intro s
    rw [opRead_eq]
    rcases hg.2.2 with ⟨hk, hm⟩ | ⟨hk, hm⟩
    · have hm := of_decide_eq_true hm
      obtain ⟨_, hp, hnm, hd, ho⟩ := hm
      have hp : stOk o.par := hp.elim right_ok fixed_ok
      have hs : o.name.size ≤ 60 := (of_decide_eq_true hnm).2.1
      have h1 := Wr_num (most := 2) (n := o.kind) (by omega) (by omega) (by omega) (atB o.tm ++ (atB o.node ++ (atB o.par ++ (textB o.name ++ s))))
      have h2 := Wr_at ht (atB o.node ++ (atB o.par ++ (textB o.name ++ s)))
      have h3 := Wr_at hn (atB o.par ++ (textB o.name ++ s))
      have h4 := Wr_at hp (textB o.name ++ s)
      have h5 := Wr_text (most := 60) (x := o.name) (by omega) (by omega) s
      simp only at h1 h5
      rw [opB, if_pos hk, opPre]
      simp only [List.append_assoc]
      unfold opRead' opRest mvRest
      rw [h1]
      simp only [h2, h3]
      rw [if_pos (by omega)]
      simp only [h4, h5]
      refine Prod.ext ?_ rfl
      show (⟨_, _, _, _, _, _, _⟩ : OpC) = ⟨_, _, _, _, _, _, _⟩
      simp only [OpC.mk.injEq]
      refine ⟨by omega, ?_⟩
      simp [hd, List.length_eq_zero_iff.1 ho]
    · have hm := of_decide_eq_true hm
      obtain ⟨_, hp, hnm, hd, hl, ho⟩ := hm
      have hov : ∀ x ∈ o.over, stOk x := by
        intro x hx
        obtain ⟨i, hi, rfl⟩ := List.getElem_of_mem hx
        have := (ho i hi).1
        rw [nth_eq hi] at this
        exact right_ok this
      have h1 := Wr_num (most := 2) (n := o.kind) (by omega) (by omega) (by omega) (atB o.tm ++ (atB o.node ++ (idList o.data ++ (numB ((o.over.length : Nat) : Int) ++ ((o.over.map atB).flatten ++ s)))))
      have h2 := Wr_at ht (atB o.node ++ (idList o.data ++ (numB ((o.over.length : Nat) : Int) ++ ((o.over.map atB).flatten ++ s))))
      have h3 := Wr_at hn (idList o.data ++ (numB ((o.over.length : Nat) : Int) ++ ((o.over.map atB).flatten ++ s)))
      have h4 := Wr_id o.data (numB ((o.over.length : Nat) : Int) ++ ((o.over.map atB).flatten ++ s))
      have h5 := Wr_num (most := 64) (n := ((o.over.length : Nat) : Int)) (by omega) (by omega) (by omega) ((o.over.map atB).flatten ++ s)
      have h6 := Wr_ats o.over [] hov s
      simp only at h1 h5
      rw [Int.toNat_natCast] at h5
      rw [opB, if_neg (by omega), opPre]
      simp only [List.append_assoc]
      unfold opRead' opRest edRest
      rw [h1]
      simp only [h2, h3]
      rw [if_neg (by omega)]
      simp only [h4, h5, h6]
      refine Prod.ext ?_ rfl
      show (⟨_, _, _, _, _, _, _⟩ : OpC) = ⟨_, _, _, _, _, _, _⟩
      simp only [OpC.mk.injEq]
      refine ⟨by omega, ?_⟩
      simp [hp, hnm]
  intro s
  have := key s
  rw [rdOp, this, if_pos ⟨rfl, h⟩]
theorem Wr_ops : ∀ (l : List OpS) (a : List OpC), (∀ o ∈ l, goodOp o = true) → Wr (rdOps l.length a) (a ++ l.map OpS.core) ((l.map putOpB).flatten)
  | [], a, _ => by intro s; simp [rdOps]
  | x :: l, a, h => by
    intro s
    have hx := h x (by simp)
    have h1 := Wr_op hx ((l.map putOpB).flatten ++ s)
    have h2 := Wr_ops l (a ++ [x.core]) (fun y hy => h y (by simp [hy])) s
    have e : putOpB x = opB x := if_pos hx
    simp only [List.length_cons, rdOps, List.map_cons, List.flatten_cons, List.append_assoc, e]
    rw [h1]
    simpa [List.append_assoc] using h2
def chB (c : ChangeS) : List UInt8 := numB ((c.parents.length : Nat) : Int) ++ ((c.parents.map idList).flatten ++ (numB c.time ++ (numB c.r ++ (numB ((c.ops.length : Nat) : Int) ++ ((c.ops.map putOpB).flatten ++ (idList c.tree ++ textB c.msg))))))
theorem changeB_eq (c : ChangeS) : changeB c = 3 :: chB c := by
  unfold changeB opsTo parTo chB
  simp [List.take_length, List.append_assoc]
theorem change_ops {c : ChangeS} (h : changeOk c = true) : ∀ o ∈ c.ops, goodOp o = true := by
  obtain ⟨_, _, _, _, _, _, _, _, h1, _⟩ := of_decide_eq_true h
  intro o ho
  have := List.any_eq_false.1 h1 o ho
  simp only [ownOp, Bool.not_eq_true, Bool.not_eq_false', Bool.and_eq_true] at this
  exact this.1.1
theorem Wr_ch {c : ChangeS} (h : changeOk c = true) : Wr chRd c.core (chB c) := by
  have hops := change_ops h
  obtain ⟨hp, _, _, hst, hm, _, hl, _, _, _⟩ := of_decide_eq_true h
  have hs := right_ok hst
  intro s
  have t8 := Wr_text (most := 200) (x := c.msg) (by omega) (by omega) s
  have t7 := Wr_id c.tree (textB c.msg ++ s)
  have t6 := Wr_ops c.ops [] hops (idList c.tree ++ (textB c.msg ++ s))
  have t5 := Wr_num (most := 64) (n := ((c.ops.length : Nat) : Int)) (by omega) (by omega) (by omega) ((c.ops.map putOpB).flatten ++ (idList c.tree ++ (textB c.msg ++ s)))
  have t4 := Wr_num (most := 65536) (n := c.r) hs.2.2.1 hs.2.2.2 (by have := hs.2.2.2; simp only at this; omega) (numB ((c.ops.length : Nat) : Int) ++ ((c.ops.map putOpB).flatten ++ (idList c.tree ++ (textB c.msg ++ s))))
  have t3 := Wr_num (most := 1099511627776) (n := c.time) hs.1 hs.2.1 (by have := hs.2.1; simp only at this; omega) (numB c.r ++ (numB ((c.ops.length : Nat) : Int) ++ ((c.ops.map putOpB).flatten ++ (idList c.tree ++ (textB c.msg ++ s)))))
  have t2 := Wr_ids c.parents [] (numB c.time ++ (numB c.r ++ (numB ((c.ops.length : Nat) : Int) ++ ((c.ops.map putOpB).flatten ++ (idList c.tree ++ (textB c.msg ++ s))))))
  have t1 := Wr_num (most := 2) (n := ((c.parents.length : Nat) : Int)) (by omega) (by omega) (by omega) ((c.parents.map idList).flatten ++ (numB c.time ++ (numB c.r ++ (numB ((c.ops.length : Nat) : Int) ++ ((c.ops.map putOpB).flatten ++ (idList c.tree ++ (textB c.msg ++ s)))))))
  simp only at t1 t3 t4 t5 t8
  rw [Int.toNat_natCast] at t1 t5
  unfold chB chRd
  simp only [List.append_assoc]
  rw [t1]
  simp only [t2]
  unfold chRest
  rw [t3]
  simp only [t4]
  unfold chOps
  rw [t5]
  simp only [t6]
  unfold chTail
  simp only [t7, t8]
  refine Prod.ext ?_ rfl
  show (⟨_, _, _, _, _, _⟩ : ChangeC) = ⟨_, _, _, _, _, _⟩
  simp only [ChangeC.mk.injEq]
  simp [Int.toNat_of_nonneg (show 0 ≤ c.time from hs.1), Int.toNat_of_nonneg (show 0 ≤ c.r from hs.2.2.1)]
def labB (l : Label) : List UInt8 := idList l.target ++ (textB l.name ++ textB l.msg)
theorem labelB_eq (l : Label) : labelB l = 4 :: labB l := by
  unfold labelB labB
  simp [List.append_assoc]
theorem Wr_lab {l : Label} (h : labelOk l = true) : Wr labelRd l (labB l) := by
  have hs := label_size h
  intro s
  have t1 := Wr_id l.target (textB l.name ++ (textB l.msg ++ s))
  have t2 := Wr_text (most := 60) (x := l.name) (by omega) (by omega) (textB l.msg ++ s)
  have t3 := Wr_text (most := 200) (x := l.msg) (by omega) (by omega) s
  simp only at t2 t3
  unfold labB labelRd
  simp only [List.append_assoc]
  rw [t1]
  simp only [t2, t3]
theorem open_cons (k : UInt8) (l : List UInt8) : openSt (k :: l) k = (l, false) := by
  unfold openSt
  rw [if_neg (by rintro (h | h); cases h; exact h rfl)]
  rfl
/-! ### No other bytes -/
section
variable {α : Type} {f : RSt → α × RSt} {x : α} {b : List UInt8}
theorem not_less (F : Rdr f) (h : Wr f x b) {i : Nat} (hi : i < b.length) : rdDone (f (b.take i, false)).2 = false := by
  cases hd : rdDone (f (b.take i, false)).2 with
  | false => rfl
  | true =>
    simp only [rdDone, Bool.and_eq_true, Bool.not_eq_true', decide_eq_true_eq] at hd
    have h1 := F.more (b.take i) (b.drop i) hd.1
    rw [List.take_append_drop] at h1
    have h2 := h []
    rw [List.append_nil, h1] at h2
    have h3 := congrArg (fun z => z.2.1) h2
    simp only [hd.2, List.nil_append] at h3
    have := congrArg List.length h3
    rw [List.length_drop, List.length_nil] at this
    omega
theorem not_more (h : Wr f x b) : rdDone (f (b ++ [0], false)).2 = false := by
  rw [h [0]]; rfl
end
theorem kind_ch (t : List UInt8) (h : rdDone (chRd (t, false)).2 = false) : kindOf (3 :: t) = 0 := by
  rw [kindOf, if_neg (by simp), if_neg (by show ¬ (3 : Nat) = 1; decide), if_neg (by show ¬ (3 : Nat) = 2; decide), if_pos (show (nth (3 :: t) 0).toNat = 3 from rfl), if_neg]
  rw [changeOf, if_neg]
  · decide
  · rw [changeRd_eq, open_cons, h]; intro hh; cases hh.1
theorem kind_lab (t : List UInt8) (h : rdDone (labelRd (t, false)).2 = false) : kindOf (4 :: t) = 0 := by
  rw [kindOf, if_neg (by simp), if_neg (by show ¬ (4 : Nat) = 1; decide), if_neg (by show ¬ (4 : Nat) = 2; decide), if_neg (by show ¬ (4 : Nat) = 3; decide), if_pos (show (nth (4 :: t) 0).toNat = 4 from rfl), if_neg]
  rw [labelOf, if_neg]
  · decide
  · rw [open_cons, h]; intro hh; cases hh.1
theorem one_ch {c : ChangeS} (h : changeOk c = true) : (∀ i, i < (putChangeB c).length → kindOf ((putChangeB c).take i) = 0) ∧ kindOf (([] ++ putChangeB c) ++ [0]) = 0 ∧ (labelOf (putChangeB c)).2 = 20 ∧ (dirOf (putChangeB c)).2 = 20 ∧ blobE (putChangeB c) = 20 := by
  have e : putChangeB c = 3 :: chB c := by rw [putChangeB, if_pos h, changeB_eq]
  rw [e]
  refine ⟨fun i hi => ?_, ?_, ?_, ?_, ?_⟩
  · cases i with
    | zero => rfl
    | succ i =>
      rw [List.take_succ_cons]
      exact kind_ch _ (not_less Rdr_ch (Wr_ch h) (by simpa using hi))
  · exact kind_ch _ (not_more (Wr_ch h))
  · rw [labelOf, if_neg]
    rintro ⟨hh, _⟩
    have e4 : openSt (3 :: chB c) 4 = ([], true) := rfl
    rw [e4] at hh
    have := Rdr_lab.bad ([], true) rfl
    rw [rdDone, this] at hh
    cases hh
  · rw [dirOf, if_neg]
    rintro ⟨hh, _⟩
    have e4 : dirRd (3 :: chB c) = ([], ([], true)) := rfl
    rw [e4] at hh
    cases hh
  · rw [blobE, if_neg]
    rintro ⟨_, hh, _⟩
    exact absurd hh (by show ¬ (3 : Nat) = 1; decide)
theorem one_lab {l : Label} (h : labelOk l = true) : (∀ i, i < (putLabelB l).length → kindOf ((putLabelB l).take i) = 0) ∧ kindOf (([] ++ putLabelB l) ++ [0]) = 0 := by
  have e : putLabelB l = 4 :: labB l := by rw [putLabelB, if_pos h, labelB_eq]
  rw [e]
  refine ⟨fun i hi => ?_, ?_⟩
  · cases i with
    | zero => rfl
    | succ i =>
      rw [List.take_succ_cons]
      exact kind_lab _ (not_less Rdr_lab (Wr_lab h) (by simpa using hi))
  · exact kind_lab _ (not_more (Wr_lab h))
theorem putChange_ok {c : ChangeS} (h : putChangeE c = 0) : changeOk c = true := by
  unfold putChangeE at h
  split at h
  · assumption
  · omega
theorem putLabel_ok {l : Label} (h : putLabelE l = 0) : labelOk l = true := by
  unfold putLabelE at h
  split at h
  · assumption
  · omega
theorem chB_len {c : ChangeS} (h : changeOk c = true) : 0 < (putChangeB c).length ∧ (putChangeB c).length ≤ 200000 := by
  have e : putChangeB c = changeB c := if_pos h
  have h1 := change_lens h
  have h2 := numB_len ((c.parents.length : Nat) : Int); have h3 := numB_len c.time; have h4 := numB_len c.r; have h5 := numB_len ((c.ops.length : Nat) : Int); have h6 := textB_len c.msg
  have h7 := flat_len putOpB 1400 putOpB_len c.ops; have h8 := flat_len idList 32 (fun _ => by rw [idList_len]; exact Nat.le_refl _) c.parents
  rw [e, changeB_eq]
  unfold chB
  simp only [List.length_cons, List.length_append, idList_len]
  omega
theorem labB_len {l : Label} (h : labelOk l = true) : 0 < (putLabelB l).length ∧ (putLabelB l).length ≤ 200000 := by
  have e : putLabelB l = labelB l := if_pos h
  have h1 := label_size h
  have h2 := textB_len l.name; have h3 := textB_len l.msg
  rw [e, labelB_eq]
  unfold labB
  simp only [List.length_cons, List.length_append, idList_len]
  omega
end Go.Proofs.YthjdhfoeckfmbaaGreat
/- The document's writing: the same bytes. -/
namespace Go.Proofs.YthjdhfoeckfmbaaGreat
open Go
set_option linter.unusedVariables false
set_option linter.unusedSimpArgs false
set_option maxRecDepth 20000 in
theorem or128 : ∀ r : Fin 256, r.1 ||| 128 = r.1 % 128 + 128 := by decide
theorem byte_cont (u : Nat) : UInt8.ofNat (u % 128 + 128) = UInt8.ofNat u ||| 128 := by
  apply UInt8.toNat_inj.1
  rw [UInt8.toNat_or, UInt8.toNat_ofNat', UInt8.toNat_ofNat', Nat.mod_eq_of_lt (by omega)]
  have := or128 ⟨u % 256, Nat.mod_lt _ (by decide)⟩
  show _ = u % 256 ||| 128
  rw [this]
  show _ = u % 256 % 128 + 128
  omega
section
variable {n : Int} {u : Nat} {acc : List UInt8}
theorem rnum_start (h : u = numClamp n) : ([] : List UInt8) ++ numGo u = ([] : List UInt8) ++ numB n := by rw [h]; rfl
theorem rnum_step (h : acc ++ numGo u = ([] : List UInt8) ++ numB n) (hu : 127 < u) : (acc ++ [UInt8.ofNat (u % 128 + 128)]) ++ numGo (u / 128) = ([] : List UInt8) ++ numB n := by
  rw [byte_cont]; exact num_step h hu
theorem rnum_len (h : u ≤ 4611686018427387904) : ([] : List UInt8).length + (numGo u).length ≤ 9 := by
  have := numGo_len 8 u (by
    have : (4611686018427387904 : Nat) < 128 ^ (8 + 1) := by decide
    omega)
  simp only [List.length_nil]; omega
theorem rnum_room (h : acc.length + (numGo u).length ≤ 9) (hu : 127 < u) : (acc ++ [UInt8.ofNat (u % 128 + 128)]).length + (numGo (u / 128)).length ≤ 9 := by
  rw [numGo_big hu] at h
  simp only [List.length_append, List.length_cons, List.length_nil] at *
  omega
end
/-! ### The document's readers -/
section
variable {q : RSt} {r : RdS} {most : Int} {k u : Nat}
theorem gn_start (E : r.st = q) : rdNumGo most (9 - 0) 0 0 (r.b.drop 0, r.bad) = rdNum q most := by subst E; rfl
theorem gn_end (hgo : rdNumGo most (9 - k) k u (r.b.drop k, r.bad) = rdNum q most) (hk : k ≤ 9) (hc : (¬ ((k : Nat) : Int) < ((r.b.length : Nat) : Int) ∨ ¬ ((k : Nat) : Int) < 9) ∨ r.bad = true) : (0, ([], true)) = rdNum q most := by
  rw [← hgo]
  by_cases h9 : k = 9
  · subst h9; rfl
  · have ht : rdTake (r.b.drop k, r.bad) 1 = ([], ([], true)) := by
      unfold rdTake
      rw [if_pos]
      rcases hc with (hc | hc) | hc
      · right; show (r.b.drop k).length < 1; rw [List.length_drop]; omega
      · omega
      · exact .inl hc
    rw [show 9 - k = (8 - k) + 1 from by omega, rdNumGo, ht, if_pos rfl]
theorem gn_body (hgo : rdNumGo most (9 - k) k u (r.b.drop k, r.bad) = rdNum q most) (hu : u < 2 ^ (7 * k)) (hc : (((k : Nat) : Int) < ((r.b.length : Nat) : Int) ∧ ((k : Nat) : Int) < 9) ∧ r.bad = false) :
    (if 127 < (nth r.b k).toNat then rdNumGo most (9 - (k + 1)) (k + 1) (u + (nth r.b k).toNat % 128 * 2 ^ (7 * min k 8)) (r.b.drop (k + 1), r.bad)
     else if (4611686018427387904 < u + (nth r.b k).toNat % 128 * 2 ^ (7 * min k 8) ∨ most < ((u + (nth r.b k).toNat % 128 * 2 ^ (7 * min k 8) : Nat) : Int)) ∨ ((nth r.b k).toNat = 0 ∧ 0 < k) then (0, ([], true))
     else (u + (nth r.b k).toNat % 128 * 2 ^ (7 * min k 8), (r.b.drop (k + 1), false))) = rdNum q most := by
  obtain ⟨⟨h1, h2⟩, h3⟩ := hc
  have hl : k < r.b.length := by omega
  have e : r.b.drop k = nth r.b k :: r.b.drop (k + 1) := by rw [List.drop_eq_getElem_cons hl, nth_eq hl]
  have ht : rdTake (r.b.drop k, r.bad) 1 = ([nth r.b k], (r.b.drop (k + 1), false)) := by rw [e, h3]; simp [rdTake]
  rw [show 9 - k = (9 - (k + 1)) + 1 from by omega, rdNumGo, ht, if_neg (by simp)] at hgo
  have e2 : nth [nth r.b k] 0 = nth r.b k := rfl
  simp only [e2] at hgo
  rw [and_127, or_add hu] at hgo
  rw [show min k 8 = k from by omega, h3]
  exact hgo
theorem gn_8 (hgo : rdNumGo most (9 - k) k u (r.b.drop k, r.bad) = rdNum q most) (hu : u < 2 ^ (7 * k)) (hc : (((k : Nat) : Int) < ((r.b.length : Nat) : Int) ∧ ((k : Nat) : Int) < 9) ∧ r.bad = false)
    (h8 : ((k : Nat) : Int) = 8 ∧ (64 : Int) < (((nth r.b k).toNat % 128 : Nat) : Int)) : (0, ([], true)) = rdNum q most := by
  have hk : k = 8 := by omega
  rw [← gn_body hgo hu hc]
  split
  · subst hk; rfl
  · rw [if_pos]
    left; left
    subst hk
    have : 65 * 2 ^ 56 ≤ (nth r.b 8).toNat % 128 * 2 ^ 56 := Nat.mul_le_mul_right _ (by omega)
    show 4611686018427387904 < u + (nth r.b 8).toNat % 128 * 2 ^ 56
    omega
theorem gn_no (hgo : rdNumGo most (9 - k) k u (r.b.drop k, r.bad) = rdNum q most) (hu : u < 2 ^ (7 * k)) (hc : (((k : Nat) : Int) < ((r.b.length : Nat) : Int) ∧ ((k : Nat) : Int) < 9) ∧ r.bad = false)
    (hb : ((nth r.b k).toNat : Int) < 128) (h : ((((nth r.b k).toNat : Int) = 0 ∧ (0 : Int) < ((k : Nat) : Int)) ∨ (4611686018427387904 : Int) < ((u + (nth r.b k).toNat % 128 * 2 ^ (7 * min k 8) : Nat) : Int)) ∨ most < ((u + (nth r.b k).toNat % 128 * 2 ^ (7 * min k 8) : Nat) : Int)) : (0, ([], true)) = rdNum q most := by
  rw [← gn_body hgo hu hc, if_neg (by omega), if_pos]
  rcases h with (h | h) | h
  · right; omega
  · left; left; omega
  · left; right; exact h
theorem gn_yes (hgo : rdNumGo most (9 - k) k u (r.b.drop k, r.bad) = rdNum q most) (hu : u < 2 ^ (7 * k)) (hc : (((k : Nat) : Int) < ((r.b.length : Nat) : Int) ∧ ((k : Nat) : Int) < 9) ∧ r.bad = false)
    (hb : ((nth r.b k).toNat : Int) < 128) (h : ((¬ ((nth r.b k).toNat : Int) = 0 ∨ ¬ (0 : Int) < ((k : Nat) : Int)) ∧ ¬ (4611686018427387904 : Int) < ((u + (nth r.b k).toNat % 128 * 2 ^ (7 * min k 8) : Nat) : Int)) ∧ ¬ most < ((u + (nth r.b k).toNat % 128 * 2 ^ (7 * min k 8) : Nat) : Int)) :
    (u + (nth r.b k).toNat % 128 * 2 ^ (7 * min k 8), (r.b.drop (k + 1), false)) = rdNum q most := by
  rw [← gn_body hgo hu hc, if_neg (by omega), if_neg]
  rintro ((h' | h') | h')
  · exact h.1.2 (by omega)
  · exact h.2 h'
  · rcases h.1.1 with h2 | h2 <;> omega
theorem gn_next (hgo : rdNumGo most (9 - k) k u (r.b.drop k, r.bad) = rdNum q most) (hu : u < 2 ^ (7 * k)) (hc : (((k : Nat) : Int) < ((r.b.length : Nat) : Int) ∧ ((k : Nat) : Int) < 9) ∧ r.bad = false)
    (hb : ¬ ((nth r.b k).toNat : Int) < 128) : rdNumGo most (9 - (k + 1)) (k + 1) (u + (nth r.b k).toNat % 128 * 2 ^ (7 * min k 8)) (r.b.drop (k + 1), r.bad) = rdNum q most := by
  rw [← gn_body hgo hu hc, if_pos (by omega)]
end
theorem gn_lt {u k x : Nat} (hu : u < 2 ^ (7 * k)) (hk : k < 9) : u + x % 128 * 2 ^ (7 * min k 8) < 2 ^ (7 * (k + 1)) := by
  have hp : 2 ^ (7 * (k + 1)) = 128 * 2 ^ (7 * k) := by rw [show 7 * (k + 1) = 7 + 7 * k from by omega, Nat.pow_add]
  rw [show min k 8 = k from by omega, hp]
  have : x % 128 * 2 ^ (7 * k) ≤ 127 * 2 ^ (7 * k) := Nat.mul_le_mul_right _ (by omega)
  omega
theorem gn_mul {k x : Nat} (hk : k < 9) (h8 : ¬ ((k : Nat) : Int) = 8 ∨ ¬ (64 : Int) < ((x % 128 : Nat) : Int)) : x % 128 * 2 ^ (7 * min k 8) ≤ 4611686018427387904 := by
  by_cases h : k = 8
  · subst h
    have : x % 128 * 2 ^ 56 ≤ 64 * 2 ^ 56 := Nat.mul_le_mul_right _ (by omega)
    exact Nat.le_trans this (by decide)
  · have h1 : 2 ^ (7 * min k 8) ≤ 2 ^ 49 := Nat.pow_le_pow_right (by decide) (by omega)
    have : x % 128 * 2 ^ (7 * min k 8) ≤ 127 * 2 ^ 49 := Nat.mul_le_mul (by omega) h1
    omega
theorem gn_small {u k : Nat} (hu : u < 2 ^ (7 * k)) (hk : k < 9) : u < 72057594037927936 := Nat.lt_of_lt_of_le hu (Nat.pow_le_pow_right (by decide) (show 7 * k ≤ 56 from by omega))
theorem gn_unitA {k : Nat} (h : k < 8) : Value.int .i64 ((2 ^ (7 * min k 8) * 128 : Nat) : Int) = Value.int .i64 ((2 ^ (7 * min (k + 1) 8) : Nat) : Int) := by
  rw [show min k 8 = k from by omega, show min (k + 1) 8 = k + 1 from by omega, show 7 * (k + 1) = 7 * k + 7 from by omega, Nat.pow_add]
theorem gn_unitB {k : Nat} (h : 8 ≤ k) : Value.int .i64 ((2 ^ (7 * min k 8) : Nat) : Int) = Value.int .i64 ((2 ^ (7 * min (k + 1) 8) : Nat) : Int) := by
  rw [show min k 8 = 8 from by omega, show min (k + 1) 8 = 8 from by omega]
theorem gn_unit {k : Nat} (h : k < 8) : 2 ^ (7 * min k 8) * 128 ≤ 9223372036854775807 := by
  have : 2 ^ (7 * min k 8) ≤ 2 ^ 49 := Nat.pow_le_pow_right (by decide) (by omega)
  exact Nat.le_trans (Nat.mul_le_mul_right 128 this) (by decide)
theorem two_val {a : Nat} {c : RSt} {x : Nat × RSt} {v : Value} (h : (a, c) = x) : Value.tuple #[.int .i64 ((a : Nat) : Int), v] = Value.tuple #[.int .i64 ((x.1 : Nat) : Int), v] := by rw [← h]
section
variable {q : RSt} {r : RdS} {most : Int} {H : SlH} {v : Value}
theorem gt_f (E : r.st = (rdNum q most).2) (h : r.bad = true ∨ ((r.b.length : Nat) : Int) < (((rdNum q most).1 : Nat) : Int)) : Value.tuple #[.string ByteArray.empty, v] = Value.tuple #[.string (rdText q most).1, v] ∧ ([], true) = (rdText q most).2 := by
  have := take_f (n := (rdNum q most).1) E h
  unfold rdText
  rw [this]
  exact ⟨rfl, rfl⟩
theorem gt_t (E : r.st = (rdNum q most).2) (h : r.bad = false ∧ ¬ ((r.b.length : Nat) : Int) < (((rdNum q most).1 : Nat) : Int)) : Value.tuple #[.string (⟨(r.b.take (rdNum q most).1).toArray⟩ : ByteArray), v] = Value.tuple #[.string (rdText q most).1, v] ∧ (r.b.drop (rdNum q most).1, false) = (rdText q most).2 := by
  have := take_t (n := (rdNum q most).1) E h
  unfold rdText
  rw [this]
  exact ⟨rfl, rfl⟩
end
section
variable {q : RSt} {r : RdS}
theorem gi_f (E : r.st = q) (h : r.bad = true ∨ ((r.b.length : Nat) : Int) < 32) : (zeroId, ([], true)) = rdId q := by
  have := take_f (n := 32) E (h.imp id (fun h => by omega))
  unfold rdId
  rw [this, idPut_nil]
theorem gi_t {k : Nat} {dd : ID} (E : r.st = q) (h : r.bad = false ∧ ¬ ((r.b.length : Nat) : Int) < 32) (hd : dd = idPut zeroId (r.b.take k)) (hk : k = 32) : (dd, (r.b.drop 32, false)) = rdId q := by
  have := take_t (n := 32) E ⟨h.1, by omega⟩
  unfold rdId
  rw [this, hd, hk]
theorem id_val {d : ID} {c : RSt} {x : ID × RSt} {v : Value} (h : (d, c) = x) : Value.tuple #[idV d, v] = Value.tuple #[idV x.1, v] := by rw [← h]
end
theorem rdText_size (q : RSt) {most : Int} (h : most ≤ 1000) : (rdText q most).1.size ≤ 9223372036854775807 := by
  have h1 : (rdText q most).1.size = (rdTake (rdNum q most).2 (rdNum q most).1).1.length := by
    unfold rdText
    show (rdTake _ _).1.toArray.size = _
    simp
  rw [h1]
  have h3 : (rdNum q most).1 ≤ most.toNat := by
    by_cases h0 : 0 ≤ most
    · exact rdNum_le q (by omega)
    · have : ∀ (f k u : Nat) (q : RSt), (rdNumGo most f k u q).1 = 0 := by
        intro f
        induction f with
        | zero => intros; rfl
        | succ f ih =>
          intro k u q
          rw [rdNumGo]
          split
          · rfl
          · simp only
            split
            · exact ih _ _ _
            · rw [if_pos (by left; right; omega)]
      show (rdNumGo most 9 0 0 q).1 ≤ _
      rw [this]; omega
  rcases take_len (rdNum q most).2 (rdNum q most).1 with h2 | h2
  · rw [h2]; omega
  · rw [h2]; exact Nat.zero_le _
theorem labelR_f {b : List UInt8} (h : rdDone (labelRd (openSt b 4)).2 = false ∨ labelOk (labelRd (openSt b 4)).1 = false) : Value.tuple #[labelV zeroLabel, .bool false] = .tuple #[labelV (labelOf b).1, .bool (decide ((labelOf b).2 = 0))] := by
  have e : labelOf b = (zeroLabel, 20) := if_neg (fun hh => by rcases h with h | h <;> simp_all)
  rw [e]; rfl
theorem labelR_t {b : List UInt8} (h : rdDone (labelRd (openSt b 4)).2 = true ∧ labelOk (labelRd (openSt b 4)).1 = true) : Value.tuple #[labelV (labelRd (openSt b 4)).1, .bool true] = .tuple #[labelV (labelOf b).1, .bool (decide ((labelOf b).2 = 0))] := by
  have e : labelOf b = ((labelRd (openSt b 4)).1, 0) := if_pos h
  rw [e]; rfl
/-! ### Links of a tag -/
def putOne (id : ID) : List ID := if id = zeroId then [] else [id]
theorem putOne_z {id : ID} {ids : List ID} (h : id = zeroId) (hz : ids = []) : [] ++ ids = putOne id := by rw [putOne, if_pos h, hz]; rfl
theorem putOne_n {id : ID} (h : ¬ id = zeroId) : [id] = putOne id := by rw [putOne, if_neg h]
def linksTag (b : List UInt8) : List ID := if (labelOf b).2 = 0 then putOne (labelOf b).1.target else []
theorem linksTag_y {b : List UInt8} (h : (labelOf b).2 = 0) : putOne (labelOf b).1.target = linksTag b := by rw [linksTag, if_pos h]
theorem linksTag_n {b : List UInt8} {acc : List ID} (hacc : acc = []) (h : ¬ (labelOf b).2 = 0) : acc = linksTag b := by rw [linksTag, if_neg h, hacc]
section
variable {l : Label}
theorem lab_of (h : labelOk l = true) : labelOf (putLabelB l) = (l, 0) := by
  have e : putLabelB l = 4 :: labB l := by rw [putLabelB, if_pos h, labelB_eq]
  have h1 := Wr_lab h []
  rw [List.append_nil] at h1
  rw [e, labelOf, open_cons, h1, if_pos ⟨rfl, h⟩]
theorem lab_kindOf (h : labelOk l = true) : kindOf (putLabelB l) = 4 := by
  have e : putLabelB l = 4 :: labB l := by rw [putLabelB, if_pos h, labelB_eq]
  have h1 := lab_of h
  rw [e] at h1 ⊢
  rw [kindOf, if_neg (by simp), if_neg (by show ¬ (4 : Nat) = 1; decide), if_neg (by show ¬ (4 : Nat) = 2; decide), if_neg (by show ¬ (4 : Nat) = 3; decide), if_pos (show (nth (4 :: labB l) 0).toNat = 4 from rfl), if_pos (by rw [h1])]
theorem lab_raw (h : labelOk l = true) : linksRaw (putLabelB l) = [l.target] := by rw [links_lab (lab_kindOf h), lab_of h]
theorem lab_raw1 (h : labelOk l = true) : (linksRaw (putLabelB l)).length ≤ 1 := by rw [lab_raw h]; exact Nat.le_refl 1
theorem lab_tgt (h : labelOk l = true) : ¬ l.target = zeroId := by
  simp only [labelOk, Bool.and_eq_true, Bool.not_eq_true', decide_eq_false_iff_not] at h
  exact h.1.1
theorem lab_links (h : labelOk l = true) : links1 (putLabelB l) = linksTag (putLabelB l) := by
  have ht := lab_tgt h
  rw [links1, lab_raw h, linksTag, lab_of h, if_pos rfl, putOne, if_neg ht]
  simp [ht]
theorem lab_open2 (h : labelOk l = true) : openSt (putLabelB l) 2 = ([], true) := by
  have e : putLabelB l = 4 :: labB l := by rw [putLabelB, if_pos h, labelB_eq]
  rw [e]; rfl
theorem lab_open3 (h : labelOk l = true) : openSt (putLabelB l) 3 = ([], true) := by
  have e : putLabelB l = 4 :: labB l := by rw [putLabelB, if_pos h, labelB_eq]
  rw [e]; rfl
theorem labels_no (h : labelOk l = false) : Value.bool (decide (putLabelE l = 1) && decide ((((putLabelB l).length : Nat) : Int) = 0)) = Value.bool true := by
  rw [putLabelE, putLabelB, h]; rfl
end
end Go.Proofs.YthjdhfoeckfmbaaGreat
namespace Go.Proofs.YthjdhfoeckfmbaaGreat
open Go
set_option maxRecDepth 100000
set_option linter.unusedVariables false
set_option linter.unusedSimpArgs false
set_option linter.unusedSectionVars false
variable [DD]
set_option maxHeartbeats 1000000 in
theorem ref02_Done (x : RdS) (Fx : Nat → Prop) (q : List UInt8 × Bool) (w : World) (Sx : Sl Fx encB 1 x.bh x.b w) (XFx : ∀ b, Fx b → b < w.heap.size) (Ex : x.st = q) :
    Calls Tryz.prog 75 #[(aggOf (rdCh x))] w (Ret fun v w' => v = (.bool (rdDone q)) ∧ Ext w w') := by
 refine calls_W Tryz.func75 rfl Tryz.ntmps75 rfl ?_
 have H0 := Ctx.start w nob
 have H1 := H0.addSl _ Sx (fun b hb => ⟨XFx b hb, fun _ ho => (nomatch ho)⟩)
 have LSx := Sx.len
 refine W_seq (W_reg ?_)
 refine O_v rfl (C_box H1 [[(slV x.bh x.b)], [(.bool x.bad)]] rfl ?_)
 intro b4 w5 hb6 hx7 H8
 refine O_v rfl (R_assign (v := (.bool false)) rfl ?_)
 refine O_nil (Then_n (W_seq ?_))
 refine W_rg [(0, .q 0), (1, .q 0), (2, .q 0), (3, .q 0), (4, .q 0), (5, .q 0), (6, .q 0), (7, .q 0), (8, .q 0), (9, .q 0)] (by kernel_rfl) ?_
 refine Lx_q (i := 0) rfl rfl _ (fun v9 hv10 => R_fieldAddr (off := 1) (oo := 1) Tryz.underlying110 rfl rfl Tryz.sizeOf4 rfl rfl ⟨rfl, Gr.refl _ _⟩) ?_
 refine Lx_q (i := 1) rfl rfl _ (fun v11 hv12 => R_load1 (v := (.bool x.bad)) Tryz.isAgg4 rfl ((boxR_at ((H8.ext hv12).getOwn 0 rfl)).chunks 1 1 1 1 _ rfl rfl rfl) ⟨rfl, Gr.refl _ _⟩) ?_
 refine Lx_q (i := 2) rfl rfl _ (fun v13 hv14 => R_not rfl ⟨rfl, Gr.refl _ _⟩) ?_
 refine Lx_q (i := 3) rfl rfl _ (fun v15 hv16 => R_move (v := (.bool (!x.bad))) rfl ⟨rfl, Gr.refl _ _⟩) ?_
 refine Lx_qg (i := 4) true (!x.bad) rfl rfl rfl rfl rfl (!x.bad) ga_t _ (fun hA v17 hv18 => R_fieldAddr (off := 0) (oo := 0) Tryz.underlying110 rfl rfl Tryz.sizeOf22 rfl rfl ⟨rfl, Gr.refl _ _⟩) ?_
 refine Lx_qg (i := 5) true (!x.bad) rfl rfl rfl rfl rfl (!x.bad) ga_t _ (fun hA v19 hv20 => R_load1 (v := (slV x.bh x.b)) Tryz.isAgg22 (gv_t hA) ((boxR_at ((H8.ext hv20).getOwn 0 rfl)).chunks 0 1 0 0 _ rfl rfl rfl) ⟨rfl, Gr.refl _ _⟩) ?_
 refine Lx_qg (i := 6) true (!x.bad) rfl rfl rfl rfl rfl (!x.bad) ga_t _ (fun hA v21 hv22 => R_len_slice (a := x.bh.a) (n := x.b.length) (c := x.bh.c) Tryz.underlying22 (gv_t hA) ⟨rfl, Gr.refl _ _⟩) ?_
 refine Lx_qg (i := 7) true (!x.bad) rfl rfl rfl rfl rfl (!x.bad) ga_t _ (fun hA v23 hv24 => R_cmp (a := ((x.b.length : Nat) : Int)) (b := 0) (r := (decide (((x.b.length : Nat) : Int) = 0))) (gv_t hA) rfl rfl ⟨rfl, Gr.refl _ _⟩) ?_
 refine Lx_q (i := 8) rfl rfl _ (fun v25 hv26 => R_pick (t := (!x.bad)) (v := (.bool ((!x.bad) && (decide (((x.b.length : Nat) : Int) = 0))))) rfl pk_and ⟨rfl, Gr.refl _ _⟩) ?_
 refine Lx_q (i := 9) rfl rfl _ (fun v27 hv28 => R_assign (v := (.bool ((!x.bad) && (decide (((x.b.length : Nat) : Int) = 0))))) rfl ⟨rfl, Gr.refl _ _⟩) ?_
 refine Lx_nil (fun w29 hw30 => ?_)
 have H31 := H8.ext hw30
 refine Then_n (W_ret ?_)
 refine ret_1 (v := (.bool ((!x.bad) && (decide (((x.b.length : Nat) : Int) = 0))))) Tryz.results75 rfl ?_
 exact ⟨(done_eq Ex), H31.gr⟩

end Go.Proofs.YthjdhfoeckfmbaaGreat
namespace Go.Proofs.YthjdhfoeckfmbaaGreat
open Go
set_option maxRecDepth 100000
set_option linter.unusedVariables false
set_option linter.unusedSimpArgs false
set_option linter.unusedSectionVars false
variable [DD]
set_option maxHeartbeats 1000000 in
theorem ref02_failed  (w : World) :
    Calls Tryz.prog 109 #[] w (Ret fun v w' => ∃ X : RdS, v = rdV X ∧ Ext w w' ∧ X.st = ([], true) ∧ Sl nob encB 1 X.bh X.b w') := by
 refine calls_W Tryz.func109 rfl Tryz.ntmps109 rfl ?_
 have H0 := Ctx.start w nob
 refine W_seq (W_reg ?_)
 refine O_v rfl (C_alloc H0 [[(.slice none 0 0)], [(.bool false)]] Tryz.zeroValue110 ?_)
 intro b1 w2 hb3 hx4 H5
 refine O_nil (Then_n (W_seq (W_reg ?_)))
 refine O_v rfl (R_buildL (vs := [(0, (.slice none 0 0)), (1, (.bool true))]) (v := aggOf [[(.slice none 0 0)], [(.bool true)]]) rfl (fun _ => by kernel_rfl) ?_)
 refine O_u (C_storeA H5 0 rfl 0 (sub := [[(.slice none 0 0)], [(.bool true)]]) [[(.slice none 0 0)], [(.bool true)]] Tryz.sizeOf110 rfl rfl rfl rfl ⟨[[(.slice none 0 0)], [(.bool false)]], [], rfl, rfl, rfl⟩ rfl ?_)
 intro w6 hg7 H8
 refine O_nil (Then_n (W_ret ?_))
 refine ret_c Tryz.results109 (inMem (cs := [[(.slice none 0 0)], [(.bool true)]]) rfl Tryz.isAgg110 Tryz.sizeOf110 rfl (boxR_at (H8.getOwn 0 rfl))) ?_
 exact ⟨({ b := [], bh := nilH, bad := true } : RdS), rfl, H8.gr, rfl, (Sl.nil _ _ _ _)⟩

end Go.Proofs.YthjdhfoeckfmbaaGreat
namespace Go.Proofs.YthjdhfoeckfmbaaGreat
open Go
set_option maxRecDepth 100000
set_option linter.unusedVariables false
set_option linter.unusedSimpArgs false
set_option linter.unusedSectionVars false
variable [DD]
theorem ref02_GetId_c109 : callable Tryz.prog 109 = true := by kernel_rfl
set_option maxHeartbeats 1000000 in
theorem ref02_GetId (x : RdS) (Fx : Nat → Prop) (q : List UInt8 × Bool) (w : World) (Sx : Sl Fx encB 1 x.bh x.b w) (XFx : ∀ b, Fx b → b < w.heap.size) (Ex : x.st = q) :
    Calls Tryz.prog 76 #[(aggOf (rdCh x))] w (Ret fun v w' => ∃ X : RdS, v = .tuple #[(aggOf (idCh ((rdId q).1))), rdV X] ∧ Ext w w' ∧ X.st = (rdId q).2 ∧ Sl Fx encB 1 X.bh X.b w') := by
 refine calls_W Tryz.func76 rfl Tryz.ntmps76 rfl ?_
 have H0 := Ctx.start w nob
 have H1 := H0.addSl _ Sx (fun b hb => ⟨XFx b hb, fun _ ho => (nomatch ho)⟩)
 have LSx := Sx.len
 refine W_seq (W_reg ?_)
 refine O_v rfl (C_box H1 [[(slV x.bh x.b)], [(.bool x.bad)]] rfl ?_)
 intro b4 w5 hb6 hx7 H8
 refine O_v rfl (C_alloc H8 [(idCells zeroId)] Tryz.zeroValue44 ?_)
 intro b9 w10 hb11 hx12 H13
 refine O_v rfl (C_alloc H13 [[(.slice none 0 0)], [(.bool false)]] Tryz.zeroValue110 ?_)
 intro b14 w15 hb16 hx17 H18
 refine O_nil (Then_n (W_seq (W_reg ?_)))
 refine O_v rfl (R_buildL (vs := []) (v := aggOf [(idCells zeroId)]) rfl (fun _ => by kernel_rfl) ?_)
 refine O_v rfl (C_alloc H18 [(idCells zeroId)] Tryz.zeroValue44 ?_)
 intro b19 w20 hb21 hx22 H23
 refine O_u (C_storeA H23 0 rfl 0 (sub := [(idCells zeroId)]) [(idCells zeroId)] Tryz.sizeOf44 rfl rfl rfl rfl ⟨[(idCells zeroId)], [], rfl, rfl, rfl⟩ rfl ?_)
 intro w24 hg25 H26
 refine O_nil (Then_n (W_seq (W_seq ?_)))
 refine W_rg [(0, .q 0), (1, .q 0), (2, .q 0), (3, .q 0), (4, .q 0), (5, .q 0), (6, .q 0), (7, .q 0)] (by kernel_rfl) ?_
 refine Lx_q (i := 0) rfl rfl _ (fun v27 hv28 => R_fieldAddr (off := 1) (oo := 1) Tryz.underlying110 rfl rfl Tryz.sizeOf4 rfl rfl ⟨rfl, Gr.refl _ _⟩) ?_
 refine Lx_q (i := 1) rfl rfl _ (fun v29 hv30 => R_load1 (v := (.bool x.bad)) Tryz.isAgg4 rfl ((boxR_at ((H26.ext hv30).getOwn 3 rfl)).chunks 1 1 1 1 _ rfl rfl rfl) ⟨rfl, Gr.refl _ _⟩) ?_
 refine Lx_q (i := 2) rfl rfl _ (fun v31 hv32 => R_move (v := (.bool x.bad)) rfl ⟨rfl, Gr.refl _ _⟩) ?_
 refine Lx_qg (i := 3) true x.bad rfl rfl rfl rfl rfl (!x.bad) ga_f _ (fun hA v33 hv34 => R_fieldAddr (off := 0) (oo := 0) Tryz.underlying110 rfl rfl Tryz.sizeOf22 rfl rfl ⟨rfl, Gr.refl _ _⟩) ?_
 refine Lx_qg (i := 4) true x.bad rfl rfl rfl rfl rfl (!x.bad) ga_f _ (fun hA v35 hv36 => R_load1 (v := (slV x.bh x.b)) Tryz.isAgg22 (gv_t hA) ((boxR_at ((H26.ext hv36).getOwn 3 rfl)).chunks 0 1 0 0 _ rfl rfl rfl) ⟨rfl, Gr.refl _ _⟩) ?_
 refine Lx_qg (i := 5) true x.bad rfl rfl rfl rfl rfl (!x.bad) ga_f _ (fun hA v37 hv38 => R_len_slice (a := x.bh.a) (n := x.b.length) (c := x.bh.c) Tryz.underlying22 (gv_t hA) ⟨rfl, Gr.refl _ _⟩) ?_
 refine Lx_qg (i := 6) true x.bad rfl rfl rfl rfl rfl (!x.bad) ga_f _ (fun hA v39 hv40 => R_cmp (a := ((x.b.length : Nat) : Int)) (b := 32) (r := (decide (((x.b.length : Nat) : Int) < 32))) (gv_t hA) rfl rfl ⟨rfl, Gr.refl _ _⟩) ?_
 refine Lx_q (i := 7) rfl rfl _ (fun v41 hv42 => R_pick (t := x.bad) (v := (.bool (x.bad || (decide (((x.b.length : Nat) : Int) < 32))))) rfl pk_or ⟨rfl, Gr.refl _ _⟩) ?_
 refine Lx_nil (fun w43 hw44 => ?_)
 have H45 := H26.ext hw44
 refine Then_n ?_
 refine W_cond (t := (x.bad || (decide (((x.b.length : Nat) : Int) < 32)))) rfl (fun hc46 => ?_) (fun hc46 => ?_)
 ·have hc46 : (x.bad = true ∨ (((x.b.length : Nat) : Int) < 32)) := (Or.imp (fun h => h) (fun h => (of_decide_eq_true h)) (orT hc46))
  refine W_seq ?_
  refine W_rgdM TryzMixed nob (fun i => if i == 2 || i == 3 then 2 else 0) [(0, .q 0), (1, .c 0), (2, .c 2), (3, .c 2)] (by kernel_rfl) ?_
  refine Lx_q (i := 0) rfl rfl _ (fun v47 hv48 => R_loadA (cs := [(idCells zeroId)]) Tryz.isAgg44 Tryz.sizeOf44 rfl rfl ((boxR_at ((H45.ext hv48).getOwn 0 rfl)).chunks 0 1 0 0 _ rfl rfl rfl) ⟨rfl, Gr.refl _ _⟩) ?_
  refine Lx_c (i := 1) rfl rfl (fun w49 hw50 => ?_)
  have H51 := H45.ext hw50
  refine (R_callL (vs := []) ref02_GetId_c109 rfl rfl ((ref02_failed  w49 ).ret ?_))
  rintro _ w53 ⟨x52, rfl, hx54, hr55, hs56⟩
  have H57 := H51.ext hx54
  have H58 := H57.addImm' (slI nob encB 1 x52.bh x52.b) hs56 (fun _ h => h.elim)
  refine ⟨GrF.ofExt hx54, ?_⟩
  refine Lx_cu (i := 2) rfl (fun w59 hw60 => ?_)
  have H61 := H58.ext hw60
  refine (C_storeA H61 2 rfl 0 (sub := [(idCells zeroId)]) [(idCells zeroId)] Tryz.sizeOf44 rfl rfl rfl rfl ⟨[(idCells zeroId)], [], rfl, rfl, rfl⟩ rfl ?_)
  intro w62 hg63 H64
  refine ⟨Gr.mono (M' := fun _ => True) hg63 (fun _ _ => trivial), ?_⟩
  refine Lx_cu (i := 3) rfl (fun w65 hw66 => ?_)
  have H67 := H64.ext hw66
  refine (C_storeA H67 1 rfl 0 (sub := [[(slV x52.bh x52.b)], [(.bool x52.bad)]]) [[(slV x52.bh x52.b)], [(.bool x52.bad)]] Tryz.sizeOf110 rfl rfl rfl rfl ⟨[[(.slice none 0 0)], [(.bool false)]], [], rfl, rfl, rfl⟩ rfl ?_)
  intro w68 hg69 H70
  refine ⟨Gr.mono (M' := fun _ => True) hg69 (fun _ _ => trivial), ?_⟩
  refine Lx_nil (fun w71 hw72 => ?_)
  have H73 := H70.ext hw72
  refine Then_n (W_ret (Then_r ?_))
  refine ret_cc Tryz.results76 (inMem (cs := [(idCells zeroId)]) rfl Tryz.isAgg44 Tryz.sizeOf44 rfl (boxR_at (H73.getOwn 2 rfl))) (inMem (cs := [[(slV x52.bh x52.b)], [(.bool x52.bad)]]) rfl Tryz.isAgg110 Tryz.sizeOf110 rfl (boxR_at (H73.getOwn 1 rfl))) ?_
  exact ⟨x52, (id_val (gi_f Ex (by assumption))), H73.gr, (hr55.trans (congrArg Prod.snd (gi_f Ex (by assumption)))), ((H73.sl 0 rfl).mono (fun _ h => h.elim))⟩
 ·have hc46 : (x.bad = false ∧ ¬ (((x.b.length : Nat) : Int) < 32)) := (And.imp (fun h => h) (fun h => (of_decide_eq_false h)) (orF hc46))
  refine W_skip (Then_n (W_seq (W_seq (W_reg ?_))))
  refine O_v rfl (R_assign (v := (.int .i64 0)) rfl ?_)
  refine O_nil (Then_n (W_block ?_))
  refine W_loop (fun m74 e75 w76 => ∃ (k : Nat), ∃ (dd : ID), m74 = 32 - k ∧ (k ≤ 32) ∧ (dd = idPut zeroId (x.b.take k)) ∧ ∃ eb77, e75 = envL [(1, (.pointer (some ⟨b4, 0, none⟩))), (2, (.pointer (some ⟨b9, 0, none⟩))), (3, (.pointer (some ⟨b14, 0, none⟩))), (4, (.pointer (some ⟨b19, 0, none⟩))), (5, (.int .i64 ((k : Nat) : Int)))] eb77 ∧ Ctx w nob w76 [boxR b19 44 [(idCells dd)], boxR b14 110 [[(.slice none 0 0)], [(.bool false)]], boxR b9 44 [(idCells zeroId)], boxR b4 110 [[(slV x.bh x.b)], [(.bool x.bad)]]] [slI Fx encB 1 x.bh x.b]) _ ⟨0, zeroId, rfl, (by omega), (idPut_nil zeroId).symm, _, envL_self ⟨rfl, rfl, rfl, rfl, rfl, trivial⟩, H45⟩ ?_
  rintro m74 _ w76 ⟨k, dd, rfl, hk, hd, eb77, rfl, H78⟩
  refine W_seq (W_seq (W_reg ?_))
  refine O_v rfl (R_move (v := (.int .i64 ((k : Nat) : Int))) rfl ?_)
  refine O_v rfl (R_cmp (a := ((k : Nat) : Int)) (b := 32) (r := (decide (((k : Nat) : Int) < 32))) rfl rfl rfl ?_)
  refine O_nil (Then_n ?_)
  refine W_cond (t := (decide (((k : Nat) : Int) < 32))) rfl (fun hc79 => ?_) (fun hc79 => ?_)
  ·have hc79 : (((k : Nat) : Int) < 32) := (of_decide_eq_true hc79)
   refine W_skip (Then_n (W_seq (W_block (W_reg ?_))))
   refine O_v rfl (R_move (v := (.int .i64 ((k : Nat) : Int))) rfl ?_)
   refine O_v rfl (R_fieldAddr (off := 0) (oo := 0) Tryz.underlying110 rfl rfl Tryz.sizeOf22 rfl rfl ?_)
   refine O_v rfl (R_load1 (v := (slV x.bh x.b)) Tryz.isAgg22 rfl ((boxR_at (H78.getOwn 3 rfl)).chunks 0 1 0 0 _ rfl rfl rfl) ?_)
   refine O_v rfl (R_move (v := (.int .i64 ((k : Nat) : Int))) rfl ?_)
   refine O_v rfl (R_index_pure (H78.sl 0 rfl) (n := x.b.length) rfl (j := ((k : Nat) : Int)) (oo := (x.bh.o + k * 1)) Tryz.underlying22 Tryz.sizeOf5 rfl rfl (by omega) (by omega) rfl ?_)
   refine O_v rfl (R_load1 (v := (.int .u8 ((nth x.b k).toNat : Int))) Tryz.isAgg5 rfl ((Sl.elem (H78.sl 0 rfl) (i := k) (by omega) rfl).chunks 0 1 0 (x.bh.o + k * 1) _ rfl rfl rfl) ?_)
   refine O_v rfl (R_index_array (n := 32) (k := 1) (o := 0) (oo := (0 + k * 1)) (j := ((k : Nat) : Int)) Tryz.underlying44 Tryz.sizeOf5 rfl rfl (by omega) (by omega) rfl ?_)
   refine O_u (C_storeId H78 0 (v := dd) (o := k) (c := (nth x.b k)) rfl Tryz.sizeOf5 rfl rfl (by omega) ?_)
   intro w80 hg81 H82
   refine O_nil (Blk_n (Then_n (W_reg ?_)))
   refine O_v rfl (R_move (v := (.int .i64 ((k : Nat) : Int))) rfl ?_)
   refine O_v rfl (R_arith (a := ((k : Nat) : Int)) (b := 1) (r0 := ((k : Nat) : Int) + 1) (r := ((k + 1 : Nat) : Int)) rfl rfl rfl (wrapN _ (by omega)) ?_)
   refine O_v rfl (R_assign (v := (.int .i64 ((k + 1 : Nat) : Int))) rfl ?_)
   refine O_nil (Then_n ?_)
   refine ⟨_, ?_, (k + 1), (idSet dd k (nth x.b k)), rfl, (by omega), (by rw [hd]; exact idSet_put _ _ (by omega) (by omega)), _, envL_self ⟨rfl, rfl, rfl, rfl, rfl, trivial⟩, H82⟩
   omega
  ·have hc79 : ¬ (((k : Nat) : Int) < 32) := (of_decide_eq_false hc79)
   refine W_exit (Then_x (Then_x (Blk_x (Then_n (W_seq ?_)))))
   refine W_rgdM TryzMixed (fun c => c = b9) (fun i => if i == 5 then 1 else if i == 6 then 2 else 0) [(0, .q 1), (1, .q 2), (2, .q 1), (3, .q 2), (4, .q 2), (5, .c 1), (6, .c 2)] (by kernel_rfl) ?_
   refine Lx_q (i := 0) rfl rfl _ (fun v83 hv84 => R_loadA (cs := [(idCells dd)]) Tryz.isAgg44 Tryz.sizeOf44 rfl rfl ((boxR_at (H78.ownGr 0 2 (by decide) rfl rfl hv84 (fun _ h => congrArg some h.symm))).chunks 0 1 0 0 _ rfl rfl rfl) ⟨rfl, Gr.refl _ _⟩) ?_
   refine Lx_q (i := 1) rfl rfl _ (fun v85 hv86 => R_fieldAddr (off := 0) (oo := 0) Tryz.underlying110 rfl rfl Tryz.sizeOf22 rfl rfl ⟨rfl, Gr.refl _ _⟩) ?_
   refine Lx_q (i := 2) rfl rfl _ (fun v87 hv88 => R_load1 (v := (slV x.bh x.b)) Tryz.isAgg22 rfl ((boxR_at (H78.ownGr 3 2 (by decide) rfl rfl hv88 (fun _ h => congrArg some h.symm))).chunks 0 1 0 0 _ rfl rfl rfl) ⟨rfl, Gr.refl _ _⟩) ?_
   refine Lx_q (i := 3) rfl rfl _ (fun v89 hv90 => R_sliceS (h := x.bh) (l := x.b) (a := 32) (b := x.b.length) (m := x.bh.c) (x.b.drop 32) Tryz.underlying22 Tryz.sizeOf5 rfl rfl rfl rfl (by decide) (by omega) (by first | omega | exact Nat.le_refl _) (by have := Sl.cap (H78.sl 0 rfl); omega) (by first | omega | exact Nat.le_refl _ | (have := Sl.cap (H78.sl 0 rfl); omega)) (by rw [List.take_length])  ⟨rfl, Gr.refl _ _⟩) ?_
   refine Lx_q (i := 4) rfl rfl _ (fun v91 hv92 => R_buildL (vs := [(0, (slV (hSub x.bh 1 32 x.bh.c) (x.b.drop 32))), (1, (.bool false))]) (v := aggOf [[(slV (hSub x.bh 1 32 x.bh.c) (x.b.drop 32))], [(.bool false)]]) rfl (fun _ => by kernel_rfl) ⟨rfl, Gr.refl _ _⟩) ?_
   refine Lx_cu (i := 5) rfl (fun w93 hw94 => ?_)
   have H95 := H78.ext hw94
   refine (C_storeA H95 2 rfl 0 (sub := [(idCells dd)]) [(idCells dd)] Tryz.sizeOf44 rfl rfl rfl rfl ⟨[(idCells zeroId)], [], rfl, rfl, rfl⟩ rfl ?_)
   intro w96 hg97 H98
   refine ⟨Gr.mono hg97 (fun _ h => (Option.some.inj h).symm), ?_⟩
   refine Lx_cu (i := 6) rfl (fun w99 hw100 => ?_)
   have H101 := H98.ext hw100
   refine (C_storeA H101 1 rfl 0 (sub := [[(slV (hSub x.bh 1 32 x.bh.c) (x.b.drop 32))], [(.bool false)]]) [[(slV (hSub x.bh 1 32 x.bh.c) (x.b.drop 32))], [(.bool false)]] Tryz.sizeOf110 rfl rfl rfl rfl ⟨[[(.slice none 0 0)], [(.bool false)]], [], rfl, rfl, rfl⟩ rfl ?_)
   intro w102 hg103 H104
   refine ⟨Gr.mono (M' := fun _ => True) hg103 (fun _ _ => trivial), ?_⟩
   refine Lx_nil (fun w105 hw106 => ?_)
   have H107 := H104.ext hw106
   refine Then_n (W_ret ?_)
   refine ret_cc Tryz.results76 (inMem (cs := [(idCells dd)]) rfl Tryz.isAgg44 Tryz.sizeOf44 rfl (boxR_at (H107.getOwn 2 rfl))) (inMem (cs := [[(slV (hSub x.bh 1 32 x.bh.c) (x.b.drop 32))], [(.bool false)]]) rfl Tryz.isAgg110 Tryz.sizeOf110 rfl (boxR_at (H107.getOwn 1 rfl))) ?_
   exact ⟨({ b := x.b.drop 32, bh := hSub x.bh 1 32 x.bh.c, bad := false } : RdS), (id_val (gi_t Ex (by assumption) hd (by omega))), H107.gr, (congrArg Prod.snd (gi_t Ex (by assumption) hd (by omega))), (Sl.sub (H107.sl 0 rfl) 32 x.b.length x.bh.c (by omega) (by first | omega | exact Nat.le_refl _) (by have := Sl.cap (H78.sl 0 rfl); omega) (by first | omega | exact Nat.le_refl _ | (have := Sl.cap (H78.sl 0 rfl); omega)) (by rw [List.take_length]))⟩

end Go.Proofs.YthjdhfoeckfmbaaGreat
