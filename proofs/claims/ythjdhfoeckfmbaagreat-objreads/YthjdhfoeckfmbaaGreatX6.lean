/- Proved: for every input, pollardlaw04.ObjReads returns true and leaves its argument as it was. No condition. -/
import Derived.Test.YthjdhfoeckfmbaaGreatX5
namespace Go.Proofs.YthjdhfoeckfmbaaGreat
open Go
set_option maxRecDepth 100000
set_option linter.unusedVariables false
set_option linter.unusedSimpArgs false
set_option linter.unusedSectionVars false
theorem cF9 : callable Tryz.prog 9 = true := by kernel_rfl
theorem cF19 : callable Tryz.prog 19 = true := by kernel_rfl
theorem cF20 : callable Tryz.prog 20 = true := by kernel_rfl
theorem cF22 : callable Tryz.prog 22 = true := by kernel_rfl
theorem cF27 : callable Tryz.prog 27 = true := by kernel_rfl
theorem cF35 : callable Tryz.prog 35 = true := by kernel_rfl
set_option maxHeartbeats 4000000 in
theorem law04_ObjReads (hb : SlH) (b : List UInt8) (w : World) (Sb : Sl (Old w) encB 1 hb b w) :
    Calls Tryz.prog 7 #[(slV hb b)] w (Ret fun v w' => v = (.bool true) ∧ Ext w w') := by
 refine calls_W Tryz.func7 rfl Tryz.ntmps7 rfl ?_
 have H0 := Ctx.start w nob
 have H1 := H0.addSl _ Sb (fun b hb => ⟨hb, fun _ ho => (nomatch ho)⟩)
 have LSb := Sb.len
 refine W_seq (W_reg ?_)
 refine O_as (v := (.bool false)) rfl rfl ?_
 refine O_nil (Then_n (W_seq (W_seq (W_reg ?_))))
 refine O_v rfl (R_callL (vs := []) cF9 rfl rfl ((law04_alive  w ).ret ?_))
 rintro _ w2 ⟨rfl, hx3⟩
 have H4 := H1.ext hx3
 refine O_v rfl (R_not rfl ?_)
 refine O_nil (Then_n ?_)
 refine W_cond_f rfl ?_
 refine W_skip (Then_n (W_seq (W_seq (W_reg ?_))))
 refine O_mv (v := (slV hb b)) rfl rfl ?_
 refine O_v rfl (R_len_slice (a := hb.a) (n := b.length) (c := hb.c) Tryz.underlying22 rfl ?_)
 refine O_v rfl (R_cmp (a := (b.length : Int)) (b := 20000) (r := (decide (20000 < (b.length : Int)))) rfl rfl rfl ?_)
 refine O_nil (Then_n ?_)
 refine W_cond rfl (fun hc5 => ?_) (fun hc5 => ?_)
 ·have hc5 := (of_decide_eq_true hc5)
  refine W_seq (W_reg ?_)
  refine O_as (v := (.bool true)) rfl rfl ?_
  refine O_nil (Then_n (W_ret (Then_r ?_)))
  refine ret_1 (v := (.bool true)) Tryz.results7 rfl ?_
  exact ⟨rfl, H4.gr⟩
 ·have hc5 := (of_decide_eq_false hc5)
  refine W_skip (Then_n (W_seq (W_reg ?_)))
  refine O_mv (v := (slV hb b)) rfl rfl ?_
  refine O_v rfl (R_callL (vs := [(slV hb b)]) cF17 rfl rfl ((obj_Dir hb b w2 (H4.slOld 0 rfl) (by omega)).ret ?_))
  rintro _ w9 ⟨h6, l7, S8, e16, rfl, hx10, ho11, hS12, hd13, hr14⟩
  have H15 := H4.addRowDeep (h := fun x : ItemS => x.hh) (f := fun x : ItemS => x.heads) hx10 ho11 hS12 hd13
  refine O_mv (v := (.tuple #[(slV h6 l7), (.int .i64 e16)])) rfl rfl (O_ex (v := (slV h6 l7)) rfl rfl rfl (O_ex (v := (.int .i64 e16)) rfl rfl rfl (O_as (v := (slV h6 l7)) rfl rfl ?_)))
  refine O_as (v := (.int .i64 e16)) rfl rfl ?_
  refine O_nil (Then_n (W_seq (W_reg ?_)))
  refine O_mv (v := (slV hb b)) rfl rfl ?_
  refine O_v rfl (R_callL (vs := [(slV hb b)]) cF25 rfl rfl ((obj_Change hb b w9 (H15.slOld 1 rfl) (by omega)).ret ?_))
  rintro _ w20 ⟨x17, S18, e19, rfl, hx21, hS22, hs23, hs24, hs25, hr26⟩
  have H28 := H15.addImm hx21 (slI S18 idCh 32 x17.ph x17.parents) hs23 hS22
  have H29 := H28.immOf 0 rfl (slI S18 opCh 41 x17.oh x17.ops) (fun _ h => h) (fun _ => hs24)
  have H30 := H29.immOf 0 rfl (deepI S18 stampCh 2 (fun x : OpS => x.oh) (fun x : OpS => x.over) x17.ops) (fun _ h => h) (fun _ => hs25)
  refine O_mv (v := (.tuple #[(aggOf (changeCh x17)), (.int .i64 e19)])) rfl rfl (O_ex (v := (aggOf (changeCh x17))) rfl rfl rfl (O_ex (v := (.int .i64 e19)) rfl rfl rfl ?_))
  refine O_v rfl (C_alloc H30 [[(.slice none 0 0)], [(.int .i64 0)], [(.int .i64 0)], [(.slice none 0 0)], (idCells zeroId), [(.string ByteArray.empty)]] Tryz.zeroValue47 ?_)
  intro b31 w32 hb33 hx34 H35
  refine O_u (C_storeW H35 0 rfl (sub := [[(slV x17.ph x17.parents)], [(.int .i64 x17.time)], [(.int .i64 x17.r)], [(slV x17.oh x17.ops)], (idCells x17.tree), [(.string x17.msg)]]) Tryz.sizeOf47 rfl rfl rfl rfl rfl ?_)
  intro w36 hg37 H38
  refine O_as (v := (.int .i64 e19)) rfl rfl ?_
  refine O_nil (Then_n (W_seq (W_reg ?_)))
  refine O_mv (v := (slV hb b)) rfl rfl ?_
  refine O_v rfl (R_callL (vs := [(slV hb b)]) cF30 rfl rfl ((obj_Label hb b w36 (H38.slOld 4 rfl) (by omega)).ret ?_))
  rintro _ w39 ⟨rfl, hx40⟩
  have H41 := H38.ext hx40
  refine O_mv (v := (.tuple #[(aggOf (labelCh ((labelOf b).1))), (.int .i64 ((labelOf b).2))])) rfl rfl (O_ex (v := (aggOf (labelCh ((labelOf b).1)))) rfl rfl rfl (O_ex (v := (.int .i64 ((labelOf b).2))) rfl rfl rfl ?_))
  refine O_v rfl (C_alloc H41 [(idCells zeroId), [(.string ByteArray.empty)], [(.string ByteArray.empty)]] Tryz.zeroValue55 ?_)
  intro b42 w43 hb44 hx45 H46
  refine O_u (C_storeW H46 0 rfl (sub := [(idCells (((labelOf b).1).target)), [(.string (((labelOf b).1).name))], [(.string (((labelOf b).1).msg))]]) Tryz.sizeOf55 rfl rfl rfl rfl rfl ?_)
  intro w47 hg48 H49
  refine O_as (v := (.int .i64 ((labelOf b).2))) rfl rfl ?_
  refine O_nil (Then_n (W_seq (W_reg ?_)))
  refine O_mv (v := (slV hb b)) rfl rfl ?_
  refine O_v rfl (R_callL (vs := [(slV hb b)]) cF32 rfl rfl ((ref04_Dir hb b w47 (H49.slOld 4 rfl)).ret ?_))
  rintro _ w53 ⟨h50, l51, S52, rfl, hx54, ho55, hS56, hd57, hr58⟩
  have H59 := H49.addRowDeep (h := fun x : ItemS => x.hh) (f := fun x : ItemS => x.heads) hx54 ho55 hS56 hd57
  refine O_mv (v := (.tuple #[(slV h50 l51), (.bool (DirB b))])) rfl rfl (O_ex (v := (slV h50 l51)) rfl rfl rfl (O_ex (v := (.bool (DirB b))) rfl rfl rfl (O_as (v := (slV h50 l51)) rfl rfl ?_)))
  refine O_as (v := (.bool (DirB b))) rfl rfl ?_
  refine O_nil (Then_n (W_seq (W_reg ?_)))
  refine O_mv (v := (slV hb b)) rfl rfl ?_
  refine O_v rfl (R_callL (vs := [(slV hb b)]) cF33 rfl rfl ((ref04_Change hb b w53 (H59.slOld 5 rfl)).ret ?_))
  rintro _ w63 ⟨x60, S61, rfl, hx64, hS65, hs66, hs67, hs68, hr69⟩
  have H71 := H59.addImm hx64 (slI S61 idCh 32 x60.ph x60.parents) hs66 hS65
  have H72 := H71.immOf 0 rfl (slI S61 opCh 41 x60.oh x60.ops) (fun _ h => h) (fun _ => hs67)
  have H73 := H72.immOf 0 rfl (deepI S61 stampCh 2 (fun x : OpS => x.oh) (fun x : OpS => x.over) x60.ops) (fun _ h => h) (fun _ => hs68)
  refine O_mv (v := (.tuple #[(aggOf (changeCh x60)), (.bool (ChangeB b))])) rfl rfl (O_ex (v := (aggOf (changeCh x60))) rfl rfl rfl (O_ex (v := (.bool (ChangeB b))) rfl rfl rfl ?_))
  refine O_v rfl (C_alloc H73 [[(.slice none 0 0)], [(.int .i64 0)], [(.int .i64 0)], [(.slice none 0 0)], (idCells zeroId), [(.string ByteArray.empty)]] Tryz.zeroValue47 ?_)
  intro b74 w75 hb76 hx77 H78
  refine O_u (C_storeW H78 0 rfl (sub := [[(slV x60.ph x60.parents)], [(.int .i64 x60.time)], [(.int .i64 x60.r)], [(slV x60.oh x60.ops)], (idCells x60.tree), [(.string x60.msg)]]) Tryz.sizeOf47 rfl rfl rfl rfl rfl ?_)
  intro w79 hg80 H81
  refine O_as (v := (.bool (ChangeB b))) rfl rfl ?_
  refine O_nil (Then_n (W_seq (W_reg ?_)))
  refine O_mv (v := (slV hb b)) rfl rfl ?_
  refine O_v rfl (R_callL (vs := [(slV hb b)]) cF34 rfl rfl ((ref04_Label hb b w79 (H81.slOld 8 rfl)).ret ?_))
  rintro _ w82 ⟨rfl, hx83⟩
  have H84 := H81.ext hx83
  refine O_mv (v := (.tuple #[(aggOf (labelCh ((labelOf b).1))), (.bool (decide ((labelOf b).2 = 0)))])) rfl rfl (O_ex (v := (aggOf (labelCh ((labelOf b).1)))) rfl rfl rfl (O_ex (v := (.bool (decide ((labelOf b).2 = 0)))) rfl rfl rfl ?_))
  refine O_v rfl (C_alloc H84 [(idCells zeroId), [(.string ByteArray.empty)], [(.string ByteArray.empty)]] Tryz.zeroValue55 ?_)
  intro b85 w86 hb87 hx88 H89
  refine O_u (C_storeW H89 0 rfl (sub := [(idCells (((labelOf b).1).target)), [(.string (((labelOf b).1).name))], [(.string (((labelOf b).1).msg))]]) Tryz.sizeOf55 rfl rfl rfl rfl rfl ?_)
  intro w90 hg91 H92
  refine O_as (v := (.bool (decide ((labelOf b).2 = 0)))) rfl rfl ?_
  refine O_nil (Then_n (W_seq (W_seq (W_reg ?_))))
  refine O_mv (v := (.int .i64 e16)) rfl rfl ?_
  refine O_v rfl (R_cmp (a := e16) (b := 0) (r := (decide (e16 = 0))) rfl rfl rfl ?_)
  refine O_mv (v := (.bool (DirB b))) rfl rfl ?_
  refine O_k rfl (.bool false) (R_neqB (a := (decide (e16 = 0))) (b := (DirB b)) Tryz.underlying4 rfl rfl ⟨(congrArg Value.bool (reads_d hr14)), Gr.refl _ _⟩) (fun w93 hx94 => ?_)
  have H95 := H92.ext hx94
  refine O_mv (v := (.bool false)) rfl rfl ?_
  refine O_vT rfl rfl rfl rfl (R_move (v := (.int .i64 e19)) rfl ?_)
  refine O_vT rfl rfl rfl rfl (R_cmp (a := e19) (b := 0) (r := (decide (e19 = 0))) rfl rfl rfl ?_)
  refine O_vT rfl rfl rfl rfl (R_move (v := (.bool (ChangeB b))) rfl ?_)
  refine O_kT rfl rfl rfl rfl (.bool false) (R_neqB (a := (decide (e19 = 0))) (b := (ChangeB b)) Tryz.underlying4 rfl rfl ⟨(congrArg Value.bool (reads_c hr26)), Gr.refl _ _⟩) (fun w96 hx97 => ?_)
  have H98 := H95.ext hx97
  refine O_v rfl (R_pick (t := false) (v := (.bool false)) rfl rfl ?_)
  refine O_mv (v := (.bool false)) rfl rfl ?_
  refine O_vT rfl rfl rfl rfl (R_move (v := (.int .i64 ((labelOf b).2))) rfl ?_)
  refine O_vT rfl rfl rfl rfl (R_cmp (a := (labelOf b).2) (b := 0) (r := (decide ((labelOf b).2 = 0))) rfl rfl rfl ?_)
  refine O_vT rfl rfl rfl rfl (R_move (v := (.bool (decide ((labelOf b).2 = 0)))) rfl ?_)
  refine O_kT rfl rfl rfl rfl (.bool false) (R_neqB (a := (decide ((labelOf b).2 = 0))) (b := (decide ((labelOf b).2 = 0))) Tryz.underlying4 rfl rfl ⟨(congrArg Value.bool (by simp)), Gr.refl _ _⟩) (fun w99 hx100 => ?_)
  have H101 := H98.ext hx100
  refine O_v rfl (R_pick (t := false) (v := (.bool false)) rfl rfl ?_)
  refine O_nil (Then_n ?_)
  refine W_cond_f rfl ?_
  refine W_skip (Then_n (W_seq (W_reg ?_)))
  refine O_mv (v := (slV hb b)) rfl rfl ?_
  refine O_k rfl (.int .i64 (kindOf b)) (R_callL (vs := [(slV hb b)]) cF14 rfl rfl (obj_Kind hb b w99 (H101.slOld 8 rfl) (by omega))) (fun w102 hx103 => ?_)
  have H104 := H101.ext hx103
  refine O_mv (v := (slV hb b)) rfl rfl ?_
  refine O_k rfl (.int .i64 (kindOf b)) (R_callL (vs := [(slV hb b)]) cF35 rfl rfl (ref04_Kind hb b w102 (H104.slOld 8 rfl))) (fun w105 hx106 => ?_)
  have H107 := H104.ext hx106
  refine O_k rfl (.bool true) (R_cmp (a := kindOf b) (b := kindOf b) (r := (decide (kindOf b = kindOf b))) rfl rfl rfl ⟨(boolK (decide_eq_true rfl)), Gr.refl _ _⟩) (fun w108 hx109 => ?_)
  have H110 := H107.ext hx109
  refine O_mv (v := (.bool true)) rfl rfl ?_
  refine O_vT rfl rfl rfl rfl (R_move (v := (slV h6 l7)) rfl ?_)
  refine O_vT rfl rfl rfl rfl (R_move (v := (slV h50 l51)) rfl ?_)
  refine O_kT rfl rfl rfl rfl (.bool true) (R_callL (vs := [(slV h6 l7), (slV h50 l51)]) cF19 rfl rfl ((ref04_SameDir h6 l7 h50 l51 w108 (H110.rowSl 5 rfl (fun _ => rfl)) (H110.deepOld 7 rfl) (H110.rowSl 2 rfl (fun _ => rfl)) (H110.deepOld 3 rfl)).ret (fun _ _ h => ⟨h.1.trans (boolK (decide_eq_true (reads_sd hr14 hr58))), h.2⟩))) (fun w111 hx112 => ?_)
  have H113 := H110.ext hx112
  refine O_v rfl (R_pick (t := true) (v := (.bool true)) rfl rfl ?_)
  refine O_mv (v := (.bool true)) rfl rfl ?_
  refine O_vT rfl rfl rfl rfl (R_loadA (cs := [[(slV x17.ph x17.parents)], [(.int .i64 x17.time)], [(.int .i64 x17.r)], [(slV x17.oh x17.ops)], (idCells x17.tree), [(.string x17.msg)]]) Tryz.isAgg47 Tryz.sizeOf47 rfl rfl (H113.bx 4 rfl 0 6 0 0 _ rfl rfl rfl) ?_)
  refine O_vT rfl rfl rfl rfl (R_loadA (cs := [[(slV x60.ph x60.parents)], [(.int .i64 x60.time)], [(.int .i64 x60.r)], [(slV x60.oh x60.ops)], (idCells x60.tree), [(.string x60.msg)]]) Tryz.isAgg47 Tryz.sizeOf47 rfl rfl (H113.bx 1 rfl 0 6 0 0 _ rfl rfl rfl) ?_)
  refine O_kT rfl rfl rfl rfl (.bool true) (R_callL (vs := [(aggOf (changeCh x17)), (aggOf (changeCh x60))]) cF27 rfl rfl ((ref04_SameChange x17 x60 w111 (H113.slOld 6 rfl) (H113.slOld 5 rfl) (H113.deepOld 4 rfl) (H113.slOld 2 rfl) (H113.slOld 1 rfl) (H113.deepOld 0 rfl)).ret (fun _ _ h => ⟨h.1.trans (boolK (decide_eq_true (reads_sc hr26 hr69))), h.2⟩))) (fun w114 hx115 => ?_)
  have H116 := H113.ext hx115
  refine O_v rfl (R_pick (t := true) (v := (.bool true)) rfl rfl ?_)
  refine O_mv (v := (.bool true)) rfl rfl ?_
  refine O_vT rfl rfl rfl rfl (R_loadA (cs := [(idCells (((labelOf b).1).target)), [(.string (((labelOf b).1).name))], [(.string (((labelOf b).1).msg))]]) Tryz.isAgg55 Tryz.sizeOf55 rfl rfl (H116.bx 3 rfl 0 3 0 0 _ rfl rfl rfl) ?_)
  refine O_vT rfl rfl rfl rfl (R_loadA (cs := [(idCells (((labelOf b).1).target)), [(.string (((labelOf b).1).name))], [(.string (((labelOf b).1).msg))]]) Tryz.isAgg55 Tryz.sizeOf55 rfl rfl (H116.bx 0 rfl 0 3 0 0 _ rfl rfl rfl) ?_)
  refine O_kT rfl rfl rfl rfl (.bool true) (R_eqv (a := ((labelOf b).1)) (b := ((labelOf b).1)) eqv_Label55 rfl Tryz.eqGuardType55 rfl rfl ⟨(boolK (decide_eq_true rfl)), Gr.refl _ _⟩) (fun w117 hx118 => ?_)
  have H119 := H116.ext hx118
  refine O_v rfl (R_pick (t := true) (v := (.bool true)) rfl rfl ?_)
  refine O_mv (v := (.bool true)) rfl rfl ?_
  refine O_vT rfl rfl rfl rfl (R_move (v := (slV hb b)) rfl ?_)
  refine O_vT rfl rfl rfl rfl (R_callL (vs := [(slV hb b)]) cF21 rfl rfl ((obj_LinksG hb b w117 (H119.slOld 8 rfl) (by omega)).ret ?_))
  rintro _ w122 ⟨h120, S121, rfl, hx123, hS124, hv125⟩
  have H126 := H119.addImm hx123 (slI S121 idCh 32 h120 (linksOf b)) hv125 hS124
  refine O_vT rfl rfl rfl rfl (R_move (v := (slV hb b)) rfl ?_)
  refine O_vT rfl rfl rfl rfl (R_callL (vs := [(slV hb b)]) cF22 rfl rfl ((ref04_LinksG hb b w122 (H126.slOld 9 rfl)).ret ?_))
  rintro _ w128 ⟨h127, rfl, hx129, ho130⟩
  have H131 := H126.addRow hx129 ho130
  refine O_kT rfl rfl rfl rfl (.bool true) (R_callL (vs := [(slV h120 (linksOf b)), (slV h127 (linksOf b))]) cF20 rfl rfl ((ref04_SameIDs h120 (linksOf b) h127 (linksOf b) w128 (H131.slOld 0 rfl) (H131.rowSl 0 rfl (fun _ => rfl))).ret (fun _ _ h => ⟨h.1.trans (boolK (decide_eq_true rfl)), h.2⟩))) (fun w132 hx133 => ?_)
  have H134 := H131.ext hx133
  refine O_v rfl (R_pick (t := true) (v := (.bool true)) rfl rfl ?_)
  refine O_as (v := (.bool true)) rfl rfl ?_
  refine O_nil (Then_n (W_ret ?_))
  refine ret_1 (v := (.bool true)) Tryz.results7 rfl ?_
  exact ⟨rfl, H134.gr⟩
end Go.Proofs.YthjdhfoeckfmbaaGreat
