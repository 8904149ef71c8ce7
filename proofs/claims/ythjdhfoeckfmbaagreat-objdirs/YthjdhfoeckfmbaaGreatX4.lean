/- Proved: for every input, pollardlaw04.ObjDirs returns true and leaves its argument as it was. No condition. -/
import Derived.Test.YthjdhfoeckfmbaaGreatX3
namespace Go.Proofs.YthjdhfoeckfmbaaGreat
open Go
set_option maxRecDepth 100000
set_option linter.unusedVariables false
set_option linter.unusedSimpArgs false
set_option linter.unusedSectionVars false
theorem cF10 : callable Tryz.prog 10 = true := by kernel_rfl
theorem cF15 : callable Tryz.prog 15 = true := by kernel_rfl
theorem cF21 : callable Tryz.prog 21 = true := by kernel_rfl
theorem cF23 : callable Tryz.prog 23 = true := by kernel_rfl
theorem cF28 : callable Tryz.prog 28 = true := by kernel_rfl
set_option maxHeartbeats 4000000 in
theorem law04_alive  (w : World) :
    Calls Tryz.prog 9 #[] w (Ret fun v w' => v = (.bool true) ∧ Ext w w') := by
 refine calls_W Tryz.func9 rfl Tryz.ntmps9 rfl ?_
 have H0 := Ctx.start w nob
 refine W_seq (W_reg ?_)
 refine O_as (v := (.bool false)) rfl rfl ?_
 refine O_nil (Then_n (W_seq (W_reg ?_)))
 refine O_v rfl (C_buildSliceL H0 (enc := encB) (val := byteV) ([97, 98] : List UInt8) Tryz.underlying22 Tryz.sizeOf5 Tryz.zeroValue5 rfl (by decide) (fun _ => rfl) (fun _ => rfl) rfl rfl (by decide) ?_)
 intro b1 w2 hb3 hx4 H5
 refine O_v rfl (C_convBB H5 0 rfl Tryz.underlying22 Tryz.underlying5 rfl (by decide) ?_)
 intro w6 hg7 H8
 refine O_v rfl (R_callL (vs := [(slV ⟨some ⟨b1, 0, none⟩, b1, 0, 2⟩ ([97, 98] : List UInt8))]) cF10 rfl rfl ((obj_PutBlob ⟨some ⟨b1, 0, none⟩, b1, 0, 2⟩ ([97, 98] : List UInt8) w6 (H8.slOld 0 rfl)).ret ?_))
 rintro _ w10 ⟨h9, rfl, hx11, ho12⟩
 have H13 := H8.addRow hx11 ho12
 refine O_mv (v := (.tuple #[(slV h9 (putBlobB ([97, 98] : List UInt8))), (.int .i64 (putBlobE ([97, 98] : List UInt8)))])) rfl rfl (O_ex (v := (slV h9 (putBlobB ([97, 98] : List UInt8)))) rfl rfl rfl (O_ex (v := (.int .i64 (putBlobE ([97, 98] : List UInt8)))) rfl rfl rfl (O_as (v := (slV h9 (putBlobB ([97, 98] : List UInt8)))) rfl rfl ?_)))
 refine O_as (v := (.int .i64 (putBlobE ([97, 98] : List UInt8)))) rfl rfl ?_
 refine O_nil (Then_n (W_seq (W_reg ?_)))
 refine O_v rfl (R_buildL (vs := [(0, (.int .u8 9))]) (v := aggOf [(idCells (mkId 9))]) rfl (fun _ => by kernel_rfl) ?_)
 refine O_v rfl (R_buildL (vs := [(1, (.int .i64 1)), (2, (.int .i64 1)), (4, (aggOf (idCh (mkId 9))))]) (v := aggOf [[(.slice none 0 0)], [(.int .i64 1)], [(.int .i64 1)], [(.slice none 0 0)], (idCells (mkId 9)), [(.string ByteArray.empty)]]) rfl (fun _ => by kernel_rfl) ?_)
 refine O_v rfl (R_callL (vs := [(aggOf [[(.slice none 0 0)], [(.int .i64 1)], [(.int .i64 1)], [(.slice none 0 0)], (idCells (mkId 9)), [(.string ByteArray.empty)]])]) cF23 rfl rfl ((obj_PutChange ({ parents := [], ph := nilH, time := 1, r := 1, ops := [], oh := nilH, tree := (mkId 9), msg := ByteArray.empty } : ChangeS) w10 (Sl.nil _ _ _ _) (Sl.nil _ _ _ _) (fun _ hx => (nomatch hx))).ret ?_))
 rintro _ w15 ⟨h14, rfl, hx16, ho17⟩
 have H18 := H13.addRow hx16 ho17
 refine O_mv (v := (.tuple #[(slV h14 (putChangeB ({ parents := [], ph := nilH, time := 1, r := 1, ops := [], oh := nilH, tree := (mkId 9), msg := ByteArray.empty } : ChangeS))), (.int .i64 (putChangeE ({ parents := [], ph := nilH, time := 1, r := 1, ops := [], oh := nilH, tree := (mkId 9), msg := ByteArray.empty } : ChangeS)))])) rfl rfl (O_ex (v := (slV h14 (putChangeB ({ parents := [], ph := nilH, time := 1, r := 1, ops := [], oh := nilH, tree := (mkId 9), msg := ByteArray.empty } : ChangeS)))) rfl rfl rfl (O_ex (v := (.int .i64 (putChangeE ({ parents := [], ph := nilH, time := 1, r := 1, ops := [], oh := nilH, tree := (mkId 9), msg := ByteArray.empty } : ChangeS)))) rfl rfl rfl (O_as (v := (slV h14 (putChangeB ({ parents := [], ph := nilH, time := 1, r := 1, ops := [], oh := nilH, tree := (mkId 9), msg := ByteArray.empty } : ChangeS)))) rfl rfl ?_)))
 refine O_as (v := (.int .i64 (putChangeE ({ parents := [], ph := nilH, time := 1, r := 1, ops := [], oh := nilH, tree := (mkId 9), msg := ByteArray.empty } : ChangeS)))) rfl rfl ?_
 refine O_nil (Then_n (W_seq (W_reg ?_)))
 refine O_v rfl (R_buildL (vs := [(0, (.int .i64 1)), (1, (.int .i64 1))]) (v := aggOf [[(.int .i64 1)], [(.int .i64 1)]]) rfl (fun _ => by kernel_rfl) ?_)
 refine O_v rfl (R_buildL (vs := [(0, (.int .i64 1)), (1, (.int .i64 1))]) (v := aggOf [[(.int .i64 1)], [(.int .i64 1)]]) rfl (fun _ => by kernel_rfl) ?_)
 refine O_v rfl (R_buildL (vs := [(0, (aggOf [[(.int .i64 1)], [(.int .i64 1)]])), (1, (aggOf [[(.int .i64 1)], [(.int .i64 1)]])), (2, (.string (⟨#[97]⟩ : ByteArray)))]) (v := aggOf [[(.int .i64 1)], [(.int .i64 1)], [(.int .i64 1)], [(.int .i64 1)], [(.string (⟨#[97]⟩ : ByteArray))], (idCells zeroId), [(.slice none 0 0)]]) rfl (fun _ => by kernel_rfl) ?_)
 refine O_v rfl (C_buildSliceL H18 (enc := itemCh) (val := itemV) ([({ node := ({ T := 1, R := 1 } : Stamp), tm := ({ T := 1, R := 1 } : Stamp), name := (⟨#[97]⟩ : ByteArray), sub := zeroId, heads := [], hh := nilH } : ItemS)] : List ItemS) Tryz.underlying31 Tryz.sizeOf77 Tryz.zeroValue77 rfl (by decide) (fun _ => rfl) (fun _ => rfl) rfl rfl (by decide) ?_)
 intro b19 w20 hb21 hx22 H23
 refine O_v rfl (R_callL (vs := [(slV ⟨some ⟨b19, 0, none⟩, b19, 0, 1⟩ ([({ node := ({ T := 1, R := 1 } : Stamp), tm := ({ T := 1, R := 1 } : Stamp), name := (⟨#[97]⟩ : ByteArray), sub := zeroId, heads := [], hh := nilH } : ItemS)] : List ItemS))]) cF15 rfl rfl ((obj_PutDir ⟨some ⟨b19, 0, none⟩, b19, 0, 1⟩ ([({ node := ({ T := 1, R := 1 } : Stamp), tm := ({ T := 1, R := 1 } : Stamp), name := (⟨#[97]⟩ : ByteArray), sub := zeroId, heads := [], hh := nilH } : ItemS)] : List ItemS) w20 (H23.rowSl 0 rfl (fun _ => rfl)) (deep1 (Sl.nil _ _ _ _))).ret ?_))
 rintro _ w25 ⟨h24, rfl, hx26, ho27⟩
 have H28 := H23.addRow hx26 ho27
 refine O_mv (v := (.tuple #[(slV h24 (putDirB ([({ node := ({ T := 1, R := 1 } : Stamp), tm := ({ T := 1, R := 1 } : Stamp), name := (⟨#[97]⟩ : ByteArray), sub := zeroId, heads := [], hh := nilH } : ItemS)] : List ItemS))), (.int .i64 (putDirE ([({ node := ({ T := 1, R := 1 } : Stamp), tm := ({ T := 1, R := 1 } : Stamp), name := (⟨#[97]⟩ : ByteArray), sub := zeroId, heads := [], hh := nilH } : ItemS)] : List ItemS)))])) rfl rfl (O_ex (v := (slV h24 (putDirB ([({ node := ({ T := 1, R := 1 } : Stamp), tm := ({ T := 1, R := 1 } : Stamp), name := (⟨#[97]⟩ : ByteArray), sub := zeroId, heads := [], hh := nilH } : ItemS)] : List ItemS)))) rfl rfl rfl (O_ex (v := (.int .i64 (putDirE ([({ node := ({ T := 1, R := 1 } : Stamp), tm := ({ T := 1, R := 1 } : Stamp), name := (⟨#[97]⟩ : ByteArray), sub := zeroId, heads := [], hh := nilH } : ItemS)] : List ItemS)))) rfl rfl rfl (O_as (v := (slV h24 (putDirB ([({ node := ({ T := 1, R := 1 } : Stamp), tm := ({ T := 1, R := 1 } : Stamp), name := (⟨#[97]⟩ : ByteArray), sub := zeroId, heads := [], hh := nilH } : ItemS)] : List ItemS)))) rfl rfl ?_)))
 refine O_as (v := (.int .i64 (putDirE ([({ node := ({ T := 1, R := 1 } : Stamp), tm := ({ T := 1, R := 1 } : Stamp), name := (⟨#[97]⟩ : ByteArray), sub := zeroId, heads := [], hh := nilH } : ItemS)] : List ItemS)))) rfl rfl ?_
 refine O_nil (Then_n (W_seq (W_reg ?_)))
 refine O_v rfl (R_buildL (vs := [(0, (.int .u8 1))]) (v := aggOf [(idCells (mkId 1))]) rfl (fun _ => by kernel_rfl) ?_)
 refine O_v rfl (R_buildL (vs := [(0, (aggOf (idCh (mkId 1)))), (1, (.string (⟨#[118]⟩ : ByteArray)))]) (v := aggOf [(idCells (mkId 1)), [(.string (⟨#[118]⟩ : ByteArray))], [(.string ByteArray.empty)]]) rfl (fun _ => by kernel_rfl) ?_)
 refine O_v rfl (R_callL (vs := [(aggOf [(idCells (mkId 1)), [(.string (⟨#[118]⟩ : ByteArray))], [(.string ByteArray.empty)]])]) cF28 rfl rfl ((obj_PutLabel ({ target := (mkId 1), name := (⟨#[118]⟩ : ByteArray), msg := ByteArray.empty } : Label) w25 ).ret ?_))
 rintro _ w30 ⟨h29, rfl, hx31, ho32⟩
 have H33 := H28.addRow hx31 ho32
 refine O_mv (v := (.tuple #[(slV h29 (putLabelB ({ target := (mkId 1), name := (⟨#[118]⟩ : ByteArray), msg := ByteArray.empty } : Label))), (.int .i64 (putLabelE ({ target := (mkId 1), name := (⟨#[118]⟩ : ByteArray), msg := ByteArray.empty } : Label)))])) rfl rfl (O_ex (v := (slV h29 (putLabelB ({ target := (mkId 1), name := (⟨#[118]⟩ : ByteArray), msg := ByteArray.empty } : Label)))) rfl rfl rfl (O_ex (v := (.int .i64 (putLabelE ({ target := (mkId 1), name := (⟨#[118]⟩ : ByteArray), msg := ByteArray.empty } : Label)))) rfl rfl rfl (O_as (v := (slV h29 (putLabelB ({ target := (mkId 1), name := (⟨#[118]⟩ : ByteArray), msg := ByteArray.empty } : Label)))) rfl rfl ?_)))
 refine O_as (v := (.int .i64 (putLabelE ({ target := (mkId 1), name := (⟨#[118]⟩ : ByteArray), msg := ByteArray.empty } : Label)))) rfl rfl ?_
 refine O_nil (Then_n (W_seq ?_))
 refine W_rg [(0, .q 0), (1, .q 0), (2, .q 0), (3, .q 0), (4, .q 0), (5, .q 0), (6, .q 0), (7, .q 0), (8, .q 0), (9, .q 0), (10, .q 0), (11, .q 0), (12, .q 0), (13, .q 0), (14, .q 0), (15, .q 0), (16, .q 0), (17, .q 0), (18, .q 0), (19, .q 0), (20, .q 0), (21, .q 0), (22, .q 0), (23, .q 0), (24, .q 0), (25, .q 0), (26, .q 0), (27, .q 0), (28, .q 0), (29, .q 0), (30, .q 0), (31, .q 0), (32, .q 0), (33, .q 0), (34, .q 0), (35, .q 0), (36, .q 0), (37, .q 0), (38, .q 0), (39, .q 0), (40, .q 0), (41, .q 0), (42, .q 0), (43, .q 0), (44, .q 0), (45, .q 0), (46, .q 0), (47, .c 0), (48, .q 0), (49, .q 0), (50, .q 0), (51, .q 0)] (by kernel_rfl) ?_
 refine Lx_mv (v := (.int .i64 (putBlobE ([97, 98] : List UInt8)))) rfl rfl rfl (Lx_q rfl rfl (.bool true) (fun v36 hv37 => R_cmp (a := putBlobE ([97, 98] : List UInt8)) (b := 0) (r := (decide (putBlobE ([97, 98] : List UInt8) = 0))) rfl rfl rfl ⟨(boolK (by decide)), Gr.refl _ _⟩) (Lx_mv (v := (.bool true)) rfl rfl rfl ?_))
 refine Lx_qT rfl rfl rfl rfl rfl _ (fun v40 hv41 => R_move (v := (slV h9 (putBlobB ([97, 98] : List UInt8)))) rfl qk) ?_
 refine Lx_qT rfl rfl rfl rfl rfl _ (fun v42 hv43 => R_conv_bs (l := putBlobB ([97, 98] : List UInt8)) Tryz.underlying22 Tryz.underlying5 Tryz.underlying9 (OwnS.sl ((H33.ext hv43).getOwn 4 rfl) (fun _ => rfl)) rfl qk) ?_
 refine Lx_qT rfl rfl rfl rfl rfl (.bool true) (fun v44 hv45 => R_cmpS (a := (⟨(putBlobB ([97, 98] : List UInt8)).toArray⟩ : ByteArray)) (b := (⟨#[1, 97, 98]⟩ : ByteArray)) (r := (decide ((⟨(putBlobB ([97, 98] : List UInt8)).toArray⟩ : ByteArray) = (⟨#[1, 97, 98]⟩ : ByteArray)))) rfl rfl rfl ⟨(boolK (by decide)), Gr.refl _ _⟩) ?_
 refine Lx_q rfl rfl _ (fun v46 hv47 => R_pick (t := true) (v := (.bool true)) rfl rfl qk) (Lx_mv (v := (.bool true)) rfl rfl rfl ?_)
 refine Lx_qT rfl rfl rfl rfl rfl _ (fun v50 hv51 => R_move (v := (.int .i64 (putChangeE ({ parents := [], ph := nilH, time := 1, r := 1, ops := [], oh := nilH, tree := (mkId 9), msg := ByteArray.empty } : ChangeS)))) rfl qk) ?_
 refine Lx_qT rfl rfl rfl rfl rfl (.bool true) (fun v52 hv53 => R_cmp (a := putChangeE ({ parents := [], ph := nilH, time := 1, r := 1, ops := [], oh := nilH, tree := (mkId 9), msg := ByteArray.empty } : ChangeS)) (b := 0) (r := (decide (putChangeE ({ parents := [], ph := nilH, time := 1, r := 1, ops := [], oh := nilH, tree := (mkId 9), msg := ByteArray.empty } : ChangeS) = 0))) rfl rfl rfl ⟨(boolK (decide_eq_true (if_pos chg_ok))), Gr.refl _ _⟩) ?_
 refine Lx_q rfl rfl _ (fun v54 hv55 => R_pick (t := true) (v := (.bool true)) rfl rfl qk) (Lx_mv (v := (.bool true)) rfl rfl rfl ?_)
 refine Lx_qT rfl rfl rfl rfl rfl _ (fun v58 hv59 => R_move (v := (slV h14 (putChangeB ({ parents := [], ph := nilH, time := 1, r := 1, ops := [], oh := nilH, tree := (mkId 9), msg := ByteArray.empty } : ChangeS)))) rfl qk) ?_
 refine Lx_qT rfl rfl rfl rfl rfl _ (fun v60 hv61 => R_len_slice (a := h14.a) (n := (putChangeB ({ parents := [], ph := nilH, time := 1, r := 1, ops := [], oh := nilH, tree := (mkId 9), msg := ByteArray.empty } : ChangeS)).length) (c := h14.c) Tryz.underlying22 rfl qk) ?_
 refine Lx_qT rfl rfl rfl rfl rfl (.bool true) (fun v62 hv63 => R_cmp (a := (((putChangeB ({ parents := [], ph := nilH, time := 1, r := 1, ops := [], oh := nilH, tree := (mkId 9), msg := ByteArray.empty } : ChangeS)).length : Nat) : Int)) (b := 38) (r := (decide ((((putChangeB ({ parents := [], ph := nilH, time := 1, r := 1, ops := [], oh := nilH, tree := (mkId 9), msg := ByteArray.empty } : ChangeS)).length : Nat) : Int) = 38))) rfl rfl rfl ⟨(boolK (decide_eq_true chg_len)), Gr.refl _ _⟩) ?_
 refine Lx_q rfl rfl _ (fun v64 hv65 => R_pick (t := true) (v := (.bool true)) rfl rfl qk) (Lx_mv (v := (.bool true)) rfl rfl rfl ?_)
 refine Lx_qT rfl rfl rfl rfl rfl _ (fun v68 hv69 => R_move (v := (slV h14 (putChangeB ({ parents := [], ph := nilH, time := 1, r := 1, ops := [], oh := nilH, tree := (mkId 9), msg := ByteArray.empty } : ChangeS)))) rfl qk) ?_
 refine Lx_qT rfl rfl rfl rfl rfl _ (fun v70 hv71 => R_index_pure (OwnS.sl (H33.getOwn 3 rfl) (fun _ => rfl)) (n := (putChangeB ({ parents := [], ph := nilH, time := 1, r := 1, ops := [], oh := nilH, tree := (mkId 9), msg := ByteArray.empty } : ChangeS)).length) rfl (j := 0) (oo := (h14.o + 0 * 1)) Tryz.underlying22 Tryz.sizeOf5 rfl rfl (by omega) chg_ix rfl qk) ?_
 refine Lx_qT rfl rfl rfl rfl rfl _ (fun v72 hv73 => R_load1 (v := (.int .u8 ((nth (putChangeB ({ parents := [], ph := nilH, time := 1, r := 1, ops := [], oh := nilH, tree := (mkId 9), msg := ByteArray.empty } : ChangeS)) 0).toNat : Int))) Tryz.isAgg5 rfl ((Sl.elem (OwnS.sl ((H33.ext hv73).getOwn 3 rfl) (fun _ => rfl)) (i := 0) chg_ixn rfl).chunks 0 1 0 (h14.o + 0 * 1) _ rfl rfl rfl) qk) ?_
 refine Lx_qT rfl rfl rfl rfl rfl (.bool true) (fun v74 hv75 => R_cmp (a := ((nth (putChangeB ({ parents := [], ph := nilH, time := 1, r := 1, ops := [], oh := nilH, tree := (mkId 9), msg := ByteArray.empty } : ChangeS)) 0).toNat : Int)) (b := 3) (r := (decide (((nth (putChangeB ({ parents := [], ph := nilH, time := 1, r := 1, ops := [], oh := nilH, tree := (mkId 9), msg := ByteArray.empty } : ChangeS)) 0).toNat : Int) = 3))) rfl rfl rfl ⟨(boolK (decide_eq_true chg_first)), Gr.refl _ _⟩) ?_
 refine Lx_q rfl rfl _ (fun v76 hv77 => R_pick (t := true) (v := (.bool true)) rfl rfl qk) (Lx_mv (v := (.bool true)) rfl rfl rfl ?_)
 refine Lx_qT rfl rfl rfl rfl rfl _ (fun v80 hv81 => R_move (v := (.int .i64 (putDirE ([({ node := ({ T := 1, R := 1 } : Stamp), tm := ({ T := 1, R := 1 } : Stamp), name := (⟨#[97]⟩ : ByteArray), sub := zeroId, heads := [], hh := nilH } : ItemS)] : List ItemS)))) rfl qk) ?_
 refine Lx_qT rfl rfl rfl rfl rfl (.bool true) (fun v82 hv83 => R_cmp (a := putDirE ([({ node := ({ T := 1, R := 1 } : Stamp), tm := ({ T := 1, R := 1 } : Stamp), name := (⟨#[97]⟩ : ByteArray), sub := zeroId, heads := [], hh := nilH } : ItemS)] : List ItemS)) (b := 0) (r := (decide (putDirE ([({ node := ({ T := 1, R := 1 } : Stamp), tm := ({ T := 1, R := 1 } : Stamp), name := (⟨#[97]⟩ : ByteArray), sub := zeroId, heads := [], hh := nilH } : ItemS)] : List ItemS) = 0))) rfl rfl rfl ⟨(boolK (decide_eq_true (if_pos item_ok))), Gr.refl _ _⟩) ?_
 refine Lx_q rfl rfl _ (fun v84 hv85 => R_pick (t := true) (v := (.bool true)) rfl rfl qk) (Lx_mv (v := (.bool true)) rfl rfl rfl ?_)
 refine Lx_qT rfl rfl rfl rfl rfl _ (fun v88 hv89 => R_move (v := (slV h24 (putDirB ([({ node := ({ T := 1, R := 1 } : Stamp), tm := ({ T := 1, R := 1 } : Stamp), name := (⟨#[97]⟩ : ByteArray), sub := zeroId, heads := [], hh := nilH } : ItemS)] : List ItemS)))) rfl qk) ?_
 refine Lx_qT rfl rfl rfl rfl rfl (.int .i64 (kindOf (putDirB ([({ node := ({ T := 1, R := 1 } : Stamp), tm := ({ T := 1, R := 1 } : Stamp), name := (⟨#[97]⟩ : ByteArray), sub := zeroId, heads := [], hh := nilH } : ItemS)] : List ItemS)))) (fun v90 hv91 => R_callL (vs := [(slV h24 (putDirB ([({ node := ({ T := 1, R := 1 } : Stamp), tm := ({ T := 1, R := 1 } : Stamp), name := (⟨#[97]⟩ : ByteArray), sub := zeroId, heads := [], hh := nilH } : ItemS)] : List ItemS)))]) cF14 rfl rfl (obj_Kind h24 (putDirB ([({ node := ({ T := 1, R := 1 } : Stamp), tm := ({ T := 1, R := 1 } : Stamp), name := (⟨#[97]⟩ : ByteArray), sub := zeroId, heads := [], hh := nilH } : ItemS)] : List ItemS)) v90 ((H33.ext hv91).rowSl 1 rfl (fun _ => rfl)) item_bound)) ?_
 refine Lx_qT rfl rfl rfl rfl rfl (.bool true) (fun v92 hv93 => R_cmp (a := kindOf (putDirB ([({ node := ({ T := 1, R := 1 } : Stamp), tm := ({ T := 1, R := 1 } : Stamp), name := (⟨#[97]⟩ : ByteArray), sub := zeroId, heads := [], hh := nilH } : ItemS)] : List ItemS))) (b := 2) (r := (decide (kindOf (putDirB ([({ node := ({ T := 1, R := 1 } : Stamp), tm := ({ T := 1, R := 1 } : Stamp), name := (⟨#[97]⟩ : ByteArray), sub := zeroId, heads := [], hh := nilH } : ItemS)] : List ItemS)) = 2))) rfl rfl rfl ⟨(boolK (decide_eq_true item_kind)), Gr.refl _ _⟩) ?_
 refine Lx_q rfl rfl _ (fun v94 hv95 => R_pick (t := true) (v := (.bool true)) rfl rfl qk) (Lx_mv (v := (.bool true)) rfl rfl rfl ?_)
 refine Lx_qT rfl rfl rfl rfl rfl _ (fun v98 hv99 => R_move (v := (.int .i64 (putLabelE ({ target := (mkId 1), name := (⟨#[118]⟩ : ByteArray), msg := ByteArray.empty } : Label)))) rfl qk) ?_
 refine Lx_qT rfl rfl rfl rfl rfl (.bool true) (fun v100 hv101 => R_cmp (a := putLabelE ({ target := (mkId 1), name := (⟨#[118]⟩ : ByteArray), msg := ByteArray.empty } : Label)) (b := 0) (r := (decide (putLabelE ({ target := (mkId 1), name := (⟨#[118]⟩ : ByteArray), msg := ByteArray.empty } : Label) = 0))) rfl rfl rfl ⟨(boolK (decide_eq_true (if_pos lab_ok))), Gr.refl _ _⟩) ?_
 refine Lx_q rfl rfl _ (fun v102 hv103 => R_pick (t := true) (v := (.bool true)) rfl rfl qk) (Lx_mv (v := (.bool true)) rfl rfl rfl ?_)
 refine Lx_qT rfl rfl rfl rfl rfl _ (fun v106 hv107 => R_move (v := (slV h29 (putLabelB ({ target := (mkId 1), name := (⟨#[118]⟩ : ByteArray), msg := ByteArray.empty } : Label)))) rfl qk) ?_
 refine Lx_qT rfl rfl rfl rfl rfl (.int .i64 (kindOf (putLabelB ({ target := (mkId 1), name := (⟨#[118]⟩ : ByteArray), msg := ByteArray.empty } : Label)))) (fun v108 hv109 => R_callL (vs := [(slV h29 (putLabelB ({ target := (mkId 1), name := (⟨#[118]⟩ : ByteArray), msg := ByteArray.empty } : Label)))]) cF14 rfl rfl (obj_Kind h29 (putLabelB ({ target := (mkId 1), name := (⟨#[118]⟩ : ByteArray), msg := ByteArray.empty } : Label)) v108 ((H33.ext hv109).rowSl 0 rfl (fun _ => rfl)) lab_bound)) ?_
 refine Lx_qT rfl rfl rfl rfl rfl (.bool true) (fun v110 hv111 => R_cmp (a := kindOf (putLabelB ({ target := (mkId 1), name := (⟨#[118]⟩ : ByteArray), msg := ByteArray.empty } : Label))) (b := 4) (r := (decide (kindOf (putLabelB ({ target := (mkId 1), name := (⟨#[118]⟩ : ByteArray), msg := ByteArray.empty } : Label)) = 4))) rfl rfl rfl ⟨(boolK (decide_eq_true lab_kind)), Gr.refl _ _⟩) ?_
 refine Lx_q rfl rfl _ (fun v112 hv113 => R_pick (t := true) (v := (.bool true)) rfl rfl qk) (Lx_mv (v := (.bool true)) rfl rfl rfl ?_)
 refine Lx_qT rfl rfl rfl rfl rfl _ (fun v116 hv117 => R_move (v := (slV h14 (putChangeB ({ parents := [], ph := nilH, time := 1, r := 1, ops := [], oh := nilH, tree := (mkId 9), msg := ByteArray.empty } : ChangeS)))) rfl qk) ?_
 refine Lx_qT rfl rfl rfl rfl rfl (.int .i64 (kindOf (putChangeB ({ parents := [], ph := nilH, time := 1, r := 1, ops := [], oh := nilH, tree := (mkId 9), msg := ByteArray.empty } : ChangeS)))) (fun v118 hv119 => R_callL (vs := [(slV h14 (putChangeB ({ parents := [], ph := nilH, time := 1, r := 1, ops := [], oh := nilH, tree := (mkId 9), msg := ByteArray.empty } : ChangeS)))]) cF14 rfl rfl (obj_Kind h14 (putChangeB ({ parents := [], ph := nilH, time := 1, r := 1, ops := [], oh := nilH, tree := (mkId 9), msg := ByteArray.empty } : ChangeS)) v118 ((H33.ext hv119).rowSl 3 rfl (fun _ => rfl)) chg_bound)) ?_
 refine Lx_qT rfl rfl rfl rfl rfl (.bool true) (fun v120 hv121 => R_cmp (a := kindOf (putChangeB ({ parents := [], ph := nilH, time := 1, r := 1, ops := [], oh := nilH, tree := (mkId 9), msg := ByteArray.empty } : ChangeS))) (b := 3) (r := (decide (kindOf (putChangeB ({ parents := [], ph := nilH, time := 1, r := 1, ops := [], oh := nilH, tree := (mkId 9), msg := ByteArray.empty } : ChangeS)) = 3))) rfl rfl rfl ⟨(boolK (decide_eq_true chg_kind)), Gr.refl _ _⟩) ?_
 refine Lx_q rfl rfl _ (fun v122 hv123 => R_pick (t := true) (v := (.bool true)) rfl rfl qk) (Lx_mv (v := (.bool true)) rfl rfl rfl ?_)
 refine Lx_qT rfl rfl rfl rfl rfl _ (fun v126 hv127 => R_move (v := (slV h14 (putChangeB ({ parents := [], ph := nilH, time := 1, r := 1, ops := [], oh := nilH, tree := (mkId 9), msg := ByteArray.empty } : ChangeS)))) rfl qk) ?_
 refine Lx_cT rfl rfl rfl rfl rfl (fun w128 hw129 => ?_)
 have H130 := H33.ext hw129
 refine (R_callL (vs := [(slV h14 (putChangeB ({ parents := [], ph := nilH, time := 1, r := 1, ops := [], oh := nilH, tree := (mkId 9), msg := ByteArray.empty } : ChangeS)))]) cF21 rfl rfl ((obj_LinksG h14 (putChangeB ({ parents := [], ph := nilH, time := 1, r := 1, ops := [], oh := nilH, tree := (mkId 9), msg := ByteArray.empty } : ChangeS)) w128 (H130.rowSl 3 rfl (fun _ => rfl)) chg_bound).ret ?_))
 rintro _ w133 ⟨h131, S132, rfl, hx134, hS135, hv136⟩
 have H137 := H130.addImm hx134 (slI S132 idCh 32 h131 (linksOf (putChangeB ({ parents := [], ph := nilH, time := 1, r := 1, ops := [], oh := nilH, tree := (mkId 9), msg := ByteArray.empty } : ChangeS)))) hv136 hS135
 refine ⟨GrF.ofExt hx134, ?_⟩
 refine Lx_qT rfl rfl rfl rfl rfl _ (fun v138 hv139 => R_len_slice (a := h131.a) (n := (linksOf (putChangeB ({ parents := [], ph := nilH, time := 1, r := 1, ops := [], oh := nilH, tree := (mkId 9), msg := ByteArray.empty } : ChangeS))).length) (c := h131.c) Tryz.underlying39 rfl qk) ?_
 refine Lx_qT rfl rfl rfl rfl rfl (.bool true) (fun v140 hv141 => R_cmp (a := (((linksOf (putChangeB ({ parents := [], ph := nilH, time := 1, r := 1, ops := [], oh := nilH, tree := (mkId 9), msg := ByteArray.empty } : ChangeS))).length : Nat) : Int)) (b := 1) (r := (decide ((((linksOf (putChangeB ({ parents := [], ph := nilH, time := 1, r := 1, ops := [], oh := nilH, tree := (mkId 9), msg := ByteArray.empty } : ChangeS))).length : Nat) : Int) = 1))) rfl rfl rfl ⟨(boolK (decide_eq_true chg_oneG)), Gr.refl _ _⟩) ?_
 refine Lx_q rfl rfl _ (fun v142 hv143 => R_pick (t := true) (v := (.bool true)) rfl rfl qk) (Lx_q rfl rfl _ (fun v144 hv145 => R_assign (v := (.bool true)) rfl qk) ?_)
 refine Lx_nil (fun w146 hw147 => ?_)
 have H148 := H137.ext hw147
 refine Then_n (W_ret ?_)
 refine ret_1 (v := (.bool true)) Tryz.results9 rfl ?_
 exact ⟨rfl, H148.gr⟩
end Go.Proofs.YthjdhfoeckfmbaaGreat
namespace Go.Proofs.YthjdhfoeckfmbaaGreat
open Go
set_option maxRecDepth 100000
set_option linter.unusedVariables false
set_option linter.unusedSimpArgs false
set_option linter.unusedSectionVars false
variable [DD]
set_option maxHeartbeats 1000000 in
theorem ref01_SameBytes (ha : SlH) (a : List UInt8) (hb : SlH) (b : List UInt8) (w : World) (Sa : Sl (Old w) encB 1 ha a w) (Sb : Sl (Old w) encB 1 hb b w) :
    Calls Tryz.prog 12 #[(slV ha a), (slV hb b)] w (Ret fun v w' => v = (.bool (decide (a = b))) ∧ Ext w w') := by
 refine calls_W Tryz.func12 rfl Tryz.ntmps12 rfl ?_
 have H0 := Ctx.start w nob
 have H1 := H0.addSl _ Sa (fun b hb => ⟨hb, fun _ ho => (nomatch ho)⟩)
 have LSa := Sa.len
 have H2 := H1.addSl _ Sb (fun b hb => ⟨hb, fun _ ho => (nomatch ho)⟩)
 have LSb := Sb.len
 refine W_seq (W_reg ?_)
 refine O_as (v := (.bool false)) rfl rfl ?_
 refine O_nil (Then_n (W_seq (W_seq (W_reg ?_))))
 refine O_mv (v := (slV ha a)) rfl rfl ?_
 refine O_v rfl (R_len_slice (a := ha.a) (n := a.length) (c := ha.c) Tryz.underlying22 rfl ?_)
 refine O_mv (v := (slV hb b)) rfl rfl ?_
 refine O_v rfl (R_len_slice (a := hb.a) (n := b.length) (c := hb.c) Tryz.underlying22 rfl ?_)
 refine O_v rfl (R_cmp (a := (a.length : Int)) (b := (b.length : Int)) (r := (!(decide ((a.length : Int) = (b.length : Int))))) rfl rfl rfl ?_)
 refine O_nil (Then_n ?_)
 refine W_cond rfl (fun hc3 => ?_) (fun hc3 => ?_)
 ·have hc3 : ¬ ((a.length : Int) = (b.length : Int)) := (of_decide_eq_false (notT hc3))
  refine W_seq (W_reg ?_)
  refine O_as (v := (.bool false)) rfl rfl ?_
  refine O_nil (Then_n (W_ret (Then_r ?_)))
  refine ret_1 (v := (.bool false)) Tryz.results12 rfl ?_
  exact ⟨(boolF (fun h => by subst h; omega)), H2.gr⟩
 ·have hc3 : ((a.length : Int) = (b.length : Int)) := (of_decide_eq_true (notF hc3))
  refine W_skip (Then_n (W_seq (W_seq (W_reg ?_))))
  refine O_as (v := (.int .i64 0)) rfl rfl ?_
  refine O_nil (Then_n (W_block ?_))
  refine W_loop (fun m4 e5 w6 => ∃ (k : Nat), m4 = a.length - k ∧ (k ≤ a.length) ∧ (∀ i, i < k → nth a i = nth b i) ∧ ∃ eb7, e5 = envL [(0, (slV ha a)), (1, (slV hb b)), (5, (.int .i64 (k : Int)))] eb7 ∧ Ctx w nob w6 [] [slI (Old w) encB 1 hb b, slI (Old w) encB 1 ha a]) _ ⟨0, rfl, (by omega), (all_zero _), _, envL_self ⟨rfl, rfl, rfl, trivial⟩, H2⟩ ?_
  rintro m4 _ w6 ⟨k, rfl, hk, hn, eb7, rfl, H8⟩
  refine W_seq (W_seq (W_reg ?_))
  refine O_mv (v := (.int .i64 (k : Int))) rfl rfl (O_mv (v := (slV ha a)) rfl rfl ?_)
  refine O_v rfl (R_len_slice (a := ha.a) (n := a.length) (c := ha.c) Tryz.underlying22 rfl ?_)
  refine O_v rfl (R_cmp (a := (k : Int)) (b := (a.length : Int)) (r := (decide ((k : Int) < (a.length : Int)))) rfl rfl rfl ?_)
  refine O_nil (Then_n ?_)
  refine W_cond rfl (fun hc9 => ?_) (fun hc9 => ?_)
  ·have hc9 := (of_decide_eq_true hc9)
   refine W_skip (Then_n (W_seq (W_block (W_seq ?_))))
   refine W_rgd TryzMixed [(0, .q 0), (1, .q 0), (2, .q 0), (3, .q 0), (4, .q 0), (5, .q 0), (6, .q 0), (7, .q 0), (8, .q 0)] (by kernel_rfl) ?_
   refine Lx_mv (v := (slV ha a)) rfl rfl rfl (Lx_mv (v := (.int .i64 (k : Int))) rfl rfl rfl (Lx_q rfl rfl _ (fun v14 hv15 => R_index_pure (H8.sl 1 rfl) (n := a.length) rfl (j := (k : Int)) (oo := (ha.o + k * 1)) Tryz.underlying22 Tryz.sizeOf5 rfl rfl (by omega) (by omega) rfl qk) (Lx_q rfl rfl _ (fun v16 hv17 => R_load1 (v := (.int .u8 ((nth a k).toNat : Int))) Tryz.isAgg5 rfl ((Sl.elem ((H8.ext hv17).sl 1 rfl) (i := k) (by omega) rfl).chunks 0 1 0 (ha.o + k * 1) _ rfl rfl rfl) qk) ?_)))
   refine Lx_mv (v := (slV hb b)) rfl rfl rfl (Lx_mv (v := (.int .i64 (k : Int))) rfl rfl rfl (Lx_q rfl rfl _ (fun v22 hv23 => R_index_pure (H8.sl 0 rfl) (n := b.length) rfl (j := (k : Int)) (oo := (hb.o + k * 1)) Tryz.underlying22 Tryz.sizeOf5 rfl rfl (by omega) (by omega) rfl qk) (Lx_q rfl rfl _ (fun v24 hv25 => R_load1 (v := (.int .u8 ((nth b k).toNat : Int))) Tryz.isAgg5 rfl ((Sl.elem ((H8.ext hv25).sl 0 rfl) (i := k) (by omega) rfl).chunks 0 1 0 (hb.o + k * 1) _ rfl rfl rfl) qk) ?_)))
   refine Lx_q rfl rfl _ (fun v26 hv27 => R_cmp (a := ((nth a k).toNat : Int)) (b := ((nth b k).toNat : Int)) (r := (!(decide (((nth a k).toNat : Int) = ((nth b k).toNat : Int))))) rfl rfl rfl qk) ?_
   refine Lx_nil (fun w28 hw29 => ?_)
   have H30 := H8.ext hw29
   refine Then_n ?_
   refine W_cond rfl (fun hc31 => ?_) (fun hc31 => ?_)
   ·have hc31 : ¬ (((nth a k).toNat : Int) = ((nth b k).toNat : Int)) := (of_decide_eq_false (notT hc31))
    refine W_seq (W_reg ?_)
    refine O_as (v := (.bool false)) rfl rfl ?_
    refine O_nil (Then_n (W_ret (Blk_r (Then_r (Then_r (Blk_r (Then_r ?_)))))))
    refine ret_1 (v := (.bool false)) Tryz.results12 rfl ?_
    exact ⟨(boolF (fun h => by subst h; omega)), H30.gr⟩
   ·have hc31 : (((nth a k).toNat : Int) = ((nth b k).toNat : Int)) := (of_decide_eq_true (notF hc31))
    refine W_skip (Blk_n (Then_n (W_reg ?_)))
    refine O_mv (v := (.int .i64 (k : Int))) rfl rfl ?_
    refine O_v rfl (R_arith (a := (k : Int)) (b := 1) (r0 := (k : Int) + 1) (r := ((k + 1 : Nat) : Int)) rfl rfl rfl (wrapN _ (by omega)) ?_)
    refine O_as (v := (.int .i64 ((k + 1 : Nat) : Int))) rfl rfl ?_
    refine O_nil (Then_n ?_)
    refine ⟨_, ?_, (k + 1), rfl, (by omega), (all_succ hn (UInt8.toNat_inj.1 (by omega))), _, envL_self ⟨rfl, rfl, rfl, trivial⟩, H30⟩
    omega
  ·have hc9 := (of_decide_eq_false hc9)
   refine W_exit (Then_x (Then_x (Blk_x (Then_n (W_seq (W_reg ?_))))))
   refine O_as (v := (.bool true)) rfl rfl ?_
   refine O_nil (Then_n (W_ret ?_))
   refine ret_1 (v := (.bool true)) Tryz.results12 rfl ?_
   exact ⟨(boolT (eq_of_nth (by omega) (by rwa [show a.length = k from by omega]))), H8.gr⟩
set_option maxHeartbeats 1000000 in
theorem ref02_Done (x : RdS) (Fx : Nat → Prop) (q : List UInt8 × Bool) (w : World) (Sx : Sl Fx encB 1 x.bh x.b w) (XFx : ∀ b, Fx b → b < w.heap.size) (Ex : x.st = q) :
    Calls Tryz.prog 75 #[(aggOf (rdCh x))] w (Ret fun v w' => v = (.bool (rdDone q)) ∧ Ext w w') := by
 refine calls_W Tryz.func75 rfl Tryz.ntmps75 rfl ?_
 have H0 := Ctx.start w nob
 have H1 := H0.addSl _ Sx (fun b hb => ⟨XFx b hb, fun _ ho => (nomatch ho)⟩)
 have LSx := Sx.len
 refine W_seq (W_reg ?_)
 refine O_v rfl (C_box H1 [[(slV x.bh x.b)], [(.bool x.bad)]] rfl ?_)
 intro b4 w5 hb6 hx7 H8
 refine O_as (v := (.bool false)) rfl rfl ?_
 refine O_nil (Then_n (W_seq ?_))
 refine W_rg [(0, .q 0), (1, .q 0), (2, .q 0), (3, .q 0), (4, .q 0), (5, .q 0), (6, .q 0), (7, .q 0), (8, .q 0), (9, .q 0)] (by kernel_rfl) ?_
 refine Lx_q rfl rfl _ (fun v9 hv10 => R_fieldAddr (off := 1) (oo := 1) Tryz.underlying110 rfl rfl Tryz.sizeOf4 rfl rfl qk) (Lx_q rfl rfl _ (fun v11 hv12 => R_load1 (v := (.bool x.bad)) Tryz.isAgg4 rfl ((H8.ext hv12).bx 0 rfl 1 1 1 1 _ rfl rfl rfl) qk) (Lx_q rfl rfl _ (fun v13 hv14 => R_not rfl qk) (Lx_mv (v := (.bool (!x.bad))) rfl rfl rfl ?_)))
 refine Lx_qt rfl rfl rfl rfl rfl _ (fun hA v17 hv18 => R_fieldAddr (off := 0) (oo := 0) Tryz.underlying110 rfl rfl Tryz.sizeOf22 rfl rfl qk) (Lx_qt rfl rfl rfl rfl rfl _ (fun hA v19 hv20 => R_load1 (v := (slV x.bh x.b)) Tryz.isAgg22 (gv_t hA) ((H8.ext hv20).bx 0 rfl 0 1 0 0 _ rfl rfl rfl) qk) (Lx_qt rfl rfl rfl rfl rfl _ (fun hA v21 hv22 => R_len_slice (a := x.bh.a) (n := x.b.length) (c := x.bh.c) Tryz.underlying22 (gv_t hA) qk) (Lx_qt rfl rfl rfl rfl rfl _ (fun hA v23 hv24 => R_cmp (a := (x.b.length : Int)) (b := 0) (r := (decide ((x.b.length : Int) = 0))) (gv_t hA) rfl rfl qk) ?_)))
 refine Lx_q rfl rfl _ (fun v25 hv26 => R_pick rfl pk_and qk) (Lx_q rfl rfl _ (fun v27 hv28 => R_assign (v := (.bool ((!x.bad) && (decide ((x.b.length : Int) = 0))))) rfl qk) ?_)
 refine Lx_nil (fun w29 hw30 => ?_)
 have H31 := H8.ext hw30
 refine Then_n (W_ret ?_)
 refine ret_1 (v := (.bool ((!x.bad) && (decide ((x.b.length : Int) = 0))))) Tryz.results75 rfl ?_
 exact ⟨(done_eq Ex), H31.gr⟩
set_option maxHeartbeats 1000000 in
theorem ref02_failed  (w : World) :
    Calls Tryz.prog 109 #[] w (Ret fun v w' => ∃ X : RdS, v = rdV X ∧ Ext w w' ∧ X.st = ([], true) ∧ Sl nob encB 1 X.bh X.b w') := by
 refine calls_W Tryz.func109 rfl Tryz.ntmps109 rfl ?_
 have H0 := Ctx.start w nob
 refine W_seq (W_reg ?_)
 refine O_v rfl (C_alloc H0 [[(.slice none 0 0)], [(.bool false)]] Tryz.zeroValue110 ?_)
 intro b1 w2 hb3 hx4 H5
 refine O_nil (Then_n (W_seq (W_reg ?_)))
 refine O_v rfl (R_buildL (vs := [(0, (.slice none 0 0)), (1, (.bool true))]) (v := aggOf [[(.slice none 0 0)], [(.bool true)]]) rfl (fun _ => by kernel_rfl) ?_)
 refine O_u (C_storeW H5 0 rfl (sub := [[(.slice none 0 0)], [(.bool true)]]) Tryz.sizeOf110 rfl rfl rfl rfl rfl ?_)
 intro w6 hg7 H8
 refine O_nil (Then_n (W_ret ?_))
 refine ret_c Tryz.results109 (inMem (cs := [[(.slice none 0 0)], [(.bool true)]]) rfl Tryz.isAgg110 Tryz.sizeOf110 rfl (boxR_at (H8.getOwn 0 rfl))) ?_
 exact ⟨({ b := [], bh := nilH, bad := true } : RdS), rfl, H8.gr, rfl, (Sl.nil _ _ _ _)⟩
theorem cF109 : callable Tryz.prog 109 = true := by kernel_rfl
set_option maxHeartbeats 1000000 in
theorem ref02_GetId (x : RdS) (Fx : Nat → Prop) (q : List UInt8 × Bool) (w : World) (Sx : Sl Fx encB 1 x.bh x.b w) (XFx : ∀ b, Fx b → b < w.heap.size) (Ex : x.st = q) :
    Calls Tryz.prog 76 #[(aggOf (rdCh x))] w (Ret fun v w' => ∃ X : RdS, v = .tuple #[(aggOf (idCh ((rdId q).1))), rdV X] ∧ Ext w w' ∧ X.st = (rdId q).2 ∧ Sl Fx encB 1 X.bh X.b w') := by
 refine calls_W Tryz.func76 rfl Tryz.ntmps76 rfl ?_
 have H0 := Ctx.start w nob
 have H1 := H0.addSl _ Sx (fun b hb => ⟨XFx b hb, fun _ ho => (nomatch ho)⟩)
 have LSx := Sx.len
 refine W_seq (W_reg ?_)
 refine O_v rfl (C_box H1 [[(slV x.bh x.b)], [(.bool x.bad)]] rfl ?_)
 intro b4 w5 hb6 hx7 H8
 refine O_v rfl (C_alloc H8 [(idCells zeroId)] Tryz.zeroValue44 ?_)
 intro b9 w10 hb11 hx12 H13
 refine O_v rfl (C_alloc H13 [[(.slice none 0 0)], [(.bool false)]] Tryz.zeroValue110 ?_)
 intro b14 w15 hb16 hx17 H18
 refine O_nil (Then_n (W_seq (W_reg ?_)))
 refine O_v rfl (R_buildL (vs := []) (v := aggOf [(idCells zeroId)]) rfl (fun _ => by kernel_rfl) ?_)
 refine O_v rfl (C_alloc H18 [(idCells zeroId)] Tryz.zeroValue44 ?_)
 intro b19 w20 hb21 hx22 H23
 refine O_u (C_storeW H23 0 rfl (sub := [(idCells zeroId)]) Tryz.sizeOf44 rfl rfl rfl rfl rfl ?_)
 intro w24 hg25 H26
 refine O_nil (Then_n (W_seq (W_seq ?_)))
 refine W_rg [(0, .q 0), (1, .q 0), (2, .q 0), (3, .q 0), (4, .q 0), (5, .q 0), (6, .q 0), (7, .q 0)] (by kernel_rfl) ?_
 refine Lx_q rfl rfl _ (fun v27 hv28 => R_fieldAddr (off := 1) (oo := 1) Tryz.underlying110 rfl rfl Tryz.sizeOf4 rfl rfl qk) (Lx_q rfl rfl _ (fun v29 hv30 => R_load1 (v := (.bool x.bad)) Tryz.isAgg4 rfl ((H26.ext hv30).bx 3 rfl 1 1 1 1 _ rfl rfl rfl) qk) (Lx_mv (v := (.bool x.bad)) rfl rfl rfl (Lx_qf rfl rfl rfl rfl rfl _ (fun hA v33 hv34 => R_fieldAddr (off := 0) (oo := 0) Tryz.underlying110 rfl rfl Tryz.sizeOf22 rfl rfl qk) ?_)))
 refine Lx_qf rfl rfl rfl rfl rfl _ (fun hA v35 hv36 => R_load1 (v := (slV x.bh x.b)) Tryz.isAgg22 (gv_t hA) ((H26.ext hv36).bx 3 rfl 0 1 0 0 _ rfl rfl rfl) qk) (Lx_qf rfl rfl rfl rfl rfl _ (fun hA v37 hv38 => R_len_slice (a := x.bh.a) (n := x.b.length) (c := x.bh.c) Tryz.underlying22 (gv_t hA) qk) (Lx_qf rfl rfl rfl rfl rfl _ (fun hA v39 hv40 => R_cmp (a := (x.b.length : Int)) (b := 32) (r := (decide ((x.b.length : Int) < 32))) (gv_t hA) rfl rfl qk) (Lx_q rfl rfl _ (fun v41 hv42 => R_pick rfl pk_or qk) ?_)))
 refine Lx_nil (fun w43 hw44 => ?_)
 have H45 := H26.ext hw44
 refine Then_n ?_
 refine W_cond rfl (fun hc46 => ?_) (fun hc46 => ?_)
 ·have hc46 : (x.bad = true ∨ ((x.b.length : Int) < 32)) := (Or.imp (fun h => h) (fun h => (of_decide_eq_true h)) (orT hc46))
  refine W_seq ?_
  refine W_rgdM TryzMixed nob (fun i => if i == 2 || i == 3 then 2 else 0) [(0, .q 0), (1, .c 0), (2, .c 2), (3, .c 2)] (by kernel_rfl) ?_
  refine Lx_q rfl rfl _ (fun v47 hv48 => R_loadA (cs := [(idCells zeroId)]) Tryz.isAgg44 Tryz.sizeOf44 rfl rfl ((H45.ext hv48).bx 0 rfl 0 1 0 0 _ rfl rfl rfl) qk) ?_
  refine Lx_c rfl rfl (fun w49 hw50 => ?_)
  have H51 := H45.ext hw50
  refine (R_callL (vs := []) cF109 rfl rfl ((ref02_failed  w49 ).ret ?_))
  rintro _ w53 ⟨x52, rfl, hx54, hr55, hs56⟩
  have H57 := H51.ext hx54
  have H58 := H57.addImm' (slI nob encB 1 x52.bh x52.b) hs56 (fun _ h => h.elim)
  refine ⟨GrF.ofExt hx54, ?_⟩
  refine Lx_cu rfl (fun w59 hw60 => ?_)
  have H61 := H58.ext hw60
  refine (C_storeW H61 2 rfl (sub := [(idCells zeroId)]) Tryz.sizeOf44 rfl rfl rfl rfl rfl ?_)
  intro w62 hg63 H64
  refine ⟨Gr.mono (M' := fun _ => True) hg63 (fun _ _ => trivial), ?_⟩
  refine Lx_cu rfl (fun w65 hw66 => ?_)
  have H67 := H64.ext hw66
  refine (C_storeW H67 1 rfl (sub := [[(slV x52.bh x52.b)], [(.bool x52.bad)]]) Tryz.sizeOf110 rfl rfl rfl rfl rfl ?_)
  intro w68 hg69 H70
  refine ⟨Gr.mono (M' := fun _ => True) hg69 (fun _ _ => trivial), ?_⟩
  refine Lx_nil (fun w71 hw72 => ?_)
  have H73 := H70.ext hw72
  refine Then_n (W_ret (Then_r ?_))
  refine ret_cc Tryz.results76 (inMem (cs := [(idCells zeroId)]) rfl Tryz.isAgg44 Tryz.sizeOf44 rfl (boxR_at (H73.getOwn 2 rfl))) (inMem (cs := [[(slV x52.bh x52.b)], [(.bool x52.bad)]]) rfl Tryz.isAgg110 Tryz.sizeOf110 rfl (boxR_at (H73.getOwn 1 rfl))) ?_
  exact ⟨x52, (id_val (gi_f Ex (by assumption))), H73.gr, (hr55.trans (congrArg Prod.snd (gi_f Ex (by assumption)))), ((H73.sl 0 rfl).mono (fun _ h => h.elim))⟩
 ·have hc46 : (x.bad = false ∧ ¬ ((x.b.length : Int) < 32)) := (And.imp (fun h => h) (fun h => (of_decide_eq_false h)) (orF hc46))
  refine W_skip (Then_n (W_seq (W_seq (W_reg ?_))))
  refine O_as (v := (.int .i64 0)) rfl rfl ?_
  refine O_nil (Then_n (W_block ?_))
  refine W_loop (fun m74 e75 w76 => ∃ (k : Nat), ∃ (dd : ID), m74 = 32 - k ∧ (k ≤ 32) ∧ (dd = idPut zeroId (x.b.take k)) ∧ ∃ eb77, e75 = envL [(1, (.pointer (some ⟨b4, 0, none⟩))), (2, (.pointer (some ⟨b9, 0, none⟩))), (3, (.pointer (some ⟨b14, 0, none⟩))), (4, (.pointer (some ⟨b19, 0, none⟩))), (5, (.int .i64 (k : Int)))] eb77 ∧ Ctx w nob w76 [boxR b19 44 [(idCells dd)], boxR b14 110 [[(.slice none 0 0)], [(.bool false)]], boxR b9 44 [(idCells zeroId)], boxR b4 110 [[(slV x.bh x.b)], [(.bool x.bad)]]] [slI Fx encB 1 x.bh x.b]) _ ⟨0, zeroId, rfl, (by omega), (idPut_nil zeroId).symm, _, envL_self ⟨rfl, rfl, rfl, rfl, rfl, trivial⟩, H45⟩ ?_
  rintro m74 _ w76 ⟨k, dd, rfl, hk, hd, eb77, rfl, H78⟩
  refine W_seq (W_seq (W_reg ?_))
  refine O_mv (v := (.int .i64 (k : Int))) rfl rfl ?_
  refine O_v rfl (R_cmp (a := (k : Int)) (b := 32) (r := (decide ((k : Int) < 32))) rfl rfl rfl ?_)
  refine O_nil (Then_n ?_)
  refine W_cond rfl (fun hc79 => ?_) (fun hc79 => ?_)
  ·have hc79 := (of_decide_eq_true hc79)
   refine W_skip (Then_n (W_seq (W_block (W_reg ?_))))
   refine O_mv (v := (.int .i64 (k : Int))) rfl rfl ?_
   refine O_v rfl (R_fieldAddr (off := 0) (oo := 0) Tryz.underlying110 rfl rfl Tryz.sizeOf22 rfl rfl ?_)
   refine O_v rfl (R_load1 (v := (slV x.bh x.b)) Tryz.isAgg22 rfl (H78.bx 3 rfl 0 1 0 0 _ rfl rfl rfl) ?_)
   refine O_mv (v := (.int .i64 (k : Int))) rfl rfl ?_
   refine O_v rfl (R_index_pure (H78.sl 0 rfl) (n := x.b.length) rfl (j := (k : Int)) (oo := (x.bh.o + k * 1)) Tryz.underlying22 Tryz.sizeOf5 rfl rfl (by omega) (by omega) rfl ?_)
   refine O_v rfl (R_load1 (v := (.int .u8 ((nth x.b k).toNat : Int))) Tryz.isAgg5 rfl ((Sl.elem (H78.sl 0 rfl) (i := k) (by omega) rfl).chunks 0 1 0 (x.bh.o + k * 1) _ rfl rfl rfl) ?_)
   refine O_v rfl (R_index_array (n := 32) (k := 1) (o := 0) (oo := (0 + k * 1)) (j := (k : Int)) Tryz.underlying44 Tryz.sizeOf5 rfl rfl (by omega) (by omega) rfl ?_)
   refine O_u (C_storeId H78 0 (v := dd) (o := k) (c := (nth x.b k)) rfl Tryz.sizeOf5 rfl rfl (by omega) ?_)
   intro w80 hg81 H82
   refine O_nil (Blk_n (Then_n (W_reg ?_)))
   refine O_mv (v := (.int .i64 (k : Int))) rfl rfl ?_
   refine O_v rfl (R_arith (a := (k : Int)) (b := 1) (r0 := (k : Int) + 1) (r := ((k + 1 : Nat) : Int)) rfl rfl rfl (wrapN _ (by omega)) ?_)
   refine O_as (v := (.int .i64 ((k + 1 : Nat) : Int))) rfl rfl ?_
   refine O_nil (Then_n ?_)
   refine ⟨_, ?_, (k + 1), (idSet dd k (nth x.b k)), rfl, (by omega), (by rw [hd]; exact idSet_put _ _ (by omega) (by omega)), _, envL_self ⟨rfl, rfl, rfl, rfl, rfl, trivial⟩, H82⟩
   omega
  ·have hc79 := (of_decide_eq_false hc79)
   refine W_exit (Then_x (Then_x (Blk_x (Then_n (W_seq ?_)))))
   refine W_rgdM TryzMixed (fun c => c = b9) (fun i => if i == 5 then 1 else if i == 6 then 2 else 0) [(0, .q 1), (1, .q 2), (2, .q 1), (3, .q 2), (4, .q 2), (5, .c 1), (6, .c 2)] (by kernel_rfl) ?_
   refine Lx_q rfl rfl _ (fun v83 hv84 => R_loadA (cs := [(idCells dd)]) Tryz.isAgg44 Tryz.sizeOf44 rfl rfl ((boxR_at (H78.ownGr 0 2 (by decide) rfl rfl hv84 (fun _ h => congrArg some h.symm))).chunks 0 1 0 0 _ rfl rfl rfl) qk) (Lx_q rfl rfl _ (fun v85 hv86 => R_fieldAddr (off := 0) (oo := 0) Tryz.underlying110 rfl rfl Tryz.sizeOf22 rfl rfl qk) (Lx_q rfl rfl _ (fun v87 hv88 => R_load1 (v := (slV x.bh x.b)) Tryz.isAgg22 rfl ((boxR_at (H78.ownGr 3 2 (by decide) rfl rfl hv88 (fun _ h => congrArg some h.symm))).chunks 0 1 0 0 _ rfl rfl rfl) qk) (Lx_q rfl rfl _ (fun v89 hv90 => R_sliceS (h := x.bh) (l := x.b) (a := 32) (b := x.b.length) (m := x.bh.c) (x.b.drop 32) Tryz.underlying22 Tryz.sizeOf5 rfl rfl rfl rfl (by decide) (by omega) (by first | omega | exact Nat.le_refl _) (by have := Sl.cap (H78.sl 0 rfl); omega) (by first | omega | exact Nat.le_refl _ | (have := Sl.cap (H78.sl 0 rfl); omega)) (by rw [List.take_length])  qk) ?_)))
   refine Lx_q rfl rfl _ (fun v91 hv92 => R_buildL (vs := [(0, (slV (hSub x.bh 1 32 x.bh.c) (x.b.drop 32))), (1, (.bool false))]) (v := aggOf [[(slV (hSub x.bh 1 32 x.bh.c) (x.b.drop 32))], [(.bool false)]]) rfl (fun _ => by kernel_rfl) qk) ?_
   refine Lx_cu rfl (fun w93 hw94 => ?_)
   have H95 := H78.ext hw94
   refine (C_storeW H95 2 rfl (sub := [(idCells dd)]) Tryz.sizeOf44 rfl rfl rfl rfl rfl ?_)
   intro w96 hg97 H98
   refine ⟨Gr.mono hg97 (fun _ h => (Option.some.inj h).symm), ?_⟩
   refine Lx_cu rfl (fun w99 hw100 => ?_)
   have H101 := H98.ext hw100
   refine (C_storeW H101 1 rfl (sub := [[(slV (hSub x.bh 1 32 x.bh.c) (x.b.drop 32))], [(.bool false)]]) Tryz.sizeOf110 rfl rfl rfl rfl rfl ?_)
   intro w102 hg103 H104
   refine ⟨Gr.mono (M' := fun _ => True) hg103 (fun _ _ => trivial), ?_⟩
   refine Lx_nil (fun w105 hw106 => ?_)
   have H107 := H104.ext hw106
   refine Then_n (W_ret ?_)
   refine ret_cc Tryz.results76 (inMem (cs := [(idCells dd)]) rfl Tryz.isAgg44 Tryz.sizeOf44 rfl (boxR_at (H107.getOwn 2 rfl))) (inMem (cs := [[(slV (hSub x.bh 1 32 x.bh.c) (x.b.drop 32))], [(.bool false)]]) rfl Tryz.isAgg110 Tryz.sizeOf110 rfl (boxR_at (H107.getOwn 1 rfl))) ?_
   exact ⟨({ b := x.b.drop 32, bh := hSub x.bh 1 32 x.bh.c, bad := false } : RdS), (id_val (gi_t Ex (by assumption) hd (by omega))), H107.gr, (congrArg Prod.snd (gi_t Ex (by assumption) hd (by omega))), (Sl.sub (H107.sl 0 rfl) 32 x.b.length x.bh.c (by omega) (by first | omega | exact Nat.le_refl _) (by have := Sl.cap (H78.sl 0 rfl); omega) (by first | omega | exact Nat.le_refl _ | (have := Sl.cap (H78.sl 0 rfl); omega)) (by rw [List.take_length]))⟩
set_option maxHeartbeats 4000000 in
theorem ref02_GetNum (x : RdS) (Fx : Nat → Prop) (q : List UInt8 × Bool) (most : Int) (w : World) (Sx : Sl Fx encB 1 x.bh x.b w) (XFx : ∀ b, Fx b → b < w.heap.size) (Ex : x.st = q) :
    Calls Tryz.prog 72 #[(aggOf (rdCh x)), (.int .i64 most)] w (Ret fun v w' => ∃ X : RdS, v = .tuple #[(.int .i64 ((((rdNum q most).1) : Nat) : Int)), rdV X] ∧ Ext w w' ∧ X.st = (rdNum q most).2 ∧ Sl Fx encB 1 X.bh X.b w') := by
 refine calls_W Tryz.func72 rfl Tryz.ntmps72 rfl ?_
 have H0 := Ctx.start w nob
 have H1 := H0.addSl _ Sx (fun b hb => ⟨XFx b hb, fun _ ho => (nomatch ho)⟩)
 have LSx := Sx.len
 refine W_seq (W_reg ?_)
 refine O_v rfl (C_box H1 [[(slV x.bh x.b)], [(.bool x.bad)]] rfl ?_)
 intro b4 w5 hb6 hx7 H8
 refine O_as (v := (.int .i64 0)) rfl rfl ?_
 refine O_v rfl (C_alloc H8 [[(.slice none 0 0)], [(.bool false)]] Tryz.zeroValue110 ?_)
 intro b9 w10 hb11 hx12 H13
 refine O_nil (Then_n (W_seq (W_reg ?_)))
 refine O_as (v := (.int .i64 0)) rfl rfl ?_
 refine O_nil (Then_n (W_seq (W_reg ?_)))
 refine O_as (v := (.int .i64 1)) rfl rfl ?_
 refine O_nil (Then_n (W_seq (W_seq (W_reg ?_))))
 refine O_as (v := (.int .i64 0)) rfl rfl ?_
 refine O_nil (Then_n (W_block ?_))
 refine W_loop (fun m14 e15 w16 => ∃ (k : Nat), ∃ (u : Nat), m14 = 9 - k ∧ (k ≤ 9) ∧ (u < 2 ^ (7 * k)) ∧ (rdNumGo most (9 - k) k u (x.b.drop k, x.bad) = rdNum q most) ∧ ∃ eb17, e15 = envL [(1, (.int .i64 most)), (2, (.pointer (some ⟨b4, 0, none⟩))), (5, (.pointer (some ⟨b9, 0, none⟩))), (6, (.int .i64 (u : Int))), (7, (.int .i64 ((2 ^ (7 * min k 8) : Nat) : Int))), (8, (.int .i64 (k : Int)))] eb17 ∧ Ctx w nob w16 [boxR b9 110 [[(.slice none 0 0)], [(.bool false)]], boxR b4 110 [[(slV x.bh x.b)], [(.bool x.bad)]]] [slI Fx encB 1 x.bh x.b]) _ ⟨0, 0, rfl, (by omega), Nat.one_pos, (gn_start Ex), _, envL_self ⟨rfl, rfl, rfl, rfl, rfl, rfl, trivial⟩, H13⟩ ?_
 rintro m14 _ w16 ⟨k, u, rfl, hk, hu, hgo, eb17, rfl, H18⟩
 refine W_seq (W_seq ?_)
 refine W_rg [(0, .q 0), (1, .q 0), (2, .q 0), (3, .q 0), (4, .q 0), (5, .q 0), (6, .q 0), (7, .q 0), (8, .q 0), (9, .q 0), (10, .q 0), (11, .q 0), (12, .q 0), (13, .q 0)] (by kernel_rfl) ?_
 refine Lx_mv (v := (.int .i64 (k : Int))) rfl rfl rfl (Lx_q rfl rfl _ (fun v21 hv22 => R_fieldAddr (off := 0) (oo := 0) Tryz.underlying110 rfl rfl Tryz.sizeOf22 rfl rfl qk) (Lx_q rfl rfl _ (fun v23 hv24 => R_load1 (v := (slV x.bh x.b)) Tryz.isAgg22 rfl ((H18.ext hv24).bx 1 rfl 0 1 0 0 _ rfl rfl rfl) qk) (Lx_q rfl rfl _ (fun v25 hv26 => R_len_slice (a := x.bh.a) (n := x.b.length) (c := x.bh.c) Tryz.underlying22 rfl qk) ?_)))
 refine Lx_q rfl rfl _ (fun v27 hv28 => R_cmp (a := (k : Int)) (b := (x.b.length : Int)) (r := (decide ((k : Int) < (x.b.length : Int)))) rfl rfl rfl qk) (Lx_mv (v := (.bool (decide ((k : Int) < (x.b.length : Int))))) rfl rfl rfl (Lx_qt rfl rfl rfl rfl rfl _ (fun hA v31 hv32 => R_move (v := (.int .i64 (k : Int))) rfl qk) (Lx_qt rfl rfl rfl rfl rfl _ (fun hA v33 hv34 => R_cmp (a := (k : Int)) (b := 9) (r := (decide ((k : Int) < 9))) (gv_t hA) rfl rfl qk) ?_)))
 refine Lx_q rfl rfl _ (fun v35 hv36 => R_pick rfl pk_and qk) (Lx_mv (v := (.bool ((decide ((k : Int) < (x.b.length : Int))) && (decide ((k : Int) < 9))))) rfl rfl rfl (Lx_qt rfl rfl rfl rfl rfl _ (fun hA v39 hv40 => R_fieldAddr (off := 1) (oo := 1) Tryz.underlying110 rfl rfl Tryz.sizeOf4 rfl rfl qk) (Lx_qt rfl rfl rfl rfl rfl _ (fun hA v41 hv42 => R_load1 (v := (.bool x.bad)) Tryz.isAgg4 (gv_t hA) ((H18.ext hv42).bx 1 rfl 1 1 1 1 _ rfl rfl rfl) qk) ?_)))
 refine Lx_qt rfl rfl rfl rfl rfl _ (fun hA v43 hv44 => R_not (gv_t hA) qk) (Lx_q rfl rfl _ (fun v45 hv46 => R_pick rfl pk_and qk) ?_)
 refine Lx_nil (fun w47 hw48 => ?_)
 have H49 := H18.ext hw48
 refine Then_n ?_
 refine W_cond rfl (fun hc50 => ?_) (fun hc50 => ?_)
 ·have hc50 : ((((k : Int) < (x.b.length : Int)) ∧ ((k : Int) < 9)) ∧ x.bad = false) := (And.imp (fun h => (And.imp (fun h => (of_decide_eq_true h)) (fun h => (of_decide_eq_true h)) (andT h))) (fun h => (notT h)) (andT hc50))
  have hC := hc50
  refine W_skip (Then_n (W_seq (W_block (W_seq (W_reg ?_)))))
  refine O_v rfl (R_fieldAddr (off := 0) (oo := 0) Tryz.underlying110 rfl rfl Tryz.sizeOf22 rfl rfl ?_)
  refine O_v rfl (R_load1 (v := (slV x.bh x.b)) Tryz.isAgg22 rfl (H49.bx 1 rfl 0 1 0 0 _ rfl rfl rfl) ?_)
  refine O_mv (v := (.int .i64 (k : Int))) rfl rfl ?_
  refine O_v rfl (R_index_pure (H49.sl 0 rfl) (n := x.b.length) rfl (j := (k : Int)) (oo := (x.bh.o + k * 1)) Tryz.underlying22 Tryz.sizeOf5 rfl rfl (by omega) (by omega) rfl ?_)
  refine O_v rfl (R_load1 (v := (.int .u8 ((nth x.b k).toNat : Int))) Tryz.isAgg5 rfl ((Sl.elem (H49.sl 0 rfl) (i := k) (by omega) rfl).chunks 0 1 0 (x.bh.o + k * 1) _ rfl rfl rfl) ?_)
  refine O_v rfl (R_rem (a := (((nth x.b k).toNat : Nat) : Int)) (b := ((128 : Nat) : Int)) (r := ((((nth x.b k).toNat % 128) : Nat) : Int)) rfl rfl (by decide) (tmod_nat _ _) ?_)
  refine O_v rfl (R_conv_int (a := ((((nth x.b k).toNat % 128) : Nat) : Int)) (r := ((((nth x.b k).toNat % 128) : Nat) : Int)) Tryz.underlying5 Tryz.underlying2 rfl (w64 _ (by omega)) ?_)
  refine O_as (v := (.int .i64 ((((nth x.b k).toNat % 128) : Nat) : Int))) rfl rfl ?_
  refine O_nil (Then_n (W_seq (W_seq ?_)))
  refine W_rg [(0, .q 0), (1, .q 0), (2, .q 0), (3, .q 0), (4, .q 0), (5, .q 0)] (by kernel_rfl) ?_
  refine Lx_mv (v := (.int .i64 (k : Int))) rfl rfl rfl (Lx_q rfl rfl _ (fun v53 hv54 => R_cmp (a := (k : Int)) (b := 8) (r := (decide ((k : Int) = 8))) rfl rfl rfl qk) (Lx_mv (v := (.bool (decide ((k : Int) = 8)))) rfl rfl rfl (Lx_qt rfl rfl rfl rfl rfl _ (fun hA v57 hv58 => R_move (v := (.int .i64 ((((nth x.b k).toNat % 128) : Nat) : Int))) rfl qk) ?_)))
  refine Lx_qt rfl rfl rfl rfl rfl _ (fun hA v59 hv60 => R_cmp (a := ((((nth x.b k).toNat % 128) : Nat) : Int)) (b := 64) (r := (decide (64 < ((((nth x.b k).toNat % 128) : Nat) : Int)))) (gv_t hA) rfl rfl qk) (Lx_q rfl rfl _ (fun v61 hv62 => R_pick rfl pk_and qk) ?_)
  refine Lx_nil (fun w63 hw64 => ?_)
  have H65 := H49.ext hw64
  refine Then_n ?_
  refine W_cond rfl (fun hc66 => ?_) (fun hc66 => ?_)
  ·have hc66 : (((k : Int) = 8) ∧ (64 < ((((nth x.b k).toNat % 128) : Nat) : Int))) := (And.imp (fun h => (of_decide_eq_true h)) (fun h => (of_decide_eq_true h)) (andT hc66))
   refine W_seq (W_reg ?_)
   refine O_v rfl (R_callL (vs := []) cF109 rfl rfl ((ref02_failed  w63 ).ret ?_))
   rintro _ w68 ⟨x67, rfl, hx69, hr70, hs71⟩
   have H72 := H65.ext hx69
   have H73 := H72.addImm' (slI nob encB 1 x67.bh x67.b) hs71 (fun _ h => h.elim)
   refine O_as (v := (.int .i64 0)) rfl rfl ?_
   refine O_u (C_storeW H73 0 rfl (sub := [[(slV x67.bh x67.b)], [(.bool x67.bad)]]) Tryz.sizeOf110 rfl rfl rfl rfl rfl ?_)
   intro w74 hg75 H76
   refine O_nil (Then_n (W_ret (Then_r (Blk_r (Then_r (Then_r (Blk_r (Then_r ?_))))))))
   refine ret_tc (v := (.int .i64 0)) Tryz.results72 rfl (inMem (cs := [[(slV x67.bh x67.b)], [(.bool x67.bad)]]) rfl Tryz.isAgg110 Tryz.sizeOf110 rfl (boxR_at (H76.getOwn 0 rfl))) ?_
   exact ⟨x67, (two_val (gn_8 hgo hu hC (by assumption))), H76.gr, (hr70.trans (congrArg Prod.snd (gn_8 hgo hu hC (by assumption)))), ((H76.sl 0 rfl).mono (fun _ h => h.elim))⟩
  ·have hc66 : (¬ ((k : Int) = 8) ∨ ¬ (64 < ((((nth x.b k).toNat % 128) : Nat) : Int))) := (Or.imp (fun h => (of_decide_eq_false h)) (fun h => (of_decide_eq_false h)) (andF hc66))
   have hM := gn_mul (x := (nth x.b k).toNat) (show k < 9 by omega) hc66
   have hU := gn_small hu (show k < 9 by omega)
   refine W_skip (Then_n (W_seq (W_reg ?_)))
   refine O_mv (v := (.int .i64 (u : Int))) rfl rfl (O_mv (v := (.int .i64 ((((nth x.b k).toNat % 128) : Nat) : Int))) rfl rfl (O_mv (v := (.int .i64 ((2 ^ (7 * min k 8) : Nat) : Int))) rfl rfl ?_))
   refine O_v rfl (R_arith (a := ((((nth x.b k).toNat % 128) : Nat) : Int)) (b := ((2 ^ (7 * min k 8) : Nat) : Int)) (r0 := ((((nth x.b k).toNat % 128) : Nat) : Int) * ((2 ^ (7 * min k 8) : Nat) : Int)) (r := ((((nth x.b k).toNat % 128 * 2 ^ (7 * min k 8)) : Nat) : Int)) rfl rfl rfl (by rw [← Int.natCast_mul]; exact w64 _ (by omega)) ?_)
   refine O_v rfl (R_arith (a := (u : Int)) (b := ((((nth x.b k).toNat % 128 * 2 ^ (7 * min k 8)) : Nat) : Int)) (r0 := (u : Int) + ((((nth x.b k).toNat % 128 * 2 ^ (7 * min k 8)) : Nat) : Int)) (r := (((u + (nth x.b k).toNat % 128 * 2 ^ (7 * min k 8)) : Nat) : Int)) rfl rfl rfl (by rw [← Int.natCast_add]; exact w64 _ (by omega)) ?_)
   refine O_as (v := (.int .i64 (((u + (nth x.b k).toNat % 128 * 2 ^ (7 * min k 8)) : Nat) : Int))) rfl rfl ?_
   refine O_nil (Then_n (W_seq (W_seq (W_reg ?_))))
   refine O_v rfl (R_fieldAddr (off := 0) (oo := 0) Tryz.underlying110 rfl rfl Tryz.sizeOf22 rfl rfl ?_)
   refine O_v rfl (R_load1 (v := (slV x.bh x.b)) Tryz.isAgg22 rfl (H65.bx 1 rfl 0 1 0 0 _ rfl rfl rfl) ?_)
   refine O_mv (v := (.int .i64 (k : Int))) rfl rfl ?_
   refine O_v rfl (R_index_pure (H65.sl 0 rfl) (n := x.b.length) rfl (j := (k : Int)) (oo := (x.bh.o + k * 1)) Tryz.underlying22 Tryz.sizeOf5 rfl rfl (by omega) (by omega) rfl ?_)
   refine O_v rfl (R_load1 (v := (.int .u8 ((nth x.b k).toNat : Int))) Tryz.isAgg5 rfl ((Sl.elem (H65.sl 0 rfl) (i := k) (by omega) rfl).chunks 0 1 0 (x.bh.o + k * 1) _ rfl rfl rfl) ?_)
   refine O_v rfl (R_cmp (a := ((nth x.b k).toNat : Int)) (b := 128) (r := (decide (((nth x.b k).toNat : Int) < 128))) rfl rfl rfl ?_)
   refine O_nil (Then_n ?_)
   refine W_cond rfl (fun hc77 => ?_) (fun hc77 => ?_)
   ·have hc77 := (of_decide_eq_true hc77)
    have hB := hc77
    refine W_seq (W_seq ?_)
    refine W_rg [(0, .q 0), (1, .q 0), (2, .q 0), (3, .q 0), (4, .q 0), (5, .q 0), (6, .q 0), (7, .q 0), (8, .q 0), (9, .q 0), (10, .q 0), (11, .q 0), (12, .q 0), (13, .q 0), (14, .q 0), (15, .q 0), (16, .q 0), (17, .q 0), (18, .q 0)] (by kernel_rfl) ?_
    refine Lx_q rfl rfl _ (fun v78 hv79 => R_fieldAddr (off := 0) (oo := 0) Tryz.underlying110 rfl rfl Tryz.sizeOf22 rfl rfl qk) (Lx_q rfl rfl _ (fun v80 hv81 => R_load1 (v := (slV x.bh x.b)) Tryz.isAgg22 rfl ((H65.ext hv81).bx 1 rfl 0 1 0 0 _ rfl rfl rfl) qk) (Lx_mv (v := (.int .i64 (k : Int))) rfl rfl rfl (Lx_q rfl rfl _ (fun v84 hv85 => R_index_pure (H65.sl 0 rfl) (n := x.b.length) rfl (j := (k : Int)) (oo := (x.bh.o + k * 1)) Tryz.underlying22 Tryz.sizeOf5 rfl rfl (by omega) (by omega) rfl qk) ?_)))
    refine Lx_q rfl rfl _ (fun v86 hv87 => R_load1 (v := (.int .u8 ((nth x.b k).toNat : Int))) Tryz.isAgg5 rfl ((Sl.elem ((H65.ext hv87).sl 0 rfl) (i := k) (by omega) rfl).chunks 0 1 0 (x.bh.o + k * 1) _ rfl rfl rfl) qk) (Lx_q rfl rfl _ (fun v88 hv89 => R_cmp (a := ((nth x.b k).toNat : Int)) (b := 0) (r := (decide (((nth x.b k).toNat : Int) = 0))) rfl rfl rfl qk) (Lx_mv (v := (.bool (decide (((nth x.b k).toNat : Int) = 0)))) rfl rfl rfl (Lx_qt rfl rfl rfl rfl rfl _ (fun hA v92 hv93 => R_move (v := (.int .i64 (k : Int))) rfl qk) ?_)))
    refine Lx_qt rfl rfl rfl rfl rfl _ (fun hA v94 hv95 => R_cmp (a := (k : Int)) (b := 0) (r := (decide (0 < (k : Int)))) (gv_t hA) rfl rfl qk) (Lx_q rfl rfl _ (fun v96 hv97 => R_pick rfl pk_and qk) (Lx_mv (v := (.bool ((decide (((nth x.b k).toNat : Int) = 0)) && (decide (0 < (k : Int)))))) rfl rfl rfl (Lx_qf rfl rfl rfl rfl rfl _ (fun hA v100 hv101 => R_move (v := (.int .i64 (((u + (nth x.b k).toNat % 128 * 2 ^ (7 * min k 8)) : Nat) : Int))) rfl qk) ?_)))
    refine Lx_qf rfl rfl rfl rfl rfl _ (fun hA v102 hv103 => R_cmp (a := (((u + (nth x.b k).toNat % 128 * 2 ^ (7 * min k 8)) : Nat) : Int)) (b := 4611686018427387904) (r := (decide (4611686018427387904 < (((u + (nth x.b k).toNat % 128 * 2 ^ (7 * min k 8)) : Nat) : Int)))) (gv_t hA) rfl rfl qk) (Lx_q rfl rfl _ (fun v104 hv105 => R_pick rfl pk_or qk) (Lx_mv (v := (.bool (((decide (((nth x.b k).toNat : Int) = 0)) && (decide (0 < (k : Int)))) || (decide (4611686018427387904 < (((u + (nth x.b k).toNat % 128 * 2 ^ (7 * min k 8)) : Nat) : Int)))))) rfl rfl rfl (Lx_qf rfl rfl rfl rfl rfl _ (fun hA v108 hv109 => R_move (v := (.int .i64 (((u + (nth x.b k).toNat % 128 * 2 ^ (7 * min k 8)) : Nat) : Int))) rfl qk) ?_)))
    refine Lx_qf rfl rfl rfl rfl rfl _ (fun hA v110 hv111 => R_move (v := (.int .i64 most)) rfl qk) (Lx_qf rfl rfl rfl rfl rfl _ (fun hA v112 hv113 => R_cmp (a := (((u + (nth x.b k).toNat % 128 * 2 ^ (7 * min k 8)) : Nat) : Int)) (b := most) (r := (decide (most < (((u + (nth x.b k).toNat % 128 * 2 ^ (7 * min k 8)) : Nat) : Int)))) (gv_t hA) (gv_t hA) rfl qk) (Lx_q rfl rfl _ (fun v114 hv115 => R_pick rfl pk_or qk) ?_))
    refine Lx_nil (fun w116 hw117 => ?_)
    have H118 := H65.ext hw117
    refine Then_n ?_
    refine W_cond rfl (fun hc119 => ?_) (fun hc119 => ?_)
    ·have hc119 : ((((((nth x.b k).toNat : Int) = 0) ∧ (0 < (k : Int))) ∨ (4611686018427387904 < (((u + (nth x.b k).toNat % 128 * 2 ^ (7 * min k 8)) : Nat) : Int))) ∨ (most < (((u + (nth x.b k).toNat % 128 * 2 ^ (7 * min k 8)) : Nat) : Int))) := (Or.imp (fun h => (Or.imp (fun h => (And.imp (fun h => (of_decide_eq_true h)) (fun h => (of_decide_eq_true h)) (andT h))) (fun h => (of_decide_eq_true h)) (orT h))) (fun h => (of_decide_eq_true h)) (orT hc119))
     refine W_seq (W_reg ?_)
     refine O_v rfl (R_callL (vs := []) cF109 rfl rfl ((ref02_failed  w116 ).ret ?_))
     rintro _ w121 ⟨x120, rfl, hx122, hr123, hs124⟩
     have H125 := H118.ext hx122
     have H126 := H125.addImm' (slI nob encB 1 x120.bh x120.b) hs124 (fun _ h => h.elim)
     refine O_as (v := (.int .i64 0)) rfl rfl ?_
     refine O_u (C_storeW H126 0 rfl (sub := [[(slV x120.bh x120.b)], [(.bool x120.bad)]]) Tryz.sizeOf110 rfl rfl rfl rfl rfl ?_)
     intro w127 hg128 H129
     refine O_nil (Then_n (W_ret (Then_r (Then_r (Blk_r (Then_r (Then_r (Blk_r (Then_r ?_)))))))))
     refine ret_tc (v := (.int .i64 0)) Tryz.results72 rfl (inMem (cs := [[(slV x120.bh x120.b)], [(.bool x120.bad)]]) rfl Tryz.isAgg110 Tryz.sizeOf110 rfl (boxR_at (H129.getOwn 0 rfl))) ?_
     exact ⟨x120, (two_val (gn_no hgo hu hC hB (by assumption))), H129.gr, (hr123.trans (congrArg Prod.snd (gn_no hgo hu hC hB (by assumption)))), ((H129.sl 0 rfl).mono (fun _ h => h.elim))⟩
    ·have hc119 : (((¬ (((nth x.b k).toNat : Int) = 0) ∨ ¬ (0 < (k : Int))) ∧ ¬ (4611686018427387904 < (((u + (nth x.b k).toNat % 128 * 2 ^ (7 * min k 8)) : Nat) : Int))) ∧ ¬ (most < (((u + (nth x.b k).toNat % 128 * 2 ^ (7 * min k 8)) : Nat) : Int))) := (And.imp (fun h => (And.imp (fun h => (Or.imp (fun h => (of_decide_eq_false h)) (fun h => (of_decide_eq_false h)) (andF h))) (fun h => (of_decide_eq_false h)) (orF h))) (fun h => (of_decide_eq_false h)) (orF hc119))
     refine W_skip (Then_n (W_seq ?_))
     refine W_rgdM TryzMixed nob (fun i => if i == 8 then 2 else 0) [(0, .q 2), (1, .q 2), (2, .q 0), (3, .q 2), (4, .q 2), (5, .q 2), (6, .q 2), (7, .q 2), (8, .c 2)] (by kernel_rfl) ?_
     refine Lx_mv (v := (.int .i64 (((u + (nth x.b k).toNat % 128 * 2 ^ (7 * min k 8)) : Nat) : Int))) rfl rfl rfl (Lx_q rfl rfl _ (fun v132 hv133 => R_fieldAddr (off := 0) (oo := 0) Tryz.underlying110 rfl rfl Tryz.sizeOf22 rfl rfl qk) (Lx_q rfl rfl _ (fun v134 hv135 => R_load1 (v := (slV x.bh x.b)) Tryz.isAgg22 rfl ((H118.ext hv135).bx 1 rfl 0 1 0 0 _ rfl rfl rfl) qk) (Lx_mv (v := (.int .i64 (k : Int))) rfl rfl rfl ?_)))
     refine Lx_q rfl rfl _ (fun v138 hv139 => R_arith (a := (k : Int)) (b := 1) (r0 := (k : Int) + 1) (r := ((k + 1 : Nat) : Int)) rfl rfl rfl (wrapN _ (by omega)) qk) (Lx_q rfl rfl _ (fun v140 hv141 => R_sliceS (h := x.bh) (l := x.b) (a := (k + 1)) (b := x.b.length) (m := x.bh.c) (x.b.drop (k + 1)) Tryz.underlying22 Tryz.sizeOf5 rfl rfl rfl rfl (by decide) (by omega) (by first | omega | exact Nat.le_refl _) (by have := Sl.cap (H118.sl 0 rfl); omega) (by first | omega | exact Nat.le_refl _ | (have := Sl.cap (H118.sl 0 rfl); omega)) (by rw [List.take_length])  qk) (Lx_q rfl rfl _ (fun v142 hv143 => R_buildL (vs := [(0, (slV (hSub x.bh 1 (k + 1) x.bh.c) (x.b.drop (k + 1)))), (1, (.bool false))]) (v := aggOf [[(slV (hSub x.bh 1 (k + 1) x.bh.c) (x.b.drop (k + 1)))], [(.bool false)]]) rfl (fun _ => by kernel_rfl) qk) (Lx_q rfl rfl _ (fun v144 hv145 => R_assign (v := (.int .i64 (((u + (nth x.b k).toNat % 128 * 2 ^ (7 * min k 8)) : Nat) : Int))) rfl qk) ?_)))
     refine Lx_cu rfl (fun w146 hw147 => ?_)
     have H148 := H118.ext hw147
     refine (C_storeW H148 0 rfl (sub := [[(slV (hSub x.bh 1 (k + 1) x.bh.c) (x.b.drop (k + 1)))], [(.bool false)]]) Tryz.sizeOf110 rfl rfl rfl rfl rfl ?_)
     intro w149 hg150 H151
     refine ⟨Gr.mono (M' := fun _ => True) hg150 (fun _ _ => trivial), ?_⟩
     refine Lx_nil (fun w152 hw153 => ?_)
     have H154 := H151.ext hw153
     refine Then_n (W_ret (Then_r (Blk_r (Then_r (Then_r (Blk_r (Then_r ?_)))))))
     refine ret_tc (v := (.int .i64 (((u + (nth x.b k).toNat % 128 * 2 ^ (7 * min k 8)) : Nat) : Int))) Tryz.results72 rfl (inMem (cs := [[(slV (hSub x.bh 1 (k + 1) x.bh.c) (x.b.drop (k + 1)))], [(.bool false)]]) rfl Tryz.isAgg110 Tryz.sizeOf110 rfl (boxR_at (H154.getOwn 0 rfl))) ?_
     exact ⟨({ b := x.b.drop (k + 1), bh := hSub x.bh 1 (k + 1) x.bh.c, bad := false } : RdS), (two_val (gn_yes hgo hu hC hB (by assumption))), H154.gr, (congrArg Prod.snd (gn_yes hgo hu hC hB (by assumption))), (Sl.sub (H154.sl 0 rfl) (k + 1) x.b.length x.bh.c (by omega) (by first | omega | exact Nat.le_refl _) (by have := Sl.cap (H118.sl 0 rfl); omega) (by first | omega | exact Nat.le_refl _ | (have := Sl.cap (H118.sl 0 rfl); omega)) (by rw [List.take_length]))⟩
   ·have hc77 := (of_decide_eq_false hc77)
    have hB := hc77
    refine W_skip (Then_n (W_seq (W_reg ?_)))
    refine O_mv (v := (.int .i64 (k : Int))) rfl rfl ?_
    refine O_v rfl (R_cmp (a := (k : Int)) (b := 8) (r := (decide ((k : Int) < 8))) rfl rfl rfl ?_)
    refine O_nil (Then_n ?_)
    refine W_cond rfl (fun hc155 => ?_) (fun hc155 => ?_)
    ·have hc155 := (of_decide_eq_true hc155)
     refine W_reg ?_
     refine O_mv (v := (.int .i64 ((2 ^ (7 * min k 8) : Nat) : Int))) rfl rfl ?_
     refine O_v rfl (R_arith (a := ((2 ^ (7 * min k 8) : Nat) : Int)) (b := 128) (r0 := ((2 ^ (7 * min k 8) : Nat) : Int) * 128) (r := (((2 ^ (7 * min k 8) * 128) : Nat) : Int)) rfl rfl rfl (by have := gn_unit (k := k) (by omega); rw [show (128 : Int) = ((128 : Nat) : Int) from rfl, ← Int.natCast_mul]; exact w64 _ (by omega)) ?_)
     refine O_as (v := (.int .i64 (((2 ^ (7 * min k 8) * 128) : Nat) : Int))) rfl rfl ?_
     refine O_nil (Blk_n (Then_n (W_reg ?_)))
     refine O_mv (v := (.int .i64 (k : Int))) rfl rfl ?_
     refine O_v rfl (R_arith (a := (k : Int)) (b := 1) (r0 := (k : Int) + 1) (r := ((k + 1 : Nat) : Int)) rfl rfl rfl (wrapN _ (by omega)) ?_)
     refine O_as (v := (.int .i64 ((k + 1 : Nat) : Int))) rfl rfl ?_
     refine O_nil (Then_n ?_)
     refine ⟨_, ?_, (k + 1), (u + (nth x.b k).toNat % 128 * 2 ^ (7 * min k 8)), rfl, (by omega), (gn_lt hu (by omega)), (gn_next hgo hu hC hB), _, envL_self ⟨rfl, rfl, rfl, rfl, (by first | exact gn_unitA (by omega) | exact gn_unitB (by omega)), rfl, trivial⟩, H65⟩
     omega
    ·have hc155 := (of_decide_eq_false hc155)
     refine W_skip (Blk_n (Then_n (W_reg ?_)))
     refine O_mv (v := (.int .i64 (k : Int))) rfl rfl ?_
     refine O_v rfl (R_arith (a := (k : Int)) (b := 1) (r0 := (k : Int) + 1) (r := ((k + 1 : Nat) : Int)) rfl rfl rfl (wrapN _ (by omega)) ?_)
     refine O_as (v := (.int .i64 ((k + 1 : Nat) : Int))) rfl rfl ?_
     refine O_nil (Then_n ?_)
     refine ⟨_, ?_, (k + 1), (u + (nth x.b k).toNat % 128 * 2 ^ (7 * min k 8)), rfl, (by omega), (gn_lt hu (by omega)), (gn_next hgo hu hC hB), _, envL_self ⟨rfl, rfl, rfl, rfl, (by first | exact gn_unitA (by omega) | exact gn_unitB (by omega)), rfl, trivial⟩, H65⟩
     omega
 ·have hc50 : ((¬ ((k : Int) < (x.b.length : Int)) ∨ ¬ ((k : Int) < 9)) ∨ x.bad = true) := (Or.imp (fun h => (Or.imp (fun h => (of_decide_eq_false h)) (fun h => (of_decide_eq_false h)) (andF h))) (fun h => (notF h)) (andF hc50))
  refine W_exit (Then_x (Then_x (Blk_x (Then_n (W_seq (W_reg ?_))))))
  refine O_v rfl (R_callL (vs := []) cF109 rfl rfl ((ref02_failed  w47 ).ret ?_))
  rintro _ w157 ⟨x156, rfl, hx158, hr159, hs160⟩
  have H161 := H49.ext hx158
  have H162 := H161.addImm' (slI nob encB 1 x156.bh x156.b) hs160 (fun _ h => h.elim)
  refine O_as (v := (.int .i64 0)) rfl rfl ?_
  refine O_u (C_storeW H162 0 rfl (sub := [[(slV x156.bh x156.b)], [(.bool x156.bad)]]) Tryz.sizeOf110 rfl rfl rfl rfl rfl ?_)
  intro w163 hg164 H165
  refine O_nil (Then_n (W_ret ?_))
  refine ret_tc (v := (.int .i64 0)) Tryz.results72 rfl (inMem (cs := [[(slV x156.bh x156.b)], [(.bool x156.bad)]]) rfl Tryz.isAgg110 Tryz.sizeOf110 rfl (boxR_at (H165.getOwn 0 rfl))) ?_
  exact ⟨x156, (two_val (gn_end hgo hk (by assumption))), H165.gr, (hr159.trans (congrArg Prod.snd (gn_end hgo hk (by assumption)))), ((H165.sl 0 rfl).mono (fun _ h => h.elim))⟩
theorem cF72 : callable Tryz.prog 72 = true := by kernel_rfl
set_option maxHeartbeats 1000000 in
theorem ref02_GetText (x : RdS) (Fx : Nat → Prop) (q : List UInt8 × Bool) (most : Int) (w : World) (Sx : Sl Fx encB 1 x.bh x.b w) (XFx : ∀ b, Fx b → b < w.heap.size) (Ex : x.st = q) :
    Calls Tryz.prog 78 #[(aggOf (rdCh x)), (.int .i64 most)] w (Ret fun v w' => ∃ X : RdS, v = .tuple #[(.string ((rdText q most).1)), rdV X] ∧ Ext w w' ∧ X.st = (rdText q most).2 ∧ Sl Fx encB 1 X.bh X.b w') := by
 refine calls_W Tryz.func78 rfl Tryz.ntmps78 rfl ?_
 have H0 := Ctx.start w nob
 have H1 := H0.addSl _ Sx (fun b hb => ⟨XFx b hb, fun _ ho => (nomatch ho)⟩)
 have LSx := Sx.len
 refine W_seq (W_reg ?_)
 refine O_v rfl (C_box H1 [[(slV x.bh x.b)], [(.bool x.bad)]] rfl ?_)
 intro b4 w5 hb6 hx7 H8
 refine O_as (v := (.string ByteArray.empty)) rfl rfl ?_
 refine O_v rfl (C_alloc H8 [[(.slice none 0 0)], [(.bool false)]] Tryz.zeroValue110 ?_)
 intro b9 w10 hb11 hx12 H13
 refine O_nil (Then_n (W_seq (W_reg ?_)))
 refine O_v rfl (R_loadA (cs := [[(slV x.bh x.b)], [(.bool x.bad)]]) Tryz.isAgg110 Tryz.sizeOf110 rfl rfl (H13.bx 1 rfl 0 2 0 0 _ rfl rfl rfl) ?_)
 refine O_mv (v := (.int .i64 most)) rfl rfl ?_
 refine O_v rfl (R_callL (vs := [(aggOf (rdCh x)), (.int .i64 most)]) cF72 rfl rfl ((ref02_GetNum x Fx q most w10 (H13.sl 0 rfl) (H13.imm _ (List.mem_of_getElem? (i := 0) rfl)).2 Ex).ret ?_))
 rintro _ w15 ⟨x14, rfl, hx16, hr17, hs18⟩
 have H19 := H13.ext hx16
 have H20 := H19.immOf 0 rfl (slI Fx encB 1 x14.bh x14.b) (fun _ h => h) (fun _ => hs18)
 refine O_mv (v := (.tuple #[(.int .i64 (((rdNum q most).1) : Int)), (aggOf (rdCh x14))])) rfl rfl (O_ex (v := (.int .i64 (((rdNum q most).1) : Int))) rfl rfl rfl (O_ex (v := (aggOf (rdCh x14))) rfl rfl rfl ?_))
 refine O_v rfl (C_alloc H20 [[(.slice none 0 0)], [(.bool false)]] Tryz.zeroValue110 ?_)
 intro b21 w22 hb23 hx24 H25
 refine O_as (v := (.int .i64 (((rdNum q most).1) : Int))) rfl rfl ?_
 refine O_u (C_storeW H25 0 rfl (sub := [[(slV x14.bh x14.b)], [(.bool x14.bad)]]) Tryz.sizeOf110 rfl rfl rfl rfl rfl ?_)
 intro w26 hg27 H28
 refine O_nil (Then_n (W_seq (W_seq ?_)))
 refine W_rg [(0, .q 0), (1, .q 0), (2, .q 0), (3, .q 0), (4, .q 0), (5, .q 0), (6, .q 0), (7, .q 0), (8, .q 0)] (by kernel_rfl) ?_
 refine Lx_q rfl rfl _ (fun v29 hv30 => R_fieldAddr (off := 1) (oo := 1) Tryz.underlying110 rfl rfl Tryz.sizeOf4 rfl rfl qk) (Lx_q rfl rfl _ (fun v31 hv32 => R_load1 (v := (.bool x14.bad)) Tryz.isAgg4 rfl ((H28.ext hv32).bx 0 rfl 1 1 1 1 _ rfl rfl rfl) qk) (Lx_mv (v := (.bool x14.bad)) rfl rfl rfl (Lx_qf rfl rfl rfl rfl rfl _ (fun hA v35 hv36 => R_move (v := (.int .i64 (((rdNum q most).1) : Int))) rfl qk) ?_)))
 refine Lx_qf rfl rfl rfl rfl rfl _ (fun hA v37 hv38 => R_fieldAddr (off := 0) (oo := 0) Tryz.underlying110 rfl rfl Tryz.sizeOf22 rfl rfl qk) (Lx_qf rfl rfl rfl rfl rfl _ (fun hA v39 hv40 => R_load1 (v := (slV x14.bh x14.b)) Tryz.isAgg22 (gv_t hA) ((H28.ext hv40).bx 0 rfl 0 1 0 0 _ rfl rfl rfl) qk) (Lx_qf rfl rfl rfl rfl rfl _ (fun hA v41 hv42 => R_len_slice (a := x14.bh.a) (n := x14.b.length) (c := x14.bh.c) Tryz.underlying22 (gv_t hA) qk) (Lx_qf rfl rfl rfl rfl rfl _ (fun hA v43 hv44 => R_cmp (a := (((rdNum q most).1) : Int)) (b := (x14.b.length : Int)) (r := (decide ((x14.b.length : Int) < (((rdNum q most).1) : Int)))) (gv_t hA) (gv_t hA) rfl qk) ?_)))
 refine Lx_q rfl rfl _ (fun v45 hv46 => R_pick rfl pk_or qk) ?_
 refine Lx_nil (fun w47 hw48 => ?_)
 have H49 := H28.ext hw48
 refine Then_n ?_
 refine W_cond rfl (fun hc50 => ?_) (fun hc50 => ?_)
 ·have hc50 : (x14.bad = true ∨ ((x14.b.length : Int) < (((rdNum q most).1) : Int))) := (Or.imp (fun h => h) (fun h => (of_decide_eq_true h)) (orT hc50))
  refine W_seq (W_reg ?_)
  refine O_v rfl (R_callL (vs := []) cF109 rfl rfl ((ref02_failed  w47 ).ret ?_))
  rintro _ w52 ⟨x51, rfl, hx53, hr54, hs55⟩
  have H56 := H49.ext hx53
  have H57 := H56.addImm' (slI nob encB 1 x51.bh x51.b) hs55 (fun _ h => h.elim)
  refine O_as (v := (.string ByteArray.empty)) rfl rfl ?_
  refine O_u (C_storeW H57 1 rfl (sub := [[(slV x51.bh x51.b)], [(.bool x51.bad)]]) Tryz.sizeOf110 rfl rfl rfl rfl rfl ?_)
  intro w58 hg59 H60
  refine O_nil (Then_n (W_ret (Then_r ?_)))
  refine ret_tc (v := (.string ByteArray.empty)) Tryz.results78 rfl (inMem (cs := [[(slV x51.bh x51.b)], [(.bool x51.bad)]]) rfl Tryz.isAgg110 Tryz.sizeOf110 rfl (boxR_at (H60.getOwn 1 rfl))) ?_
  exact ⟨x51, (gt_f hr17 (by assumption)).1, H60.gr, (hr54.trans (gt_f (v := .bool true) hr17 (by assumption)).2), ((H60.sl 0 rfl).mono (fun _ h => h.elim))⟩
 ·have hc50 : (x14.bad = false ∧ ¬ ((x14.b.length : Int) < (((rdNum q most).1) : Int))) := (And.imp (fun h => h) (fun h => (of_decide_eq_false h)) (orF hc50))
  refine W_skip (Then_n (W_seq ?_))
  refine W_rgdM TryzMixed nob (fun i => if i == 11 then 2 else 0) [(0, .q 2), (1, .q 0), (2, .q 2), (3, .q 2), (4, .q 0), (5, .q 2), (6, .q 0), (7, .q 2), (8, .q 2), (9, .q 2), (10, .q 2), (11, .c 2)] (by kernel_rfl) ?_
  refine Lx_q rfl rfl _ (fun v61 hv62 => R_fieldAddr (off := 0) (oo := 0) Tryz.underlying110 rfl rfl Tryz.sizeOf22 rfl rfl qk) (Lx_q rfl rfl _ (fun v63 hv64 => R_load1 (v := (slV x14.bh x14.b)) Tryz.isAgg22 rfl ((H49.ext hv64).bx 0 rfl 0 1 0 0 _ rfl rfl rfl) qk) (Lx_mv (v := (.int .i64 (((rdNum q most).1) : Int))) rfl rfl rfl (Lx_q rfl rfl _ (fun v67 hv68 => R_sliceS (h := x14.bh) (l := x14.b) (a := 0) (b := ((rdNum q most).1)) (m := x14.bh.c) (x14.b.take ((rdNum q most).1)) Tryz.underlying22 Tryz.sizeOf5 rfl rfl rfl rfl (by decide) (by omega) (by first | omega | exact Nat.le_refl _) (by have := Sl.cap (H49.sl 0 rfl); omega) (by first | omega | exact Nat.le_refl _ | (have := Sl.cap (H49.sl 0 rfl); omega)) rfl  qk) ?_)))
  refine Lx_q rfl rfl _ (fun v69 hv70 => R_conv_bs (l := x14.b.take ((rdNum q most).1)) Tryz.underlying22 Tryz.underlying5 Tryz.underlying9 (Sl.sub ((H49.ext hv70).sl 0 rfl) 0 ((rdNum q most).1) x14.bh.c (by omega) (by first | omega | exact Nat.le_refl _) (by have := Sl.cap (H49.sl 0 rfl); omega) (by first | omega | exact Nat.le_refl _ | (have := Sl.cap (H49.sl 0 rfl); omega)) rfl) rfl qk) (Lx_q rfl rfl _ (fun v71 hv72 => R_fieldAddr (off := 0) (oo := 0) Tryz.underlying110 rfl rfl Tryz.sizeOf22 rfl rfl qk) (Lx_q rfl rfl _ (fun v73 hv74 => R_load1 (v := (slV x14.bh x14.b)) Tryz.isAgg22 rfl ((H49.ext hv74).bx 0 rfl 0 1 0 0 _ rfl rfl rfl) qk) (Lx_mv (v := (.int .i64 (((rdNum q most).1) : Int))) rfl rfl rfl ?_)))
  refine Lx_q rfl rfl _ (fun v77 hv78 => R_sliceS (h := x14.bh) (l := x14.b) (a := ((rdNum q most).1)) (b := x14.b.length) (m := x14.bh.c) (x14.b.drop ((rdNum q most).1)) Tryz.underlying22 Tryz.sizeOf5 rfl rfl rfl rfl (by decide) (by omega) (by first | omega | exact Nat.le_refl _) (by have := Sl.cap (H49.sl 0 rfl); omega) (by first | omega | exact Nat.le_refl _ | (have := Sl.cap (H49.sl 0 rfl); omega)) (by rw [List.take_length])  qk) (Lx_q rfl rfl _ (fun v79 hv80 => R_buildL (vs := [(0, (slV (hSub x14.bh 1 ((rdNum q most).1) x14.bh.c) (x14.b.drop ((rdNum q most).1)))), (1, (.bool false))]) (v := aggOf [[(slV (hSub x14.bh 1 ((rdNum q most).1) x14.bh.c) (x14.b.drop ((rdNum q most).1)))], [(.bool false)]]) rfl (fun _ => by kernel_rfl) qk) (Lx_q rfl rfl _ (fun v81 hv82 => R_assign (v := (.string (⟨(x14.b.take ((rdNum q most).1)).toArray⟩ : ByteArray))) rfl qk) ?_))
  refine Lx_cu rfl (fun w83 hw84 => ?_)
  have H85 := H49.ext hw84
  refine (C_storeW H85 1 rfl (sub := [[(slV (hSub x14.bh 1 ((rdNum q most).1) x14.bh.c) (x14.b.drop ((rdNum q most).1)))], [(.bool false)]]) Tryz.sizeOf110 rfl rfl rfl rfl rfl ?_)
  intro w86 hg87 H88
  refine ⟨Gr.mono (M' := fun _ => True) hg87 (fun _ _ => trivial), ?_⟩
  refine Lx_nil (fun w89 hw90 => ?_)
  have H91 := H88.ext hw90
  refine Then_n (W_ret ?_)
  refine ret_tc (v := (.string (⟨(x14.b.take ((rdNum q most).1)).toArray⟩ : ByteArray))) Tryz.results78 rfl (inMem (cs := [[(slV (hSub x14.bh 1 ((rdNum q most).1) x14.bh.c) (x14.b.drop ((rdNum q most).1)))], [(.bool false)]]) rfl Tryz.isAgg110 Tryz.sizeOf110 rfl (boxR_at (H91.getOwn 1 rfl))) ?_
  exact ⟨({ b := x14.b.drop ((rdNum q most).1), bh := hSub x14.bh 1 ((rdNum q most).1) x14.bh.c, bad := false } : RdS), (gt_t hr17 (by assumption)).1, H91.gr, (gt_t (v := .bool true) hr17 (by assumption)).2, (Sl.sub (H91.sl 0 rfl) ((rdNum q most).1) x14.b.length x14.bh.c (by omega) (by first | omega | exact Nat.le_refl _) (by have := Sl.cap (H49.sl 0 rfl); omega) (by first | omega | exact Nat.le_refl _ | (have := Sl.cap (H49.sl 0 rfl); omega)) (by rw [List.take_length]))⟩
set_option maxHeartbeats 1000000 in
theorem ref03_GetStamp (x : RdS) (Fx : Nat → Prop) (q : List UInt8 × Bool) (w : World) (Sx : Sl Fx encB 1 x.bh x.b w) (XFx : ∀ b, Fx b → b < w.heap.size) (Ex : x.st = q) :
    Calls Tryz.prog 110 #[(aggOf (rdCh x))] w (Ret fun v w' => ∃ X : RdS, v = .tuple #[(aggOf (stampCh ((rdAt q).1))), rdV X] ∧ Ext w w' ∧ X.st = (rdAt q).2 ∧ Sl Fx encB 1 X.bh X.b w') := by
 refine calls_W Tryz.func110 rfl Tryz.ntmps110 rfl ?_
 have H0 := Ctx.start w nob
 have H1 := H0.addSl _ Sx (fun b hb => ⟨XFx b hb, fun _ ho => (nomatch ho)⟩)
 have LSx := Sx.len
 refine W_seq (W_reg ?_)
 refine O_v rfl (C_box H1 [[(slV x.bh x.b)], [(.bool x.bad)]] rfl ?_)
 intro b4 w5 hb6 hx7 H8
 refine O_v rfl (C_alloc H8 [[(.int .i64 0)], [(.int .i64 0)]] Tryz.zeroValue69 ?_)
 intro b9 w10 hb11 hx12 H13
 refine O_v rfl (C_alloc H13 [[(.slice none 0 0)], [(.bool false)]] Tryz.zeroValue110 ?_)
 intro b14 w15 hb16 hx17 H18
 refine O_nil (Then_n (W_seq (W_reg ?_)))
 refine O_v rfl (R_loadA (cs := [[(slV x.bh x.b)], [(.bool x.bad)]]) Tryz.isAgg110 Tryz.sizeOf110 rfl rfl (H18.bx 2 rfl 0 2 0 0 _ rfl rfl rfl) ?_)
 refine O_v rfl (R_callL (vs := [(aggOf (rdCh x)), (.int .i64 1099511627776)]) cF72 rfl rfl ((ref02_GetNum x Fx q 1099511627776 w15 (H18.sl 0 rfl) (H18.imm _ (List.mem_of_getElem? (i := 0) rfl)).2 Ex).ret ?_))
 rintro _ w20 ⟨x19, rfl, hx21, hr22, hs23⟩
 have H24 := H18.ext hx21
 have H25 := H24.immOf 0 rfl (slI Fx encB 1 x19.bh x19.b) (fun _ h => h) (fun _ => hs23)
 refine O_mv (v := (.tuple #[(.int .i64 (((rdNum q 1099511627776).1) : Int)), (aggOf (rdCh x19))])) rfl rfl (O_ex (v := (.int .i64 (((rdNum q 1099511627776).1) : Int))) rfl rfl rfl (O_ex (v := (aggOf (rdCh x19))) rfl rfl rfl ?_))
 refine O_v rfl (C_alloc H25 [[(.slice none 0 0)], [(.bool false)]] Tryz.zeroValue110 ?_)
 intro b26 w27 hb28 hx29 H30
 refine O_as (v := (.int .i64 (((rdNum q 1099511627776).1) : Int))) rfl rfl ?_
 refine O_u (C_storeW H30 0 rfl (sub := [[(slV x19.bh x19.b)], [(.bool x19.bad)]]) Tryz.sizeOf110 rfl rfl rfl rfl rfl ?_)
 intro w31 hg32 H33
 refine O_nil (Then_n (W_seq (W_reg ?_)))
 refine O_v rfl (R_loadA (cs := [[(slV x19.bh x19.b)], [(.bool x19.bad)]]) Tryz.isAgg110 Tryz.sizeOf110 rfl rfl (H33.bx 0 rfl 0 2 0 0 _ rfl rfl rfl) ?_)
 refine O_v rfl (R_callL (vs := [(aggOf (rdCh x19)), (.int .i64 65536)]) cF72 rfl rfl ((ref02_GetNum x19 Fx ((rdNum q 1099511627776).2) 65536 w31 (H33.sl 0 rfl) (H33.imm _ (List.mem_of_getElem? (i := 0) rfl)).2 hr22).ret ?_))
 rintro _ w35 ⟨x34, rfl, hx36, hr37, hs38⟩
 have H39 := H33.ext hx36
 have H40 := H39.immOf 0 rfl (slI Fx encB 1 x34.bh x34.b) (fun _ h => h) (fun _ => hs38)
 refine O_mv (v := (.tuple #[(.int .i64 (((rdNum ((rdNum q 1099511627776).2) 65536).1) : Int)), (aggOf (rdCh x34))])) rfl rfl (O_ex (v := (.int .i64 (((rdNum ((rdNum q 1099511627776).2) 65536).1) : Int))) rfl rfl rfl (O_ex (v := (aggOf (rdCh x34))) rfl rfl rfl ?_))
 refine O_v rfl (C_alloc H40 [[(.slice none 0 0)], [(.bool false)]] Tryz.zeroValue110 ?_)
 intro b41 w42 hb43 hx44 H45
 refine O_as (v := (.int .i64 (((rdNum ((rdNum q 1099511627776).2) 65536).1) : Int))) rfl rfl ?_
 refine O_u (C_storeW H45 0 rfl (sub := [[(slV x34.bh x34.b)], [(.bool x34.bad)]]) Tryz.sizeOf110 rfl rfl rfl rfl rfl ?_)
 intro w46 hg47 H48
 refine O_nil (Then_n (W_seq ?_))
 refine W_rgdM TryzMixed (fun c => c = b9) (fun i => if i == 4 then 1 else if i == 5 then 2 else 0) [(0, .q 2), (1, .q 2), (2, .q 2), (3, .q 1), (4, .c 1), (5, .c 2)] (by kernel_rfl) ?_
 refine Lx_mv (v := (.int .i64 (((rdNum q 1099511627776).1) : Int))) rfl rfl rfl (Lx_mv (v := (.int .i64 (((rdNum ((rdNum q 1099511627776).2) 65536).1) : Int))) rfl rfl rfl (Lx_q rfl rfl _ (fun v53 hv54 => R_buildL (vs := [(0, (.int .i64 (((rdNum q 1099511627776).1) : Int))), (1, (.int .i64 (((rdNum ((rdNum q 1099511627776).2) 65536).1) : Int)))]) (v := aggOf [[(.int .i64 (((rdNum q 1099511627776).1) : Int))], [(.int .i64 (((rdNum ((rdNum q 1099511627776).2) 65536).1) : Int))]]) rfl (fun _ => by kernel_rfl) qk) (Lx_q rfl rfl _ (fun v55 hv56 => R_loadA (cs := [[(slV x34.bh x34.b)], [(.bool x34.bad)]]) Tryz.isAgg110 Tryz.sizeOf110 rfl rfl ((boxR_at (H48.ownGr 0 3 (by decide) rfl rfl hv56 (fun _ h => congrArg some h.symm))).chunks 0 2 0 0 _ rfl rfl rfl) qk) ?_)))
 refine Lx_cu rfl (fun w57 hw58 => ?_)
 have H59 := H48.ext hw58
 refine (C_storeW H59 3 rfl (sub := [[(.int .i64 (((rdNum q 1099511627776).1) : Int))], [(.int .i64 (((rdNum ((rdNum q 1099511627776).2) 65536).1) : Int))]]) Tryz.sizeOf69 rfl rfl rfl rfl rfl ?_)
 intro w60 hg61 H62
 refine ⟨Gr.mono hg61 (fun _ h => (Option.some.inj h).symm), ?_⟩
 refine Lx_cu rfl (fun w63 hw64 => ?_)
 have H65 := H62.ext hw64
 refine (C_storeW H65 2 rfl (sub := [[(slV x34.bh x34.b)], [(.bool x34.bad)]]) Tryz.sizeOf110 rfl rfl rfl rfl rfl ?_)
 intro w66 hg67 H68
 refine ⟨Gr.mono (M' := fun _ => True) hg67 (fun _ _ => trivial), ?_⟩
 refine Lx_nil (fun w69 hw70 => ?_)
 have H71 := H68.ext hw70
 refine Then_n (W_ret ?_)
 refine ret_cc Tryz.results110 (inMem (cs := [[(.int .i64 (((rdNum q 1099511627776).1) : Int))], [(.int .i64 (((rdNum ((rdNum q 1099511627776).2) 65536).1) : Int))]]) rfl Tryz.isAgg69 Tryz.sizeOf69 rfl (boxR_at (H71.getOwn 3 rfl))) (inMem (cs := [[(slV x34.bh x34.b)], [(.bool x34.bad)]]) rfl Tryz.isAgg110 Tryz.sizeOf110 rfl (boxR_at (H71.getOwn 2 rfl))) ?_
 exact ⟨x34, rfl, H71.gr, hr37, (H71.sl 0 rfl)⟩
set_option maxHeartbeats 1000000 in
theorem ref03_Cmp (a : Stamp) (b : Stamp) (w : World) :
    Calls Tryz.prog 44 #[(aggOf (stampCh a)), (aggOf (stampCh b))] w (Ret fun v w' => v = (.int .i64 (cmpSt a b)) ∧ Ext w w') := by
 refine calls_W Tryz.func44 rfl Tryz.ntmps44 rfl ?_
 have H0 := Ctx.start w nob
 refine W_seq (W_reg ?_)
 refine O_v rfl (C_box H0 [[(.int .i64 a.T)], [(.int .i64 a.R)]] rfl ?_)
 intro b1 w2 hb3 hx4 H5
 refine O_v rfl (C_box H5 [[(.int .i64 b.T)], [(.int .i64 b.R)]] rfl ?_)
 intro b6 w7 hb8 hx9 H10
 refine O_as (v := (.int .i64 0)) rfl rfl ?_
 refine O_nil (Then_n (W_seq (W_seq ?_)))
 refine W_rg [(0, .q 0), (1, .q 0), (2, .q 0), (3, .q 0), (4, .q 0), (5, .q 0), (6, .q 0), (7, .q 0), (8, .q 0), (9, .q 0), (10, .q 0), (11, .q 0), (12, .q 0), (13, .q 0), (14, .q 0), (15, .q 0), (16, .q 0), (17, .q 0), (18, .q 0)] (by kernel_rfl) ?_
 refine Lx_q rfl rfl _ (fun v11 hv12 => R_fieldAddr (off := 0) (oo := 0) Tryz.underlying69 rfl rfl Tryz.sizeOf2 rfl rfl qk) (Lx_q rfl rfl _ (fun v13 hv14 => R_load1 (v := (.int .i64 a.T)) Tryz.isAgg2 rfl ((H10.ext hv14).bx 1 rfl 0 1 0 0 _ rfl rfl rfl) qk) (Lx_q rfl rfl _ (fun v15 hv16 => R_fieldAddr (off := 0) (oo := 0) Tryz.underlying69 rfl rfl Tryz.sizeOf2 rfl rfl qk) (Lx_q rfl rfl _ (fun v17 hv18 => R_load1 (v := (.int .i64 b.T)) Tryz.isAgg2 rfl ((H10.ext hv18).bx 0 rfl 0 1 0 0 _ rfl rfl rfl) qk) ?_)))
 refine Lx_q rfl rfl _ (fun v19 hv20 => R_cmp (a := a.T) (b := b.T) (r := (decide (a.T < b.T))) rfl rfl rfl qk) (Lx_mv (v := (.bool (decide (a.T < b.T)))) rfl rfl rfl (Lx_qf rfl rfl rfl rfl rfl _ (fun hA v23 hv24 => R_fieldAddr (off := 0) (oo := 0) Tryz.underlying69 rfl rfl Tryz.sizeOf2 rfl rfl qk) (Lx_qf rfl rfl rfl rfl rfl _ (fun hA v25 hv26 => R_load1 (v := (.int .i64 a.T)) Tryz.isAgg2 (gv_t hA) ((H10.ext hv26).bx 1 rfl 0 1 0 0 _ rfl rfl rfl) qk) ?_)))
 refine Lx_qf rfl rfl rfl rfl rfl _ (fun hA v27 hv28 => R_fieldAddr (off := 0) (oo := 0) Tryz.underlying69 rfl rfl Tryz.sizeOf2 rfl rfl qk) (Lx_qf rfl rfl rfl rfl rfl _ (fun hA v29 hv30 => R_load1 (v := (.int .i64 b.T)) Tryz.isAgg2 (gv_t hA) ((H10.ext hv30).bx 0 rfl 0 1 0 0 _ rfl rfl rfl) qk) (Lx_qf rfl rfl rfl rfl rfl _ (fun hA v31 hv32 => R_cmp (a := a.T) (b := b.T) (r := (decide (a.T = b.T))) (gv_t hA) (gv_t hA) rfl qk) (Lx_qf rfl rfl rfl rfl rfl _ (fun hA v33 hv34 => R_move (v := (.bool (decide (a.T = b.T)))) (gv_t hA) qk) ?_)))
 refine Lx_gt (!(decide (a.T < b.T))) (decide (a.T = b.T)) rfl rfl rfl rfl rfl _ (fun hA v35 hv36 => R_fieldAddr (off := 1) (oo := 1) Tryz.underlying69 rfl rfl Tryz.sizeOf3 rfl rfl qk) (Lx_gt (!(decide (a.T < b.T))) (decide (a.T = b.T)) rfl rfl rfl rfl rfl _ (fun hA v37 hv38 => R_load1 (v := (.int .i64 a.R)) Tryz.isAgg3 (gv_t hA) ((H10.ext hv38).bx 1 rfl 1 1 1 1 _ rfl rfl rfl) qk) (Lx_gt (!(decide (a.T < b.T))) (decide (a.T = b.T)) rfl rfl rfl rfl rfl _ (fun hA v39 hv40 => R_fieldAddr (off := 1) (oo := 1) Tryz.underlying69 rfl rfl Tryz.sizeOf3 rfl rfl qk) (Lx_gt (!(decide (a.T < b.T))) (decide (a.T = b.T)) rfl rfl rfl rfl rfl _ (fun hA v41 hv42 => R_load1 (v := (.int .i64 b.R)) Tryz.isAgg3 (gv_t hA) ((H10.ext hv42).bx 0 rfl 1 1 1 1 _ rfl rfl rfl) qk) ?_)))
 refine Lx_gt (!(decide (a.T < b.T))) (decide (a.T = b.T)) rfl rfl rfl rfl rfl _ (fun hA v43 hv44 => R_cmp (a := a.R) (b := b.R) (r := (decide (a.R < b.R))) (gv_t hA) (gv_t hA) rfl qk) (Lx_qf rfl rfl rfl rfl rfl _ (fun hA v45 hv46 => R_pick (gv_t hA) (pk_andA hA) qk) (Lx_q rfl rfl _ (fun v47 hv48 => R_pick rfl pk_or qk) ?_))
 refine Lx_nil (fun w49 hw50 => ?_)
 have H51 := H10.ext hw50
 refine Then_n ?_
 refine W_cond rfl (fun hc52 => ?_) (fun hc52 => ?_)
 ·have hc52 : ((a.T < b.T) ∨ ((a.T = b.T) ∧ (a.R < b.R))) := (Or.imp (fun h => (of_decide_eq_true h)) (fun h => (And.imp (fun h => (of_decide_eq_true h)) (fun h => (of_decide_eq_true h)) (andT h))) (orT hc52))
  refine W_seq (W_reg ?_)
  refine O_as (v := (.int .i64 (-1))) rfl rfl ?_
  refine O_nil (Then_n (W_ret (Then_r ?_)))
  refine ret_1 (v := (.int .i64 (-1))) Tryz.results44 rfl ?_
  exact ⟨(by rw [cmpSt_lt (by omega)]), H51.gr⟩
 ·have hc52 : (¬ (a.T < b.T) ∧ (¬ (a.T = b.T) ∨ ¬ (a.R < b.R))) := (And.imp (fun h => (of_decide_eq_false h)) (fun h => (Or.imp (fun h => (of_decide_eq_false h)) (fun h => (of_decide_eq_false h)) (andF h))) (orF hc52))
  refine W_skip (Then_n (W_seq (W_seq ?_)))
  refine W_rg [(0, .q 0), (1, .q 0), (2, .q 0), (3, .q 0), (4, .q 0), (5, .q 0), (6, .q 0), (7, .q 0), (8, .q 0), (9, .q 0), (10, .q 0), (11, .q 0)] (by kernel_rfl) ?_
  refine Lx_q rfl rfl _ (fun v53 hv54 => R_fieldAddr (off := 0) (oo := 0) Tryz.underlying69 rfl rfl Tryz.sizeOf2 rfl rfl qk) (Lx_q rfl rfl _ (fun v55 hv56 => R_load1 (v := (.int .i64 a.T)) Tryz.isAgg2 rfl ((H51.ext hv56).bx 1 rfl 0 1 0 0 _ rfl rfl rfl) qk) (Lx_q rfl rfl _ (fun v57 hv58 => R_fieldAddr (off := 0) (oo := 0) Tryz.underlying69 rfl rfl Tryz.sizeOf2 rfl rfl qk) (Lx_q rfl rfl _ (fun v59 hv60 => R_load1 (v := (.int .i64 b.T)) Tryz.isAgg2 rfl ((H51.ext hv60).bx 0 rfl 0 1 0 0 _ rfl rfl rfl) qk) ?_)))
  refine Lx_q rfl rfl _ (fun v61 hv62 => R_cmp (a := a.T) (b := b.T) (r := (decide (a.T = b.T))) rfl rfl rfl qk) (Lx_mv (v := (.bool (decide (a.T = b.T)))) rfl rfl rfl (Lx_qt rfl rfl rfl rfl rfl _ (fun hA v65 hv66 => R_fieldAddr (off := 1) (oo := 1) Tryz.underlying69 rfl rfl Tryz.sizeOf3 rfl rfl qk) (Lx_qt rfl rfl rfl rfl rfl _ (fun hA v67 hv68 => R_load1 (v := (.int .i64 a.R)) Tryz.isAgg3 (gv_t hA) ((H51.ext hv68).bx 1 rfl 1 1 1 1 _ rfl rfl rfl) qk) ?_)))
  refine Lx_qt rfl rfl rfl rfl rfl _ (fun hA v69 hv70 => R_fieldAddr (off := 1) (oo := 1) Tryz.underlying69 rfl rfl Tryz.sizeOf3 rfl rfl qk) (Lx_qt rfl rfl rfl rfl rfl _ (fun hA v71 hv72 => R_load1 (v := (.int .i64 b.R)) Tryz.isAgg3 (gv_t hA) ((H51.ext hv72).bx 0 rfl 1 1 1 1 _ rfl rfl rfl) qk) (Lx_qt rfl rfl rfl rfl rfl _ (fun hA v73 hv74 => R_cmp (a := a.R) (b := b.R) (r := (decide (a.R = b.R))) (gv_t hA) (gv_t hA) rfl qk) (Lx_q rfl rfl _ (fun v75 hv76 => R_pick rfl pk_and qk) ?_)))
  refine Lx_nil (fun w77 hw78 => ?_)
  have H79 := H51.ext hw78
  refine Then_n ?_
  refine W_cond rfl (fun hc80 => ?_) (fun hc80 => ?_)
  ·have hc80 : ((a.T = b.T) ∧ (a.R = b.R)) := (And.imp (fun h => (of_decide_eq_true h)) (fun h => (of_decide_eq_true h)) (andT hc80))
   refine W_seq (W_reg ?_)
   refine O_as (v := (.int .i64 0)) rfl rfl ?_
   refine O_nil (Then_n (W_ret (Then_r ?_)))
   refine ret_1 (v := (.int .i64 0)) Tryz.results44 rfl ?_
   exact ⟨(by rw [cmpSt_eq (by omega) (by omega)]), H79.gr⟩
  ·have hc80 : (¬ (a.T = b.T) ∨ ¬ (a.R = b.R)) := (Or.imp (fun h => (of_decide_eq_false h)) (fun h => (of_decide_eq_false h)) (andF hc80))
   refine W_skip (Then_n (W_seq (W_reg ?_)))
   refine O_as (v := (.int .i64 1)) rfl rfl ?_
   refine O_nil (Then_n (W_ret ?_))
   refine ret_1 (v := (.int .i64 1)) Tryz.results44 rfl ?_
   exact ⟨(by rw [cmpSt_gt (by omega) (by omega)]), H79.gr⟩
set_option maxHeartbeats 1000000 in
theorem ref03_Name (s : ByteArray) (w : World) (hl : s.size ≤ 9223372036854775807) :
    Calls Tryz.prog 71 #[(.string s)] w (Ret fun v w' => v = (.bool (nameOk s)) ∧ Ext w w') := by
 refine calls_W Tryz.func71 rfl Tryz.ntmps71 rfl ?_
 have H0 := Ctx.start w nob
 refine W_seq (W_reg ?_)
 refine O_as (v := (.bool false)) rfl rfl ?_
 refine O_nil (Then_n (W_seq (W_seq (W_reg ?_))))
 refine O_as (v := (.int .i64 0)) rfl rfl ?_
 refine O_nil (Then_n (W_block ?_))
 refine W_loop (fun m1 e2 w3 => ∃ (k : Nat), m1 = s.size - k ∧ (k ≤ s.size) ∧ (∀ j, j < k → badByte (sbyte s j) = false) ∧ ∃ eb4, e2 = envL [(0, (.string s)), (3, (.int .i64 (k : Int)))] eb4 ∧ Ctx w nob w3 [] []) _ ⟨0, rfl, (by omega), (all_zero _), _, envL_self ⟨rfl, rfl, trivial⟩, H0⟩ ?_
 rintro m1 _ w3 ⟨k, rfl, hk, hn, eb4, rfl, H5⟩
 refine W_seq (W_seq (W_reg ?_))
 refine O_mv (v := (.int .i64 (k : Int))) rfl rfl (O_mv (v := (.string s)) rfl rfl ?_)
 refine O_v rfl (R_len_string Tryz.underlying9 rfl ?_)
 refine O_v rfl (R_cmp (a := (k : Int)) (b := (s.size : Int)) (r := (decide ((k : Int) < (s.size : Int)))) rfl rfl rfl ?_)
 refine O_nil (Then_n ?_)
 refine W_cond rfl (fun hc6 => ?_) (fun hc6 => ?_)
 ·have hc6 := (of_decide_eq_true hc6)
  refine W_skip (Then_n (W_seq (W_block (W_seq ?_))))
  refine W_rg [(0, .q 0), (1, .q 0), (2, .q 0), (3, .q 0), (4, .q 0), (5, .q 0), (6, .q 0), (7, .q 0), (8, .q 0), (9, .q 0), (10, .q 0), (11, .q 0), (12, .q 0), (13, .q 0), (14, .q 0), (15, .q 0)] (by kernel_rfl) ?_
  refine Lx_mv (v := (.string s)) rfl rfl rfl (Lx_mv (v := (.int .i64 (k : Int))) rfl rfl rfl (Lx_q rfl rfl _ (fun v11 hv12 => R_index_s (s := s) (k := k) Tryz.underlying9 rfl rfl rfl (by omega) qk) (Lx_q rfl rfl _ (fun v13 hv14 => R_cmp (a := ((sbyte s k).toNat : Int)) (b := 0) (r := (decide (((sbyte s k).toNat : Int) = 0))) rfl rfl rfl qk) ?_)))
  refine Lx_mv (v := (.bool (decide (((sbyte s k).toNat : Int) = 0)))) rfl rfl rfl (Lx_qf rfl rfl rfl rfl rfl _ (fun hA v17 hv18 => R_move (v := (.string s)) rfl qk) (Lx_qf rfl rfl rfl rfl rfl _ (fun hA v19 hv20 => R_move (v := (.int .i64 (k : Int))) rfl qk) ?_))
  refine Lx_qf rfl rfl rfl rfl rfl _ (fun hA v21 hv22 => by
        have hP : ¬ (((sbyte s k).toNat : Int) = 0) := (of_decide_eq_false (notT hA))
        exact R_index_s (s := s) (k := k) Tryz.underlying9 (gv_t hA) (gv_t hA) rfl (by omega) qk) ?_
  refine Lx_qf rfl rfl rfl rfl rfl _ (fun hA v23 hv24 => R_cmp (a := ((sbyte s k).toNat : Int)) (b := 47) (r := (decide (((sbyte s k).toNat : Int) = 47))) (gv_t hA) rfl rfl qk) (Lx_q rfl rfl _ (fun v25 hv26 => R_pick rfl pk_or qk) (Lx_mv (v := (.bool ((decide (((sbyte s k).toNat : Int) = 0)) || (decide (((sbyte s k).toNat : Int) = 47))))) rfl rfl rfl (Lx_qf rfl rfl rfl rfl rfl _ (fun hA v29 hv30 => R_move (v := (.string s)) rfl qk) ?_)))
  refine Lx_qf rfl rfl rfl rfl rfl _ (fun hA v31 hv32 => R_move (v := (.int .i64 (k : Int))) rfl qk) ?_
  refine Lx_qf rfl rfl rfl rfl rfl _ (fun hA v33 hv34 => by
        have hP : (¬ (((sbyte s k).toNat : Int) = 0) ∧ ¬ (((sbyte s k).toNat : Int) = 47)) := (And.imp (fun h => (of_decide_eq_false h)) (fun h => (of_decide_eq_false h)) (orF (notT hA)))
        exact R_index_s (s := s) (k := k) Tryz.underlying9 (gv_t hA) (gv_t hA) rfl (by omega) qk) ?_
  refine Lx_qf rfl rfl rfl rfl rfl _ (fun hA v35 hv36 => R_cmp (a := ((sbyte s k).toNat : Int)) (b := 10) (r := (decide (((sbyte s k).toNat : Int) = 10))) (gv_t hA) rfl rfl qk) (Lx_q rfl rfl _ (fun v37 hv38 => R_pick rfl pk_or qk) ?_)
  refine Lx_nil (fun w39 hw40 => ?_)
  have H41 := H5.ext hw40
  refine Then_n ?_
  refine W_cond rfl (fun hc42 => ?_) (fun hc42 => ?_)
  ·have hc42 : (((((sbyte s k).toNat : Int) = 0) ∨ (((sbyte s k).toNat : Int) = 47)) ∨ (((sbyte s k).toNat : Int) = 10)) := (Or.imp (fun h => (Or.imp (fun h => (of_decide_eq_true h)) (fun h => (of_decide_eq_true h)) (orT h))) (fun h => (of_decide_eq_true h)) (orT hc42))
   refine W_seq (W_reg ?_)
   refine O_as (v := (.bool false)) rfl rfl ?_
   refine O_nil (Then_n (W_ret (Blk_r (Then_r (Then_r (Blk_r (Then_r ?_)))))))
   refine ret_1 (v := (.bool false)) Tryz.results71 rfl ?_
   exact ⟨(nameOk_bad (k := k) (by omega) (by assumption)), H41.gr⟩
  ·have hc42 : ((¬ (((sbyte s k).toNat : Int) = 0) ∧ ¬ (((sbyte s k).toNat : Int) = 47)) ∧ ¬ (((sbyte s k).toNat : Int) = 10)) := (And.imp (fun h => (And.imp (fun h => (of_decide_eq_false h)) (fun h => (of_decide_eq_false h)) (orF h))) (fun h => (of_decide_eq_false h)) (orF hc42))
   refine W_skip (Blk_n (Then_n (W_reg ?_)))
   refine O_mv (v := (.int .i64 (k : Int))) rfl rfl ?_
   refine O_v rfl (R_arith (a := (k : Int)) (b := 1) (r0 := (k : Int) + 1) (r := ((k + 1 : Nat) : Int)) rfl rfl rfl (wrapN _ (by omega)) ?_)
   refine O_as (v := (.int .i64 ((k + 1 : Nat) : Int))) rfl rfl ?_
   refine O_nil (Then_n ?_)
   refine ⟨_, ?_, (k + 1), rfl, (by omega), (all_succ hn (badByte_f (by assumption))), _, envL_self ⟨rfl, rfl, trivial⟩, H41⟩
   omega
 ·have hc6 := (of_decide_eq_false hc6)
  refine W_exit (Then_x (Then_x (Blk_x (Then_n (W_seq ?_)))))
  refine W_rg [(0, .q 0), (1, .q 0), (2, .q 0), (3, .q 0), (4, .q 0), (5, .q 0), (6, .q 0), (7, .q 0), (8, .q 0), (9, .q 0), (10, .q 0), (11, .q 0), (12, .q 0), (13, .q 0), (14, .q 0), (15, .q 0)] (by kernel_rfl) ?_
  refine Lx_mv (v := (.string s)) rfl rfl rfl (Lx_q rfl rfl _ (fun v45 hv46 => R_cmpS (a := s) (b := ByteArray.empty) (r := (!(decide (s = ByteArray.empty)))) rfl rfl rfl qk) (Lx_mv (v := (.bool (!(decide (s = ByteArray.empty))))) rfl rfl rfl (Lx_qt rfl rfl rfl rfl rfl _ (fun hA v49 hv50 => R_move (v := (.string s)) rfl qk) ?_)))
  refine Lx_qt rfl rfl rfl rfl rfl _ (fun hA v51 hv52 => R_len_string Tryz.underlying9 (gv_t hA) qk) (Lx_qt rfl rfl rfl rfl rfl _ (fun hA v53 hv54 => R_cmp (a := (s.size : Int)) (b := 60) (r := (decide ((s.size : Int) ≤ 60))) (gv_t hA) rfl rfl qk) (Lx_q rfl rfl _ (fun v55 hv56 => R_pick rfl pk_and qk) (Lx_mv (v := (.bool ((!(decide (s = ByteArray.empty))) && (decide ((s.size : Int) ≤ 60))))) rfl rfl rfl ?_)))
  refine Lx_qt rfl rfl rfl rfl rfl _ (fun hA v59 hv60 => R_move (v := (.string s)) rfl qk) (Lx_qt rfl rfl rfl rfl rfl _ (fun hA v61 hv62 => R_cmpS (a := s) (b := (⟨#[46]⟩ : ByteArray)) (r := (!(decide (s = (⟨#[46]⟩ : ByteArray))))) (gv_t hA) rfl rfl qk) (Lx_q rfl rfl _ (fun v63 hv64 => R_pick rfl pk_and qk) (Lx_mv (v := (.bool (((!(decide (s = ByteArray.empty))) && (decide ((s.size : Int) ≤ 60))) && (!(decide (s = (⟨#[46]⟩ : ByteArray))))))) rfl rfl rfl ?_)))
  refine Lx_qt rfl rfl rfl rfl rfl _ (fun hA v67 hv68 => R_move (v := (.string s)) rfl qk) (Lx_qt rfl rfl rfl rfl rfl _ (fun hA v69 hv70 => R_cmpS (a := s) (b := (⟨#[46, 46]⟩ : ByteArray)) (r := (!(decide (s = (⟨#[46, 46]⟩ : ByteArray))))) (gv_t hA) rfl rfl qk) (Lx_q rfl rfl _ (fun v71 hv72 => R_pick rfl pk_and qk) (Lx_q rfl rfl _ (fun v73 hv74 => R_assign (v := (.bool ((((!(decide (s = ByteArray.empty))) && (decide ((s.size : Int) ≤ 60))) && (!(decide (s = (⟨#[46]⟩ : ByteArray))))) && (!(decide (s = (⟨#[46, 46]⟩ : ByteArray))))))) rfl qk) ?_)))
  refine Lx_nil (fun w75 hw76 => ?_)
  have H77 := H5.ext hw76
  refine Then_n (W_ret ?_)
  refine ret_1 (v := (.bool ((((!(decide (s = ByteArray.empty))) && (decide ((s.size : Int) ≤ 60))) && (!(decide (s = (⟨#[46]⟩ : ByteArray))))) && (!(decide (s = (⟨#[46, 46]⟩ : ByteArray))))))) Tryz.results71 rfl ?_
  exact ⟨(nameOk_good (by rwa [show s.size = k from by omega])), H77.gr⟩
set_option maxHeartbeats 1000000 in
theorem ref03_Right (s : Stamp) (w : World) :
    Calls Tryz.prog 62 #[(aggOf (stampCh s))] w (Ret fun v w' => v = (.bool (stRight s)) ∧ Ext w w') := by
 refine calls_W Tryz.func62 rfl Tryz.ntmps62 rfl ?_
 have H0 := Ctx.start w nob
 refine W_seq (W_reg ?_)
 refine O_v rfl (C_box H0 [[(.int .i64 s.T)], [(.int .i64 s.R)]] rfl ?_)
 intro b1 w2 hb3 hx4 H5
 refine O_as (v := (.bool false)) rfl rfl ?_
 refine O_nil (Then_n (W_seq ?_))
 refine W_rg [(0, .q 0), (1, .q 0), (2, .q 0), (3, .q 0), (4, .q 0), (5, .q 0), (6, .q 0), (7, .q 0), (8, .q 0), (9, .q 0), (10, .q 0), (11, .q 0), (12, .q 0), (13, .q 0), (14, .q 0), (15, .q 0), (16, .q 0), (17, .q 0), (18, .q 0)] (by kernel_rfl) ?_
 refine Lx_q rfl rfl _ (fun v6 hv7 => R_fieldAddr (off := 0) (oo := 0) Tryz.underlying69 rfl rfl Tryz.sizeOf2 rfl rfl qk) (Lx_q rfl rfl _ (fun v8 hv9 => R_load1 (v := (.int .i64 s.T)) Tryz.isAgg2 rfl ((H5.ext hv9).bx 0 rfl 0 1 0 0 _ rfl rfl rfl) qk) (Lx_q rfl rfl _ (fun v10 hv11 => R_cmp (a := s.T) (b := 0) (r := (decide (0 < s.T))) rfl rfl rfl qk) (Lx_mv (v := (.bool (decide (0 < s.T)))) rfl rfl rfl ?_)))
 refine Lx_qt rfl rfl rfl rfl rfl _ (fun hA v14 hv15 => R_fieldAddr (off := 0) (oo := 0) Tryz.underlying69 rfl rfl Tryz.sizeOf2 rfl rfl qk) (Lx_qt rfl rfl rfl rfl rfl _ (fun hA v16 hv17 => R_load1 (v := (.int .i64 s.T)) Tryz.isAgg2 (gv_t hA) ((H5.ext hv17).bx 0 rfl 0 1 0 0 _ rfl rfl rfl) qk) (Lx_qt rfl rfl rfl rfl rfl _ (fun hA v18 hv19 => R_cmp (a := s.T) (b := 1099511627776) (r := (decide (s.T ≤ 1099511627776))) (gv_t hA) rfl rfl qk) (Lx_q rfl rfl _ (fun v20 hv21 => R_pick rfl pk_and qk) ?_)))
 refine Lx_mv (v := (.bool ((decide (0 < s.T)) && (decide (s.T ≤ 1099511627776))))) rfl rfl rfl (Lx_qt rfl rfl rfl rfl rfl _ (fun hA v24 hv25 => R_fieldAddr (off := 1) (oo := 1) Tryz.underlying69 rfl rfl Tryz.sizeOf3 rfl rfl qk) (Lx_qt rfl rfl rfl rfl rfl _ (fun hA v26 hv27 => R_load1 (v := (.int .i64 s.R)) Tryz.isAgg3 (gv_t hA) ((H5.ext hv27).bx 0 rfl 1 1 1 1 _ rfl rfl rfl) qk) (Lx_qt rfl rfl rfl rfl rfl _ (fun hA v28 hv29 => R_cmp (a := s.R) (b := 0) (r := (decide (0 < s.R))) (gv_t hA) rfl rfl qk) ?_)))
 refine Lx_q rfl rfl _ (fun v30 hv31 => R_pick rfl pk_and qk) (Lx_mv (v := (.bool (((decide (0 < s.T)) && (decide (s.T ≤ 1099511627776))) && (decide (0 < s.R))))) rfl rfl rfl (Lx_qt rfl rfl rfl rfl rfl _ (fun hA v34 hv35 => R_fieldAddr (off := 1) (oo := 1) Tryz.underlying69 rfl rfl Tryz.sizeOf3 rfl rfl qk) (Lx_qt rfl rfl rfl rfl rfl _ (fun hA v36 hv37 => R_load1 (v := (.int .i64 s.R)) Tryz.isAgg3 (gv_t hA) ((H5.ext hv37).bx 0 rfl 1 1 1 1 _ rfl rfl rfl) qk) ?_)))
 refine Lx_qt rfl rfl rfl rfl rfl _ (fun hA v38 hv39 => R_cmp (a := s.R) (b := 65536) (r := (decide (s.R ≤ 65536))) (gv_t hA) rfl rfl qk) (Lx_q rfl rfl _ (fun v40 hv41 => R_pick rfl pk_and qk) (Lx_q rfl rfl _ (fun v42 hv43 => R_assign (v := (.bool ((((decide (0 < s.T)) && (decide (s.T ≤ 1099511627776))) && (decide (0 < s.R))) && (decide (s.R ≤ 65536))))) rfl qk) ?_))
 refine Lx_nil (fun w44 hw45 => ?_)
 have H46 := H5.ext hw45
 refine Then_n (W_ret ?_)
 refine ret_1 (v := (.bool ((((decide (0 < s.T)) && (decide (s.T ≤ 1099511627776))) && (decide (0 < s.R))) && (decide (s.R ≤ 65536))))) Tryz.results62 rfl ?_
 exact ⟨(boolE (by simp only [stRight, Bool.and_eq_true, Bool.or_eq_true, Bool.not_eq_true, decide_eq_true_eq]; omega)), H46.gr⟩
end Go.Proofs.YthjdhfoeckfmbaaGreat
namespace Go.Proofs.YthjdhfoeckfmbaaGreat
open Go
set_option linter.unusedVariables false
set_option linter.unusedSimpArgs false
set_option linter.unusedSectionVars false
end Go.Proofs.YthjdhfoeckfmbaaGreat
namespace Go.Proofs.YthjdhfoeckfmbaaGreat
open Go
set_option linter.unusedVariables false
set_option linter.unusedSimpArgs false
set_option linter.unusedSectionVars false
def stLt (a b : Stamp) : Prop := a.T < b.T ∨ a.T = b.T ∧ a.R < b.R
theorem cmpSt_neg {a b : Stamp} : cmpSt a b < 0 ↔ stLt a b := by
  unfold cmpSt stLt
  split
  · rename_i h; simp [h]
  · rename_i h
    split
    · simp [h]
    · simp [h]
theorem cmpSt_m1 {a b : Stamp} : cmpSt a b = -1 ↔ stLt a b := by
  rw [← cmpSt_neg]
  unfold cmpSt
  split
  · simp
  · split <;> simp
section
variable {rows : List RowS} (hp : rows.Pairwise fun x y => x.node ≠ y.node) (hT : ∀ x ∈ rows, ¬ x.node.T = 0)
include hp hT
end
section
variable {rows : List RowS} (hp : rows.Pairwise fun x y => x.node ≠ y.node) (hT : ∀ x ∈ rows, ¬ x.node.T = 0)
include hp hT
end
end Go.Proofs.YthjdhfoeckfmbaaGreat
namespace Go.Proofs.YthjdhfoeckfmbaaGreat
open Go
set_option linter.unusedVariables false
set_option linter.unusedSimpArgs false
theorem rgood_f1 {o : OpS} (h : (stRight o.tm = false ∨ stRight o.node = false) ∨ (0 : Int) < cmpSt o.node o.tm) : Value.bool false = Value.bool (goodOp o) := boolF fun hh => by
  obtain ⟨h1, h2, h3⟩ := hh
  rcases h with (h | h) | h
  · rw [h1] at h; cases h
  · rw [h2] at h; cases h
  · rcases h3 with ⟨_, h3⟩ | ⟨_, h3⟩
    · have := (of_decide_eq_true h3).1; omega
    · have := (of_decide_eq_true h3).1; omega
theorem fixedSt_iff {s : Stamp} : fixedSt s = ((decide (s.T = 0) && decide (s.R = 0)) || (decide (s.T = 0) && decide (s.R = 1))) := by
  unfold fixedSt
  rw [Bool.eq_iff_iff]
  simp only [decide_eq_true_eq, Bool.or_eq_true, Bool.and_eq_true]
  omega
theorem rgood_m {o : OpS} (h : (stRight o.tm = true ∧ stRight o.node = true) ∧ ¬ (0 : Int) < cmpSt o.node o.tm) (hk : o.kind = 1) :
    Value.bool ((((((stRight o.par || (decide (o.par.T = 0) && decide (o.par.R = 0))) || (decide (o.par.T = 0) && decide (o.par.R = 1))) && nameOk o.name) && decide (o.data = zeroId)) && decide (((o.over.length : Nat) : Int) = 0))) = Value.bool (goodOp o) := by
  rw [Bool.or_assoc, ← fixedSt_iff]
  refine boolE ⟨fun hm => ⟨h.1.1, h.1.2, .inl ⟨hk, ?_⟩⟩, fun hg => ?_⟩
  · refine decide_eq_true ⟨by omega, ?_⟩
    simp only [Bool.and_eq_true, Bool.or_eq_true, decide_eq_true_eq] at hm
    exact ⟨hm.1.1.1, hm.1.1.2, hm.1.2, by have := hm.2; omega⟩
  · rcases hg.2.2 with ⟨_, hm⟩ | ⟨h2, _⟩
    · obtain ⟨_, h1, h2, h3, h4⟩ := of_decide_eq_true hm
      simp only [Bool.and_eq_true, Bool.or_eq_true, decide_eq_true_eq]
      exact ⟨⟨⟨h1, h2⟩, h3⟩, by omega⟩
    · omega
theorem cmpSt_self (s : Stamp) : cmpSt s s = 0 := cmpSt_eq (by omega) ⟨rfl, rfl⟩
theorem cmpSt_zero {a b : Stamp} : cmpSt a b = 0 ↔ a = b := by
  constructor
  · intro h
    unfold cmpSt at h
    split at h
    · cases h
    · split at h
      · rename_i h2; cases a; cases b; simp_all
      · cases h
  · rintro rfl; exact cmpSt_self a
theorem rgood_f2 {o : OpS} (h1 : ¬ o.kind = 1) (h : (((((¬ o.kind = 2 ∨ o.node = o.tm) ∨ ¬ o.par.T = 0) ∨ ¬ o.par.R = 0) ∨ ¬ o.name = ByteArray.empty) ∨ o.data = zeroId) ∨ (64 : Int) < ((o.over.length : Nat) : Int)) : Value.bool false = Value.bool (goodOp o) := boolF fun hh => by
  rcases hh.2.2 with ⟨hk, _⟩ | ⟨hk, he⟩
  · exact h1 hk
  · obtain ⟨e1, e2, e3, e4, e5, _⟩ := of_decide_eq_true he
    rcases h with (((((h | h) | h) | h) | h) | h) | h
    · exact h hk
    · rw [h, cmpSt_self] at e1; omega
    · rw [e2] at h; exact h rfl
    · rw [e2] at h; exact h rfl
    · exact h e3
    · exact e4 h
    · omega
theorem rover_t {tm : Stamp} {over : List Stamp} {k : Nat} (h : (stRight (nth over k) = true ∧ cmpSt (nth over k) tm = -1) ∧ (¬ (0 : Int) < ((k : Nat) : Int) ∨ cmpSt (nth over (k - 1)) (nth over k) = -1)) : opOverAt tm over k :=
  ⟨h.1.1, by have := h.1.2; omega, by rcases h.2 with h | h <;> omega⟩
theorem m1_of_neg {a b : Stamp} (h : cmpSt a b < 0) : cmpSt a b = -1 := cmpSt_m1.2 (cmpSt_neg.1 h)
theorem rgood_f3 {o : OpS} {k : Nat} (h1 : ¬ o.kind = 1) (hk : k < o.over.length) (h : (stRight (nth o.over k) = false ∨ ¬ cmpSt (nth o.over k) o.tm = -1) ∨ ((0 : Int) < ((k : Nat) : Int) ∧ ¬ cmpSt (nth o.over (k - 1)) (nth o.over k) = -1)) : Value.bool false = Value.bool (goodOp o) := boolF fun hh => by
  rcases hh.2.2 with ⟨hk, _⟩ | ⟨_, he⟩
  · exact h1 hk
  · obtain ⟨_, _, _, _, _, e6⟩ := of_decide_eq_true he
    obtain ⟨a1, a2, a3⟩ := e6 k hk
    rcases h with (h | h) | h
    · rw [a1] at h; cases h
    · exact h (m1_of_neg a2)
    · rcases a3 with a3 | a3
      · omega
      · exact h.2 (m1_of_neg a3)
theorem rgood_t {o : OpS} (h0 : (stRight o.tm = true ∧ stRight o.node = true) ∧ ¬ (0 : Int) < cmpSt o.node o.tm)
    (h : (((((o.kind = 2 ∧ ¬ o.node = o.tm) ∧ o.par.T = 0) ∧ o.par.R = 0) ∧ o.name = ByteArray.empty) ∧ ¬ o.data = zeroId) ∧ ¬ (64 : Int) < ((o.over.length : Nat) : Int)) (hn : ∀ i, i < o.over.length → opOverAt o.tm o.over i) : Value.bool true = Value.bool (goodOp o) := by
  refine boolT ⟨h0.1.1, h0.1.2, .inr ⟨h.1.1.1.1.1.1, decide_eq_true ⟨?_, ?_, h.1.1.2, h.1.2, by omega, hn⟩⟩⟩
  · have h1 : ¬ cmpSt o.node o.tm = 0 := fun e => h.1.1.1.1.1.2 (cmpSt_zero.1 e)
    omega
  · have h1 := h.1.1.1.1.2; have h2 := h.1.1.1.2
    cases hp : o.par with
    | mk T R => rw [hp] at h1 h2; simp at h1 h2; rw [h1, h2]
end Go.Proofs.YthjdhfoeckfmbaaGreat
namespace Go.Proofs.YthjdhfoeckfmbaaGreat
open Go
set_option maxRecDepth 100000
set_option linter.unusedVariables false
set_option linter.unusedSimpArgs false
set_option linter.unusedSectionVars false
variable [DD]
theorem cF44 : callable Tryz.prog 44 = true := by kernel_rfl
theorem cF62 : callable Tryz.prog 62 = true := by kernel_rfl
theorem cF71 : callable Tryz.prog 71 = true := by kernel_rfl
set_option maxHeartbeats 4000000 in
theorem ref03_Good (o : OpS) (w : World) (So_over : Sl (Old w) stampCh 2 o.oh o.over w) (hl : o.name.size ≤ 9223372036854775807) :
    Calls Tryz.prog 61 #[(aggOf (opCh o))] w (Ret fun v w' => v = (.bool (goodOp o)) ∧ Ext w w') := by
 refine calls_W Tryz.func61 rfl Tryz.ntmps61 rfl ?_
 have H0 := Ctx.start w nob
 have H1 := H0.addSl _ So_over (fun b hb => ⟨hb, fun _ ho => (nomatch ho)⟩)
 have LSo_over := So_over.len
 refine W_seq (W_reg ?_)
 refine O_v rfl (C_box H1 [[(.int .i64 o.kind)], [(.int .i64 o.tm.T)], [(.int .i64 o.tm.R)], [(.int .i64 o.node.T)], [(.int .i64 o.node.R)], [(.int .i64 o.par.T)], [(.int .i64 o.par.R)], [(.string o.name)], (idCells o.data), [(slV o.oh o.over)]] rfl ?_)
 intro b2 w3 hb4 hx5 H6
 refine O_as (v := (.bool false)) rfl rfl ?_
 refine O_nil (Then_n (W_seq (W_seq ?_)))
 refine W_rg [(0, .q 0), (1, .q 0), (2, .q 0), (3, .q 0), (4, .q 0), (5, .q 0), (6, .q 0), (7, .q 0), (8, .q 0), (9, .q 0), (10, .q 0), (11, .q 0), (12, .q 0), (13, .q 0), (14, .q 0), (15, .q 0), (16, .q 0), (17, .q 0)] (by kernel_rfl) ?_
 refine Lx_q rfl rfl _ (fun v7 hv8 => R_fieldAddr (off := 1) (oo := 1) Tryz.underlying72 rfl rfl Tryz.sizeOf69 rfl rfl qk) (Lx_q rfl rfl _ (fun v9 hv10 => R_loadA (cs := [[(.int .i64 o.tm.T)], [(.int .i64 o.tm.R)]]) Tryz.isAgg69 Tryz.sizeOf69 rfl rfl ((H6.ext hv10).bx 0 rfl 1 2 1 1 _ rfl rfl rfl) qk) (Lx_q rfl rfl (.bool (stRight o.tm)) (fun v11 hv12 => R_callL (vs := [(aggOf (stampCh o.tm))]) cF62 rfl rfl (ref03_Right o.tm v11 )) (Lx_q rfl rfl _ (fun v13 hv14 => R_not rfl qk) ?_)))
 refine Lx_mv (v := (.bool (!(stRight o.tm)))) rfl rfl rfl (Lx_qf rfl rfl rfl rfl rfl _ (fun hA v17 hv18 => R_fieldAddr (off := 3) (oo := 3) Tryz.underlying72 rfl rfl Tryz.sizeOf69 rfl rfl qk) (Lx_qf rfl rfl rfl rfl rfl _ (fun hA v19 hv20 => R_loadA (cs := [[(.int .i64 o.node.T)], [(.int .i64 o.node.R)]]) Tryz.isAgg69 Tryz.sizeOf69 rfl (gv_t hA) ((H6.ext hv20).bx 0 rfl 3 2 3 3 _ rfl rfl rfl) qk) (Lx_qf rfl rfl rfl rfl rfl (.bool (stRight o.node)) (fun hA v21 hv22 => R_callL (vs := [(aggOf (stampCh o.node))]) cF62 rfl (lst1 (gv_t hA)) (ref03_Right o.node v21 )) ?_)))
 refine Lx_qf rfl rfl rfl rfl rfl _ (fun hA v23 hv24 => R_not (gv_t hA) qk) (Lx_q rfl rfl _ (fun v25 hv26 => R_pick rfl pk_or qk) (Lx_mv (v := (.bool ((!(stRight o.tm)) || (!(stRight o.node))))) rfl rfl rfl (Lx_qf rfl rfl rfl rfl rfl _ (fun hA v29 hv30 => R_fieldAddr (off := 3) (oo := 3) Tryz.underlying72 rfl rfl Tryz.sizeOf69 rfl rfl qk) ?_)))
 refine Lx_qf rfl rfl rfl rfl rfl _ (fun hA v31 hv32 => R_loadA (cs := [[(.int .i64 o.node.T)], [(.int .i64 o.node.R)]]) Tryz.isAgg69 Tryz.sizeOf69 rfl (gv_t hA) ((H6.ext hv32).bx 0 rfl 3 2 3 3 _ rfl rfl rfl) qk) (Lx_qf rfl rfl rfl rfl rfl _ (fun hA v33 hv34 => R_fieldAddr (off := 1) (oo := 1) Tryz.underlying72 rfl rfl Tryz.sizeOf69 rfl rfl qk) (Lx_qf rfl rfl rfl rfl rfl _ (fun hA v35 hv36 => R_loadA (cs := [[(.int .i64 o.tm.T)], [(.int .i64 o.tm.R)]]) Tryz.isAgg69 Tryz.sizeOf69 rfl (gv_t hA) ((H6.ext hv36).bx 0 rfl 1 2 1 1 _ rfl rfl rfl) qk) (Lx_qf rfl rfl rfl rfl rfl (.int .i64 (cmpSt o.node o.tm)) (fun hA v37 hv38 => R_callL (vs := [(aggOf (stampCh o.node)), (aggOf (stampCh o.tm))]) cF44 rfl (lst2 (gv_t hA) (gv_t hA)) (ref03_Cmp o.node o.tm v37 )) ?_)))
 refine Lx_qf rfl rfl rfl rfl rfl _ (fun hA v39 hv40 => R_cmp (a := cmpSt o.node o.tm) (b := 0) (r := (decide (0 < cmpSt o.node o.tm))) (gv_t hA) rfl rfl qk) (Lx_q rfl rfl _ (fun v41 hv42 => R_pick rfl pk_or qk) ?_)
 refine Lx_nil (fun w43 hw44 => ?_)
 have H45 := H6.ext hw44
 refine Then_n ?_
 refine W_cond rfl (fun hc46 => ?_) (fun hc46 => ?_)
 ·have hc46 : (((stRight o.tm) = false ∨ (stRight o.node) = false) ∨ (0 < cmpSt o.node o.tm)) := (Or.imp (fun h => (Or.imp (fun h => (notT h)) (fun h => (notT h)) (orT h))) (fun h => (of_decide_eq_true h)) (orT hc46))
  refine W_seq (W_reg ?_)
  refine O_as (v := (.bool false)) rfl rfl ?_
  refine O_nil (Then_n (W_ret (Then_r ?_)))
  refine ret_1 (v := (.bool false)) Tryz.results61 rfl ?_
  exact ⟨(rgood_f1 (by assumption)), H45.gr⟩
 ·have hc46 : (((stRight o.tm) = true ∧ (stRight o.node) = true) ∧ ¬ (0 < cmpSt o.node o.tm)) := (And.imp (fun h => (And.imp (fun h => (notF h)) (fun h => (notF h)) (orF h))) (fun h => (of_decide_eq_false h)) (orF hc46))
  refine W_skip (Then_n (W_seq (W_reg ?_)))
  refine O_v rfl (R_buildL (vs := []) (v := aggOf [(idCells zeroId)]) rfl (fun _ => by kernel_rfl) ?_)
  refine O_v rfl (C_alloc H45 [(idCells zeroId)] Tryz.zeroValue44 ?_)
  intro b47 w48 hb49 hx50 H51
  refine O_u (C_storeW H51 0 rfl (sub := [(idCells zeroId)]) Tryz.sizeOf44 rfl rfl rfl rfl rfl ?_)
  intro w52 hg53 H54
  refine O_nil (Then_n (W_seq (W_seq (W_reg ?_))))
  refine O_v rfl (R_fieldAddr (off := 0) (oo := 0) Tryz.underlying72 rfl rfl Tryz.sizeOf3 rfl rfl ?_)
  refine O_v rfl (R_load1 (v := (.int .i64 o.kind)) Tryz.isAgg3 rfl (H54.bx 1 rfl 0 1 0 0 _ rfl rfl rfl) ?_)
  refine O_v rfl (R_cmp (a := o.kind) (b := 1) (r := (decide (o.kind = 1))) rfl rfl rfl ?_)
  refine O_nil (Then_n ?_)
  refine W_cond rfl (fun hc55 => ?_) (fun hc55 => ?_)
  ·have hc55 := (of_decide_eq_true hc55)
   refine W_seq ?_
   refine W_rg [(0, .q 0), (1, .q 0), (2, .q 0), (3, .q 0), (4, .q 0), (5, .q 0), (6, .q 0), (7, .q 0), (8, .q 0), (9, .q 0), (10, .q 0), (11, .q 0), (12, .q 0), (13, .q 0), (14, .q 0), (15, .q 0), (16, .q 0), (17, .q 0), (18, .q 0), (19, .q 0), (20, .q 0), (21, .q 0), (22, .q 0), (23, .q 0), (24, .q 0), (25, .q 0), (26, .q 0), (27, .q 0)] (by kernel_rfl) ?_
   refine Lx_q rfl rfl _ (fun v56 hv57 => R_fieldAddr (off := 5) (oo := 5) Tryz.underlying72 rfl rfl Tryz.sizeOf69 rfl rfl qk) (Lx_q rfl rfl _ (fun v58 hv59 => R_loadA (cs := [[(.int .i64 o.par.T)], [(.int .i64 o.par.R)]]) Tryz.isAgg69 Tryz.sizeOf69 rfl rfl ((H54.ext hv59).bx 1 rfl 5 2 5 5 _ rfl rfl rfl) qk) (Lx_q rfl rfl (.bool (stRight o.par)) (fun v60 hv61 => R_callL (vs := [(aggOf (stampCh o.par))]) cF62 rfl rfl (ref03_Right o.par v60 )) (Lx_mv (v := (.bool (stRight o.par))) rfl rfl rfl ?_)))
   refine Lx_qf rfl rfl rfl rfl rfl _ (fun hA v64 hv65 => R_fieldAddr (off := 5) (oo := 5) Tryz.underlying72 rfl rfl Tryz.sizeOf69 rfl rfl qk) (Lx_qf rfl rfl rfl rfl rfl _ (fun hA v66 hv67 => R_fieldAddr (off := 0) (oo := 5) Tryz.underlying69 rfl rfl Tryz.sizeOf2 (gv_t hA) rfl qk) (Lx_qf rfl rfl rfl rfl rfl _ (fun hA v68 hv69 => R_load1 (v := (.int .i64 o.par.T)) Tryz.isAgg2 (gv_t hA) ((H54.ext hv69).bx 1 rfl 5 1 5 5 _ rfl rfl rfl) qk) (Lx_qf rfl rfl rfl rfl rfl _ (fun hA v70 hv71 => R_cmp (a := o.par.T) (b := 0) (r := (decide (o.par.T = 0))) (gv_t hA) rfl rfl qk) ?_)))
   refine Lx_qf rfl rfl rfl rfl rfl _ (fun hA v72 hv73 => R_move (v := (.bool (decide (o.par.T = 0)))) (gv_t hA) qk) (Lx_gt (!(stRight o.par)) (decide (o.par.T = 0)) rfl rfl rfl rfl rfl _ (fun hA v74 hv75 => R_fieldAddr (off := 5) (oo := 5) Tryz.underlying72 rfl rfl Tryz.sizeOf69 rfl rfl qk) (Lx_gt (!(stRight o.par)) (decide (o.par.T = 0)) rfl rfl rfl rfl rfl _ (fun hA v76 hv77 => R_fieldAddr (off := 1) (oo := 6) Tryz.underlying69 rfl rfl Tryz.sizeOf3 (gv_t hA) rfl qk) (Lx_gt (!(stRight o.par)) (decide (o.par.T = 0)) rfl rfl rfl rfl rfl _ (fun hA v78 hv79 => R_load1 (v := (.int .i64 o.par.R)) Tryz.isAgg3 (gv_t hA) ((H54.ext hv79).bx 1 rfl 6 1 6 6 _ rfl rfl rfl) qk) ?_)))
   refine Lx_gt (!(stRight o.par)) (decide (o.par.T = 0)) rfl rfl rfl rfl rfl _ (fun hA v80 hv81 => R_cmp (a := o.par.R) (b := 0) (r := (decide (o.par.R = 0))) (gv_t hA) rfl rfl qk) (Lx_qf rfl rfl rfl rfl rfl _ (fun hA v82 hv83 => R_pick (gv_t hA) (pk_andA hA) qk) (Lx_q rfl rfl _ (fun v84 hv85 => R_pick rfl pk_or qk) (Lx_mv (v := (.bool ((stRight o.par) || ((decide (o.par.T = 0)) && (decide (o.par.R = 0)))))) rfl rfl rfl ?_)))
   refine Lx_qf rfl rfl rfl rfl rfl _ (fun hA v88 hv89 => R_fieldAddr (off := 5) (oo := 5) Tryz.underlying72 rfl rfl Tryz.sizeOf69 rfl rfl qk) (Lx_qf rfl rfl rfl rfl rfl _ (fun hA v90 hv91 => R_fieldAddr (off := 0) (oo := 5) Tryz.underlying69 rfl rfl Tryz.sizeOf2 (gv_t hA) rfl qk) (Lx_qf rfl rfl rfl rfl rfl _ (fun hA v92 hv93 => R_load1 (v := (.int .i64 o.par.T)) Tryz.isAgg2 (gv_t hA) ((H54.ext hv93).bx 1 rfl 5 1 5 5 _ rfl rfl rfl) qk) (Lx_qf rfl rfl rfl rfl rfl _ (fun hA v94 hv95 => R_cmp (a := o.par.T) (b := 0) (r := (decide (o.par.T = 0))) (gv_t hA) rfl rfl qk) ?_)))
   refine Lx_qf rfl rfl rfl rfl rfl _ (fun hA v96 hv97 => R_move (v := (.bool (decide (o.par.T = 0)))) (gv_t hA) qk) (Lx_gt (!((stRight o.par) || ((decide (o.par.T = 0)) && (decide (o.par.R = 0))))) (decide (o.par.T = 0)) rfl rfl rfl rfl rfl _ (fun hA v98 hv99 => R_fieldAddr (off := 5) (oo := 5) Tryz.underlying72 rfl rfl Tryz.sizeOf69 rfl rfl qk) (Lx_gt (!((stRight o.par) || ((decide (o.par.T = 0)) && (decide (o.par.R = 0))))) (decide (o.par.T = 0)) rfl rfl rfl rfl rfl _ (fun hA v100 hv101 => R_fieldAddr (off := 1) (oo := 6) Tryz.underlying69 rfl rfl Tryz.sizeOf3 (gv_t hA) rfl qk) (Lx_gt (!((stRight o.par) || ((decide (o.par.T = 0)) && (decide (o.par.R = 0))))) (decide (o.par.T = 0)) rfl rfl rfl rfl rfl _ (fun hA v102 hv103 => R_load1 (v := (.int .i64 o.par.R)) Tryz.isAgg3 (gv_t hA) ((H54.ext hv103).bx 1 rfl 6 1 6 6 _ rfl rfl rfl) qk) ?_)))
   refine Lx_gt (!((stRight o.par) || ((decide (o.par.T = 0)) && (decide (o.par.R = 0))))) (decide (o.par.T = 0)) rfl rfl rfl rfl rfl _ (fun hA v104 hv105 => R_cmp (a := o.par.R) (b := 1) (r := (decide (o.par.R = 1))) (gv_t hA) rfl rfl qk) (Lx_qf rfl rfl rfl rfl rfl _ (fun hA v106 hv107 => R_pick (gv_t hA) (pk_andA hA) qk) (Lx_q rfl rfl _ (fun v108 hv109 => R_pick rfl pk_or qk) (Lx_q rfl rfl _ (fun v110 hv111 => R_assign (v := (.bool (((stRight o.par) || ((decide (o.par.T = 0)) && (decide (o.par.R = 0)))) || ((decide (o.par.T = 0)) && (decide (o.par.R = 1)))))) rfl qk) ?_)))
   refine Lx_nil (fun w112 hw113 => ?_)
   have H114 := H54.ext hw113
   refine Then_n (W_seq ?_)
   refine W_rg [(0, .q 0), (1, .q 0), (2, .q 0), (3, .q 0), (4, .q 0), (5, .q 0), (6, .q 0), (7, .q 0), (8, .q 0), (9, .q 0), (10, .q 0), (11, .q 0), (12, .q 0), (13, .q 0), (14, .q 0), (15, .q 0), (16, .q 0), (17, .q 0), (18, .q 0)] (by kernel_rfl) ?_
   refine Lx_mv (v := (.bool (((stRight o.par) || ((decide (o.par.T = 0)) && (decide (o.par.R = 0)))) || ((decide (o.par.T = 0)) && (decide (o.par.R = 1)))))) rfl rfl rfl (Lx_mv (v := (.bool (((stRight o.par) || ((decide (o.par.T = 0)) && (decide (o.par.R = 0)))) || ((decide (o.par.T = 0)) && (decide (o.par.R = 1)))))) rfl rfl rfl (Lx_qt rfl rfl rfl rfl rfl _ (fun hA v119 hv120 => R_fieldAddr (off := 7) (oo := 7) Tryz.underlying72 rfl rfl Tryz.sizeOf9 rfl rfl qk) (Lx_qt rfl rfl rfl rfl rfl _ (fun hA v121 hv122 => R_load1 (v := (.string o.name)) Tryz.isAgg9 (gv_t hA) ((H114.ext hv122).bx 1 rfl 7 1 7 7 _ rfl rfl rfl) qk) ?_)))
   refine Lx_qt rfl rfl rfl rfl rfl (.bool (nameOk o.name)) (fun hA v123 hv124 => R_callL (vs := [(.string o.name)]) cF71 rfl (lst1 (gv_t hA)) (ref03_Name o.name v123 hl)) (Lx_q rfl rfl _ (fun v125 hv126 => R_pick rfl pk_and qk) (Lx_mv (v := (.bool ((((stRight o.par) || ((decide (o.par.T = 0)) && (decide (o.par.R = 0)))) || ((decide (o.par.T = 0)) && (decide (o.par.R = 1)))) && (nameOk o.name)))) rfl rfl rfl (Lx_qt rfl rfl rfl rfl rfl _ (fun hA v129 hv130 => R_fieldAddr (off := 8) (oo := 8) Tryz.underlying72 rfl rfl Tryz.sizeOf45 rfl rfl qk) ?_)))
   refine Lx_qt rfl rfl rfl rfl rfl _ (fun hA v131 hv132 => R_loadA (cs := [(idCells o.data)]) Tryz.isAgg45 Tryz.sizeOf45 rfl (gv_t hA) ((H114.ext hv132).bx 1 rfl 8 1 8 8 _ rfl rfl rfl) qk) (Lx_qt rfl rfl rfl rfl rfl _ (fun hA v133 hv134 => R_loadA (cs := [(idCells zeroId)]) Tryz.isAgg44 Tryz.sizeOf44 rfl rfl ((H114.ext hv134).bx 0 rfl 0 1 0 0 _ rfl rfl rfl) qk) (Lx_qt rfl rfl rfl rfl rfl _ (fun hA v135 hv136 => R_eqv (a := o.data) (b := zeroId) eqv_ID45 rfl Tryz.eqGuardType45 (gv_t hA) (gv_t hA) qk) (Lx_q rfl rfl _ (fun v137 hv138 => R_pick rfl pk_and qk) ?_)))
   refine Lx_mv (v := (.bool (((((stRight o.par) || ((decide (o.par.T = 0)) && (decide (o.par.R = 0)))) || ((decide (o.par.T = 0)) && (decide (o.par.R = 1)))) && (nameOk o.name)) && (decide (o.data = zeroId))))) rfl rfl rfl (Lx_qt rfl rfl rfl rfl rfl _ (fun hA v141 hv142 => R_fieldAddr (off := 40) (oo := 40) Tryz.underlying72 rfl rfl Tryz.sizeOf70 rfl rfl qk) (Lx_qt rfl rfl rfl rfl rfl _ (fun hA v143 hv144 => R_load1 (v := (slV o.oh o.over)) Tryz.isAgg70 (gv_t hA) ((H114.ext hv144).bx 1 rfl 9 1 40 40 _ rfl rfl rfl) qk) (Lx_qt rfl rfl rfl rfl rfl _ (fun hA v145 hv146 => R_len_slice (a := o.oh.a) (n := o.over.length) (c := o.oh.c) Tryz.underlying70 (gv_t hA) qk) ?_)))
   refine Lx_qt rfl rfl rfl rfl rfl _ (fun hA v147 hv148 => R_cmp (a := (o.over.length : Int)) (b := 0) (r := (decide ((o.over.length : Int) = 0))) (gv_t hA) rfl rfl qk) (Lx_q rfl rfl _ (fun v149 hv150 => R_pick rfl pk_and qk) (Lx_q rfl rfl _ (fun v151 hv152 => R_assign (v := (.bool ((((((stRight o.par) || ((decide (o.par.T = 0)) && (decide (o.par.R = 0)))) || ((decide (o.par.T = 0)) && (decide (o.par.R = 1)))) && (nameOk o.name)) && (decide (o.data = zeroId))) && (decide ((o.over.length : Int) = 0))))) rfl qk) ?_))
   refine Lx_nil (fun w153 hw154 => ?_)
   have H155 := H114.ext hw154
   refine Then_n (W_ret (Then_r ?_))
   refine ret_1 (v := (.bool ((((((stRight o.par) || ((decide (o.par.T = 0)) && (decide (o.par.R = 0)))) || ((decide (o.par.T = 0)) && (decide (o.par.R = 1)))) && (nameOk o.name)) && (decide (o.data = zeroId))) && (decide ((o.over.length : Int) = 0))))) Tryz.results61 rfl ?_
   exact ⟨(rgood_m (by assumption) (by assumption)), H155.gr⟩
  ·have hc55 := (of_decide_eq_false hc55)
   refine W_skip (Then_n (W_seq (W_seq ?_)))
   refine W_rg [(0, .q 0), (1, .q 0), (2, .q 0), (3, .q 0), (4, .q 0), (5, .q 0), (6, .q 0), (7, .q 0), (8, .q 0), (9, .q 0), (10, .q 0), (11, .q 0), (12, .q 0), (13, .q 0), (14, .q 0), (15, .q 0), (16, .q 0), (17, .q 0), (18, .q 0), (19, .q 0), (20, .q 0), (21, .q 0), (22, .q 0), (23, .q 0), (24, .q 0), (25, .q 0), (26, .q 0), (27, .q 0), (28, .q 0), (29, .q 0), (30, .q 0), (31, .q 0), (32, .q 0), (33, .q 0), (34, .q 0), (35, .q 0), (36, .q 0), (37, .q 0), (38, .q 0)] (by kernel_rfl) ?_
   refine Lx_q rfl rfl _ (fun v156 hv157 => R_fieldAddr (off := 0) (oo := 0) Tryz.underlying72 rfl rfl Tryz.sizeOf3 rfl rfl qk) (Lx_q rfl rfl _ (fun v158 hv159 => R_load1 (v := (.int .i64 o.kind)) Tryz.isAgg3 rfl ((H54.ext hv159).bx 1 rfl 0 1 0 0 _ rfl rfl rfl) qk) (Lx_q rfl rfl _ (fun v160 hv161 => R_cmp (a := o.kind) (b := 2) (r := (!(decide (o.kind = 2)))) rfl rfl rfl qk) (Lx_mv (v := (.bool (!(decide (o.kind = 2))))) rfl rfl rfl ?_)))
   refine Lx_qf rfl rfl rfl rfl rfl _ (fun hA v164 hv165 => R_fieldAddr (off := 3) (oo := 3) Tryz.underlying72 rfl rfl Tryz.sizeOf69 rfl rfl qk) (Lx_qf rfl rfl rfl rfl rfl _ (fun hA v166 hv167 => R_loadA (cs := [[(.int .i64 o.node.T)], [(.int .i64 o.node.R)]]) Tryz.isAgg69 Tryz.sizeOf69 rfl (gv_t hA) ((H54.ext hv167).bx 1 rfl 3 2 3 3 _ rfl rfl rfl) qk) (Lx_qf rfl rfl rfl rfl rfl _ (fun hA v168 hv169 => R_fieldAddr (off := 1) (oo := 1) Tryz.underlying72 rfl rfl Tryz.sizeOf69 rfl rfl qk) (Lx_qf rfl rfl rfl rfl rfl _ (fun hA v170 hv171 => R_loadA (cs := [[(.int .i64 o.tm.T)], [(.int .i64 o.tm.R)]]) Tryz.isAgg69 Tryz.sizeOf69 rfl (gv_t hA) ((H54.ext hv171).bx 1 rfl 1 2 1 1 _ rfl rfl rfl) qk) ?_)))
   refine Lx_qf rfl rfl rfl rfl rfl _ (fun hA v172 hv173 => R_eqv (a := o.node) (b := o.tm) eqv_Stamp69 rfl Tryz.eqGuardType69 (gv_t hA) (gv_t hA) qk) (Lx_q rfl rfl _ (fun v174 hv175 => R_pick rfl pk_or qk) (Lx_mv (v := (.bool ((!(decide (o.kind = 2))) || (decide (o.node = o.tm))))) rfl rfl rfl (Lx_qf rfl rfl rfl rfl rfl _ (fun hA v178 hv179 => R_fieldAddr (off := 5) (oo := 5) Tryz.underlying72 rfl rfl Tryz.sizeOf69 rfl rfl qk) ?_)))
   refine Lx_qf rfl rfl rfl rfl rfl _ (fun hA v180 hv181 => R_fieldAddr (off := 0) (oo := 5) Tryz.underlying69 rfl rfl Tryz.sizeOf2 (gv_t hA) rfl qk) (Lx_qf rfl rfl rfl rfl rfl _ (fun hA v182 hv183 => R_load1 (v := (.int .i64 o.par.T)) Tryz.isAgg2 (gv_t hA) ((H54.ext hv183).bx 1 rfl 5 1 5 5 _ rfl rfl rfl) qk) (Lx_qf rfl rfl rfl rfl rfl _ (fun hA v184 hv185 => R_cmp (a := o.par.T) (b := 0) (r := (!(decide (o.par.T = 0)))) (gv_t hA) rfl rfl qk) (Lx_q rfl rfl _ (fun v186 hv187 => R_pick rfl pk_or qk) ?_)))
   refine Lx_mv (v := (.bool (((!(decide (o.kind = 2))) || (decide (o.node = o.tm))) || (!(decide (o.par.T = 0)))))) rfl rfl rfl (Lx_qf rfl rfl rfl rfl rfl _ (fun hA v190 hv191 => R_fieldAddr (off := 5) (oo := 5) Tryz.underlying72 rfl rfl Tryz.sizeOf69 rfl rfl qk) (Lx_qf rfl rfl rfl rfl rfl _ (fun hA v192 hv193 => R_fieldAddr (off := 1) (oo := 6) Tryz.underlying69 rfl rfl Tryz.sizeOf3 (gv_t hA) rfl qk) (Lx_qf rfl rfl rfl rfl rfl _ (fun hA v194 hv195 => R_load1 (v := (.int .i64 o.par.R)) Tryz.isAgg3 (gv_t hA) ((H54.ext hv195).bx 1 rfl 6 1 6 6 _ rfl rfl rfl) qk) ?_)))
   refine Lx_qf rfl rfl rfl rfl rfl _ (fun hA v196 hv197 => R_cmp (a := o.par.R) (b := 0) (r := (!(decide (o.par.R = 0)))) (gv_t hA) rfl rfl qk) (Lx_q rfl rfl _ (fun v198 hv199 => R_pick rfl pk_or qk) (Lx_mv (v := (.bool ((((!(decide (o.kind = 2))) || (decide (o.node = o.tm))) || (!(decide (o.par.T = 0)))) || (!(decide (o.par.R = 0)))))) rfl rfl rfl (Lx_qf rfl rfl rfl rfl rfl _ (fun hA v202 hv203 => R_fieldAddr (off := 7) (oo := 7) Tryz.underlying72 rfl rfl Tryz.sizeOf9 rfl rfl qk) ?_)))
   refine Lx_qf rfl rfl rfl rfl rfl _ (fun hA v204 hv205 => R_load1 (v := (.string o.name)) Tryz.isAgg9 (gv_t hA) ((H54.ext hv205).bx 1 rfl 7 1 7 7 _ rfl rfl rfl) qk) (Lx_qf rfl rfl rfl rfl rfl _ (fun hA v206 hv207 => R_cmpS (a := o.name) (b := ByteArray.empty) (r := (!(decide (o.name = ByteArray.empty)))) (gv_t hA) rfl rfl qk) (Lx_q rfl rfl _ (fun v208 hv209 => R_pick rfl pk_or qk) (Lx_mv (v := (.bool (((((!(decide (o.kind = 2))) || (decide (o.node = o.tm))) || (!(decide (o.par.T = 0)))) || (!(decide (o.par.R = 0)))) || (!(decide (o.name = ByteArray.empty)))))) rfl rfl rfl ?_)))
   refine Lx_qf rfl rfl rfl rfl rfl _ (fun hA v212 hv213 => R_fieldAddr (off := 8) (oo := 8) Tryz.underlying72 rfl rfl Tryz.sizeOf45 rfl rfl qk) (Lx_qf rfl rfl rfl rfl rfl _ (fun hA v214 hv215 => R_loadA (cs := [(idCells o.data)]) Tryz.isAgg45 Tryz.sizeOf45 rfl (gv_t hA) ((H54.ext hv215).bx 1 rfl 8 1 8 8 _ rfl rfl rfl) qk) (Lx_qf rfl rfl rfl rfl rfl _ (fun hA v216 hv217 => R_loadA (cs := [(idCells zeroId)]) Tryz.isAgg44 Tryz.sizeOf44 rfl rfl ((H54.ext hv217).bx 0 rfl 0 1 0 0 _ rfl rfl rfl) qk) (Lx_qf rfl rfl rfl rfl rfl _ (fun hA v218 hv219 => R_eqv (a := o.data) (b := zeroId) eqv_ID45 rfl Tryz.eqGuardType45 (gv_t hA) (gv_t hA) qk) ?_)))
   refine Lx_q rfl rfl _ (fun v220 hv221 => R_pick rfl pk_or qk) (Lx_mv (v := (.bool ((((((!(decide (o.kind = 2))) || (decide (o.node = o.tm))) || (!(decide (o.par.T = 0)))) || (!(decide (o.par.R = 0)))) || (!(decide (o.name = ByteArray.empty)))) || (decide (o.data = zeroId))))) rfl rfl rfl (Lx_qf rfl rfl rfl rfl rfl _ (fun hA v224 hv225 => R_fieldAddr (off := 40) (oo := 40) Tryz.underlying72 rfl rfl Tryz.sizeOf70 rfl rfl qk) (Lx_qf rfl rfl rfl rfl rfl _ (fun hA v226 hv227 => R_load1 (v := (slV o.oh o.over)) Tryz.isAgg70 (gv_t hA) ((H54.ext hv227).bx 1 rfl 9 1 40 40 _ rfl rfl rfl) qk) ?_)))
   refine Lx_qf rfl rfl rfl rfl rfl _ (fun hA v228 hv229 => R_len_slice (a := o.oh.a) (n := o.over.length) (c := o.oh.c) Tryz.underlying70 (gv_t hA) qk) (Lx_qf rfl rfl rfl rfl rfl _ (fun hA v230 hv231 => R_cmp (a := (o.over.length : Int)) (b := 64) (r := (decide (64 < (o.over.length : Int)))) (gv_t hA) rfl rfl qk) (Lx_q rfl rfl _ (fun v232 hv233 => R_pick rfl pk_or qk) ?_))
   refine Lx_nil (fun w234 hw235 => ?_)
   have H236 := H54.ext hw235
   refine Then_n ?_
   refine W_cond rfl (fun hc237 => ?_) (fun hc237 => ?_)
   ·have hc237 : ((((((¬ (o.kind = 2) ∨ (o.node = o.tm)) ∨ ¬ (o.par.T = 0)) ∨ ¬ (o.par.R = 0)) ∨ ¬ (o.name = ByteArray.empty)) ∨ (o.data = zeroId)) ∨ (64 < (o.over.length : Int))) := (Or.imp (fun h => (Or.imp (fun h => (Or.imp (fun h => (Or.imp (fun h => (Or.imp (fun h => (Or.imp (fun h => (of_decide_eq_false (notT h))) (fun h => (of_decide_eq_true h)) (orT h))) (fun h => (of_decide_eq_false (notT h))) (orT h))) (fun h => (of_decide_eq_false (notT h))) (orT h))) (fun h => (of_decide_eq_false (notT h))) (orT h))) (fun h => (of_decide_eq_true h)) (orT h))) (fun h => (of_decide_eq_true h)) (orT hc237))
    refine W_seq (W_reg ?_)
    refine O_as (v := (.bool false)) rfl rfl ?_
    refine O_nil (Then_n (W_ret (Then_r ?_)))
    refine ret_1 (v := (.bool false)) Tryz.results61 rfl ?_
    exact ⟨(rgood_f2 (by assumption) (by assumption)), H236.gr⟩
   ·have hc237 : (((((((o.kind = 2) ∧ ¬ (o.node = o.tm)) ∧ (o.par.T = 0)) ∧ (o.par.R = 0)) ∧ (o.name = ByteArray.empty)) ∧ ¬ (o.data = zeroId)) ∧ ¬ (64 < (o.over.length : Int))) := (And.imp (fun h => (And.imp (fun h => (And.imp (fun h => (And.imp (fun h => (And.imp (fun h => (And.imp (fun h => (of_decide_eq_true (notF h))) (fun h => (of_decide_eq_false h)) (orF h))) (fun h => (of_decide_eq_true (notF h))) (orF h))) (fun h => (of_decide_eq_true (notF h))) (orF h))) (fun h => (of_decide_eq_true (notF h))) (orF h))) (fun h => (of_decide_eq_false h)) (orF h))) (fun h => (of_decide_eq_false h)) (orF hc237))
    refine W_skip (Then_n (W_seq (W_seq (W_reg ?_))))
    refine O_as (v := (.int .i64 0)) rfl rfl ?_
    refine O_nil (Then_n (W_block ?_))
    refine W_loop (fun m238 e239 w240 => ∃ (k : Nat), m238 = o.over.length - k ∧ (k ≤ o.over.length) ∧ (∀ i, i < k → opOverAt o.tm o.over i) ∧ ∃ eb241, e239 = envL [(1, (.pointer (some ⟨b2, 0, none⟩))), (5, (.int .i64 (k : Int)))] eb241 ∧ Ctx w nob w240 [boxR b47 44 [(idCells zeroId)], boxR b2 72 [[(.int .i64 o.kind)], [(.int .i64 o.tm.T)], [(.int .i64 o.tm.R)], [(.int .i64 o.node.T)], [(.int .i64 o.node.R)], [(.int .i64 o.par.T)], [(.int .i64 o.par.R)], [(.string o.name)], (idCells o.data), [(slV o.oh o.over)]]] [slI (Old w) stampCh 2 o.oh o.over]) _ ⟨0, rfl, (by omega), (all_zero _), _, envL_self ⟨rfl, rfl, trivial⟩, H236⟩ ?_
    rintro m238 _ w240 ⟨k, rfl, hk, hn, eb241, rfl, H242⟩
    refine W_seq (W_seq (W_reg ?_))
    refine O_mv (v := (.int .i64 (k : Int))) rfl rfl ?_
    refine O_v rfl (R_fieldAddr (off := 40) (oo := 40) Tryz.underlying72 rfl rfl Tryz.sizeOf70 rfl rfl ?_)
    refine O_v rfl (R_load1 (v := (slV o.oh o.over)) Tryz.isAgg70 rfl (H242.bx 1 rfl 9 1 40 40 _ rfl rfl rfl) ?_)
    refine O_v rfl (R_len_slice (a := o.oh.a) (n := o.over.length) (c := o.oh.c) Tryz.underlying70 rfl ?_)
    refine O_v rfl (R_cmp (a := (k : Int)) (b := (o.over.length : Int)) (r := (decide ((k : Int) < (o.over.length : Int)))) rfl rfl rfl ?_)
    refine O_nil (Then_n ?_)
    refine W_cond rfl (fun hc243 => ?_) (fun hc243 => ?_)
    ·have hc243 := (of_decide_eq_true hc243)
     refine W_skip (Then_n (W_seq (W_block (W_seq ?_))))
     refine W_rgd TryzMixed [(0, .q 0), (1, .q 0), (2, .q 0), (3, .q 0), (4, .q 0), (5, .q 0), (6, .q 0), (7, .q 0), (8, .q 0), (9, .q 0), (10, .q 0), (11, .q 0), (12, .q 0), (13, .q 0), (14, .q 0), (15, .q 0), (16, .q 0), (17, .q 0), (18, .q 0), (19, .q 0), (20, .q 0), (21, .q 0), (22, .q 0), (23, .q 0), (24, .q 0), (25, .q 0), (26, .q 0), (27, .q 0), (28, .q 0), (29, .q 0), (30, .q 0), (31, .q 0), (32, .q 0), (33, .q 0), (34, .q 0), (35, .q 0), (36, .q 0)] (by kernel_rfl) ?_
     refine Lx_q rfl rfl _ (fun v244 hv245 => R_fieldAddr (off := 40) (oo := 40) Tryz.underlying72 rfl rfl Tryz.sizeOf70 rfl rfl qk) (Lx_q rfl rfl _ (fun v246 hv247 => R_load1 (v := (slV o.oh o.over)) Tryz.isAgg70 rfl ((H242.ext hv247).bx 1 rfl 9 1 40 40 _ rfl rfl rfl) qk) (Lx_mv (v := (.int .i64 (k : Int))) rfl rfl rfl (Lx_q rfl rfl _ (fun v250 hv251 => R_index_pure (H242.sl 0 rfl) (n := o.over.length) rfl (j := (k : Int)) (oo := (o.oh.o + k * 2)) Tryz.underlying70 Tryz.sizeOf69 rfl rfl (by omega) (by omega) rfl qk) ?_)))
     refine Lx_q rfl rfl _ (fun v252 hv253 => R_loadA (cs := [[(.int .i64 ((nth o.over k).T))], [(.int .i64 ((nth o.over k).R))]]) Tryz.isAgg69 Tryz.sizeOf69 rfl rfl ((Sl.elem ((H242.ext hv253).sl 0 rfl) (i := k) (by omega) rfl).chunks 0 2 0 (o.oh.o + k * 2) _ rfl rfl rfl) qk) (Lx_q rfl rfl (.bool (stRight (nth o.over k))) (fun v254 hv255 => R_callL (vs := [(aggOf (stampCh (nth o.over k)))]) cF62 rfl rfl (ref03_Right (nth o.over k) v254 )) (Lx_q rfl rfl _ (fun v256 hv257 => R_not rfl qk) (Lx_mv (v := (.bool (!(stRight (nth o.over k))))) rfl rfl rfl ?_)))
     refine Lx_qf rfl rfl rfl rfl rfl _ (fun hA v260 hv261 => R_fieldAddr (off := 40) (oo := 40) Tryz.underlying72 rfl rfl Tryz.sizeOf70 rfl rfl qk) (Lx_qf rfl rfl rfl rfl rfl _ (fun hA v262 hv263 => R_load1 (v := (slV o.oh o.over)) Tryz.isAgg70 (gv_t hA) ((H242.ext hv263).bx 1 rfl 9 1 40 40 _ rfl rfl rfl) qk) (Lx_qf rfl rfl rfl rfl rfl _ (fun hA v264 hv265 => R_move (v := (.int .i64 (k : Int))) rfl qk) ?_))
     refine Lx_qf rfl rfl rfl rfl rfl _ (fun hA v266 hv267 => by
              have hP : (stRight (nth o.over k)) = true := (notF (notT hA))
              exact R_index_pure (H242.sl 0 rfl) (n := o.over.length) rfl (j := (k : Int)) (oo := (o.oh.o + k * 2)) Tryz.underlying70 Tryz.sizeOf69 (gv_t hA) (gv_t hA) (by omega) (by omega) rfl qk) ?_
     refine Lx_qf rfl rfl rfl rfl rfl _ (fun hA v268 hv269 => by
              have hP : (stRight (nth o.over k)) = true := (notF (notT hA))
              exact R_loadA (cs := [[(.int .i64 ((nth o.over k).T))], [(.int .i64 ((nth o.over k).R))]]) Tryz.isAgg69 Tryz.sizeOf69 rfl (gv_t hA) ((Sl.elem ((H242.ext hv269).sl 0 rfl) (i := k) (by omega) rfl).chunks 0 2 0 (o.oh.o + k * 2) _ rfl rfl rfl) qk) ?_
     refine Lx_qf rfl rfl rfl rfl rfl _ (fun hA v270 hv271 => R_fieldAddr (off := 1) (oo := 1) Tryz.underlying72 rfl rfl Tryz.sizeOf69 rfl rfl qk) (Lx_qf rfl rfl rfl rfl rfl _ (fun hA v272 hv273 => R_loadA (cs := [[(.int .i64 o.tm.T)], [(.int .i64 o.tm.R)]]) Tryz.isAgg69 Tryz.sizeOf69 rfl (gv_t hA) ((H242.ext hv273).bx 1 rfl 1 2 1 1 _ rfl rfl rfl) qk) (Lx_qf rfl rfl rfl rfl rfl (.int .i64 (cmpSt (nth o.over k) o.tm)) (fun hA v274 hv275 => R_callL (vs := [(aggOf (stampCh (nth o.over k))), (aggOf (stampCh o.tm))]) cF44 rfl (lst2 (gv_t hA) (gv_t hA)) (ref03_Cmp (nth o.over k) o.tm v274 )) (Lx_qf rfl rfl rfl rfl rfl _ (fun hA v276 hv277 => R_cmp (a := cmpSt (nth o.over k) o.tm) (b := (-1)) (r := (!(decide (cmpSt (nth o.over k) o.tm = (-1))))) (gv_t hA) rfl rfl qk) ?_)))
     refine Lx_q rfl rfl _ (fun v278 hv279 => R_pick rfl pk_or qk) (Lx_mv (v := (.bool ((!(stRight (nth o.over k))) || (!(decide (cmpSt (nth o.over k) o.tm = (-1))))))) rfl rfl rfl (Lx_qf rfl rfl rfl rfl rfl _ (fun hA v282 hv283 => R_move (v := (.int .i64 (k : Int))) rfl qk) (Lx_qf rfl rfl rfl rfl rfl _ (fun hA v284 hv285 => R_cmp (a := (k : Int)) (b := 0) (r := (decide (0 < (k : Int)))) (gv_t hA) rfl rfl qk) ?_)))
     refine Lx_qf rfl rfl rfl rfl rfl _ (fun hA v286 hv287 => R_move (v := (.bool (decide (0 < (k : Int))))) (gv_t hA) qk) (Lx_gt (!((!(stRight (nth o.over k))) || (!(decide (cmpSt (nth o.over k) o.tm = (-1)))))) (decide (0 < (k : Int))) rfl rfl rfl rfl rfl _ (fun hA v288 hv289 => R_fieldAddr (off := 40) (oo := 40) Tryz.underlying72 rfl rfl Tryz.sizeOf70 rfl rfl qk) (Lx_gt (!((!(stRight (nth o.over k))) || (!(decide (cmpSt (nth o.over k) o.tm = (-1)))))) (decide (0 < (k : Int))) rfl rfl rfl rfl rfl _ (fun hA v290 hv291 => R_load1 (v := (slV o.oh o.over)) Tryz.isAgg70 (gv_t hA) ((H242.ext hv291).bx 1 rfl 9 1 40 40 _ rfl rfl rfl) qk) (Lx_gt (!((!(stRight (nth o.over k))) || (!(decide (cmpSt (nth o.over k) o.tm = (-1)))))) (decide (0 < (k : Int))) rfl rfl rfl rfl rfl _ (fun hA v292 hv293 => R_move (v := (.int .i64 (k : Int))) rfl qk) ?_)))
     refine Lx_gt (!((!(stRight (nth o.over k))) || (!(decide (cmpSt (nth o.over k) o.tm = (-1)))))) (decide (0 < (k : Int))) rfl rfl rfl rfl rfl _ (fun hA v294 hv295 => by
              have hP : (((stRight (nth o.over k)) = true ∧ (cmpSt (nth o.over k) o.tm = (-1))) ∧ (0 < (k : Int))) := (And.imp (fun h => (And.imp (fun h => (notF h)) (fun h => (of_decide_eq_true (notF h))) (orF (notT h)))) (fun h => (of_decide_eq_true h)) (andT hA))
              exact R_arith (a := (k : Int)) (b := 1) (r0 := (k : Int) - 1) (r := ((k - 1 : Nat) : Int)) (gv_t hA) rfl rfl (wrapP _ (by omega) (by omega)) qk) ?_
     refine Lx_gt (!((!(stRight (nth o.over k))) || (!(decide (cmpSt (nth o.over k) o.tm = (-1)))))) (decide (0 < (k : Int))) rfl rfl rfl rfl rfl _ (fun hA v296 hv297 => by
              have hP : (((stRight (nth o.over k)) = true ∧ (cmpSt (nth o.over k) o.tm = (-1))) ∧ (0 < (k : Int))) := (And.imp (fun h => (And.imp (fun h => (notF h)) (fun h => (of_decide_eq_true (notF h))) (orF (notT h)))) (fun h => (of_decide_eq_true h)) (andT hA))
              exact R_index_pure (H242.sl 0 rfl) (n := o.over.length) rfl (j := ((k - 1 : Nat) : Int)) (oo := (o.oh.o + (k - 1) * 2)) Tryz.underlying70 Tryz.sizeOf69 (gv_t hA) (gv_t hA) (by omega) (by omega) rfl qk) ?_
     refine Lx_gt (!((!(stRight (nth o.over k))) || (!(decide (cmpSt (nth o.over k) o.tm = (-1)))))) (decide (0 < (k : Int))) rfl rfl rfl rfl rfl _ (fun hA v298 hv299 => by
              have hP : (((stRight (nth o.over k)) = true ∧ (cmpSt (nth o.over k) o.tm = (-1))) ∧ (0 < (k : Int))) := (And.imp (fun h => (And.imp (fun h => (notF h)) (fun h => (of_decide_eq_true (notF h))) (orF (notT h)))) (fun h => (of_decide_eq_true h)) (andT hA))
              exact R_loadA (cs := [[(.int .i64 ((nth o.over (k - 1)).T))], [(.int .i64 ((nth o.over (k - 1)).R))]]) Tryz.isAgg69 Tryz.sizeOf69 rfl (gv_t hA) ((Sl.elem ((H242.ext hv299).sl 0 rfl) (i := (k - 1)) (by omega) rfl).chunks 0 2 0 (o.oh.o + (k - 1) * 2) _ rfl rfl rfl) qk) ?_
     refine Lx_gt (!((!(stRight (nth o.over k))) || (!(decide (cmpSt (nth o.over k) o.tm = (-1)))))) (decide (0 < (k : Int))) rfl rfl rfl rfl rfl _ (fun hA v300 hv301 => R_fieldAddr (off := 40) (oo := 40) Tryz.underlying72 rfl rfl Tryz.sizeOf70 rfl rfl qk) (Lx_gt (!((!(stRight (nth o.over k))) || (!(decide (cmpSt (nth o.over k) o.tm = (-1)))))) (decide (0 < (k : Int))) rfl rfl rfl rfl rfl _ (fun hA v302 hv303 => R_load1 (v := (slV o.oh o.over)) Tryz.isAgg70 (gv_t hA) ((H242.ext hv303).bx 1 rfl 9 1 40 40 _ rfl rfl rfl) qk) (Lx_gt (!((!(stRight (nth o.over k))) || (!(decide (cmpSt (nth o.over k) o.tm = (-1)))))) (decide (0 < (k : Int))) rfl rfl rfl rfl rfl _ (fun hA v304 hv305 => R_move (v := (.int .i64 (k : Int))) rfl qk) ?_))
     refine Lx_gt (!((!(stRight (nth o.over k))) || (!(decide (cmpSt (nth o.over k) o.tm = (-1)))))) (decide (0 < (k : Int))) rfl rfl rfl rfl rfl _ (fun hA v306 hv307 => by
              have hP : (((stRight (nth o.over k)) = true ∧ (cmpSt (nth o.over k) o.tm = (-1))) ∧ (0 < (k : Int))) := (And.imp (fun h => (And.imp (fun h => (notF h)) (fun h => (of_decide_eq_true (notF h))) (orF (notT h)))) (fun h => (of_decide_eq_true h)) (andT hA))
              exact R_index_pure (H242.sl 0 rfl) (n := o.over.length) rfl (j := (k : Int)) (oo := (o.oh.o + k * 2)) Tryz.underlying70 Tryz.sizeOf69 (gv_t hA) (gv_t hA) (by omega) (by omega) rfl qk) ?_
     refine Lx_gt (!((!(stRight (nth o.over k))) || (!(decide (cmpSt (nth o.over k) o.tm = (-1)))))) (decide (0 < (k : Int))) rfl rfl rfl rfl rfl _ (fun hA v308 hv309 => by
              have hP : (((stRight (nth o.over k)) = true ∧ (cmpSt (nth o.over k) o.tm = (-1))) ∧ (0 < (k : Int))) := (And.imp (fun h => (And.imp (fun h => (notF h)) (fun h => (of_decide_eq_true (notF h))) (orF (notT h)))) (fun h => (of_decide_eq_true h)) (andT hA))
              exact R_loadA (cs := [[(.int .i64 ((nth o.over k).T))], [(.int .i64 ((nth o.over k).R))]]) Tryz.isAgg69 Tryz.sizeOf69 rfl (gv_t hA) ((Sl.elem ((H242.ext hv309).sl 0 rfl) (i := k) (by omega) rfl).chunks 0 2 0 (o.oh.o + k * 2) _ rfl rfl rfl) qk) ?_
     refine Lx_gt (!((!(stRight (nth o.over k))) || (!(decide (cmpSt (nth o.over k) o.tm = (-1)))))) (decide (0 < (k : Int))) rfl rfl rfl rfl rfl (.int .i64 (cmpSt (nth o.over (k - 1)) (nth o.over k))) (fun hA v310 hv311 => R_callL (vs := [(aggOf (stampCh (nth o.over (k - 1)))), (aggOf (stampCh (nth o.over k)))]) cF44 rfl (lst2 (gv_t hA) (gv_t hA)) (ref03_Cmp (nth o.over (k - 1)) (nth o.over k) v310 )) (Lx_gt (!((!(stRight (nth o.over k))) || (!(decide (cmpSt (nth o.over k) o.tm = (-1)))))) (decide (0 < (k : Int))) rfl rfl rfl rfl rfl _ (fun hA v312 hv313 => R_cmp (a := cmpSt (nth o.over (k - 1)) (nth o.over k)) (b := (-1)) (r := (!(decide (cmpSt (nth o.over (k - 1)) (nth o.over k) = (-1))))) (gv_t hA) rfl rfl qk) (Lx_qf rfl rfl rfl rfl rfl _ (fun hA v314 hv315 => R_pick (gv_t hA) (pk_andA hA) qk) (Lx_q rfl rfl _ (fun v316 hv317 => R_pick rfl pk_or qk) ?_)))
     refine Lx_nil (fun w318 hw319 => ?_)
     have H320 := H242.ext hw319
     refine Then_n ?_
     refine W_cond rfl (fun hc321 => ?_) (fun hc321 => ?_)
     ·have hc321 : (((stRight (nth o.over k)) = false ∨ ¬ (cmpSt (nth o.over k) o.tm = (-1))) ∨ ((0 < (k : Int)) ∧ ¬ (cmpSt (nth o.over (k - 1)) (nth o.over k) = (-1)))) := (Or.imp (fun h => (Or.imp (fun h => (notT h)) (fun h => (of_decide_eq_false (notT h))) (orT h))) (fun h => (And.imp (fun h => (of_decide_eq_true h)) (fun h => (of_decide_eq_false (notT h))) (andT h))) (orT hc321))
      refine W_seq (W_reg ?_)
      refine O_as (v := (.bool false)) rfl rfl ?_
      refine O_nil (Then_n (W_ret (Blk_r (Then_r (Then_r (Blk_r (Then_r ?_)))))))
      refine ret_1 (v := (.bool false)) Tryz.results61 rfl ?_
      exact ⟨(rgood_f3 (k := k) (by assumption) (by omega) (by assumption)), H320.gr⟩
     ·have hc321 : (((stRight (nth o.over k)) = true ∧ (cmpSt (nth o.over k) o.tm = (-1))) ∧ (¬ (0 < (k : Int)) ∨ (cmpSt (nth o.over (k - 1)) (nth o.over k) = (-1)))) := (And.imp (fun h => (And.imp (fun h => (notF h)) (fun h => (of_decide_eq_true (notF h))) (orF h))) (fun h => (Or.imp (fun h => (of_decide_eq_false h)) (fun h => (of_decide_eq_true (notF h))) (andF h))) (orF hc321))
      refine W_skip (Blk_n (Then_n (W_reg ?_)))
      refine O_mv (v := (.int .i64 (k : Int))) rfl rfl ?_
      refine O_v rfl (R_arith (a := (k : Int)) (b := 1) (r0 := (k : Int) + 1) (r := ((k + 1 : Nat) : Int)) rfl rfl rfl (wrapN _ (by omega)) ?_)
      refine O_as (v := (.int .i64 ((k + 1 : Nat) : Int))) rfl rfl ?_
      refine O_nil (Then_n ?_)
      refine ⟨_, ?_, (k + 1), rfl, (by omega), (all_succ hn (rover_t (by assumption))), _, envL_self ⟨rfl, rfl, trivial⟩, H320⟩
      omega
    ·have hc243 := (of_decide_eq_false hc243)
     refine W_exit (Then_x (Then_x (Blk_x (Then_n (W_seq (W_reg ?_))))))
     refine O_as (v := (.bool true)) rfl rfl ?_
     refine O_nil (Then_n (W_ret ?_))
     refine ret_1 (v := (.bool true)) Tryz.results61 rfl ?_
     exact ⟨(rgood_t (by assumption) (by assumption) (by rwa [show o.over.length = k from by omega])), H242.gr⟩
theorem cF61 : callable Tryz.prog 61 = true := by kernel_rfl
theorem cF76 : callable Tryz.prog 76 = true := by kernel_rfl
theorem cF78 : callable Tryz.prog 78 = true := by kernel_rfl
theorem cF110 : callable Tryz.prog 110 = true := by kernel_rfl
set_option maxHeartbeats 4000000 in
theorem ref03_Get (x : RdS) (Fx : Nat → Prop) (q : List UInt8 × Bool) (w : World) (Sx : Sl Fx encB 1 x.bh x.b w) (XFx : ∀ b, Fx b → b < w.heap.size) (Ex : x.st = q) :
    Calls Tryz.prog 77 #[(aggOf (rdCh x))] w (Ret fun v w' => ∃ (X : OpS) (Z : RdS), v = .tuple #[opV X, rdV Z] ∧ Ext w w' ∧ OwnS w.heap.size 69 2 stampCh X.oh X.over w' ∧ (X.core = (rdOp q).1) ∧ Z.st = (rdOp q).2 ∧ Sl Fx encB 1 Z.bh Z.b w') := by
 refine calls_W Tryz.func77 rfl Tryz.ntmps77 rfl ?_
 have H0 := Ctx.start w nob
 have H1 := H0.addSl _ Sx (fun b hb => ⟨XFx b hb, fun _ ho => (nomatch ho)⟩)
 have LSx := Sx.len
 refine W_seq (W_reg ?_)
 refine O_v rfl (C_box H1 [[(slV x.bh x.b)], [(.bool x.bad)]] rfl ?_)
 intro b4 w5 hb6 hx7 H8
 refine O_v rfl (C_alloc H8 [[(.int .i64 0)], [(.int .i64 0)], [(.int .i64 0)], [(.int .i64 0)], [(.int .i64 0)], [(.int .i64 0)], [(.int .i64 0)], [(.string ByteArray.empty)], (idCells zeroId), [(.slice none 0 0)]] Tryz.zeroValue72 ?_)
 intro b9 w10 hb11 hx12 H13
 refine O_v rfl (C_alloc H13 [[(.slice none 0 0)], [(.bool false)]] Tryz.zeroValue110 ?_)
 intro b14 w15 hb16 hx17 H18
 refine O_nil (Then_n (W_seq (W_reg ?_)))
 refine O_v rfl (R_loadA (cs := [[(slV x.bh x.b)], [(.bool x.bad)]]) Tryz.isAgg110 Tryz.sizeOf110 rfl rfl (H18.bx 2 rfl 0 2 0 0 _ rfl rfl rfl) ?_)
 refine O_v rfl (R_callL (vs := [(aggOf (rdCh x)), (.int .i64 2)]) cF72 rfl rfl ((ref02_GetNum x Fx q 2 w15 (H18.sl 0 rfl) (H18.imm _ (List.mem_of_getElem? (i := 0) rfl)).2 Ex).ret ?_))
 rintro _ w20 ⟨x19, rfl, hx21, hr22, hs23⟩
 have H24 := H18.ext hx21
 have H25 := H24.immOf 0 rfl (slI Fx encB 1 x19.bh x19.b) (fun _ h => h) (fun _ => hs23)
 refine O_mv (v := (.tuple #[(.int .i64 (((rdNum q 2).1) : Int)), (aggOf (rdCh x19))])) rfl rfl (O_ex (v := (.int .i64 (((rdNum q 2).1) : Int))) rfl rfl rfl (O_ex (v := (aggOf (rdCh x19))) rfl rfl rfl ?_))
 refine O_v rfl (C_alloc H25 [[(.slice none 0 0)], [(.bool false)]] Tryz.zeroValue110 ?_)
 intro b26 w27 hb28 hx29 H30
 refine O_as (v := (.int .i64 (((rdNum q 2).1) : Int))) rfl rfl ?_
 refine O_u (C_storeW H30 0 rfl (sub := [[(slV x19.bh x19.b)], [(.bool x19.bad)]]) Tryz.sizeOf110 rfl rfl rfl rfl rfl ?_)
 intro w31 hg32 H33
 refine O_nil (Then_n (W_seq (W_reg ?_)))
 refine O_v rfl (R_loadA (cs := [[(slV x19.bh x19.b)], [(.bool x19.bad)]]) Tryz.isAgg110 Tryz.sizeOf110 rfl rfl (H33.bx 0 rfl 0 2 0 0 _ rfl rfl rfl) ?_)
 refine O_v rfl (R_callL (vs := [(aggOf (rdCh x19))]) cF110 rfl rfl ((ref03_GetStamp x19 Fx ((rdNum q 2).2) w31 (H33.sl 0 rfl) (H33.imm _ (List.mem_of_getElem? (i := 0) rfl)).2 hr22).ret ?_))
 rintro _ w35 ⟨x34, rfl, hx36, hr37, hs38⟩
 have H39 := H33.ext hx36
 have H40 := H39.immOf 0 rfl (slI Fx encB 1 x34.bh x34.b) (fun _ h => h) (fun _ => hs38)
 refine O_mv (v := (.tuple #[(aggOf (stampCh ((rdAt ((rdNum q 2).2)).1))), (aggOf (rdCh x34))])) rfl rfl (O_ex (v := (aggOf (stampCh ((rdAt ((rdNum q 2).2)).1)))) rfl rfl rfl (O_ex (v := (aggOf (rdCh x34))) rfl rfl rfl ?_))
 refine O_v rfl (C_alloc H40 [[(.int .i64 0)], [(.int .i64 0)]] Tryz.zeroValue69 ?_)
 intro b41 w42 hb43 hx44 H45
 refine O_v rfl (C_alloc H45 [[(.slice none 0 0)], [(.bool false)]] Tryz.zeroValue110 ?_)
 intro b46 w47 hb48 hx49 H50
 refine O_u (C_storeW H50 1 rfl (sub := [[(.int .i64 (((rdAt ((rdNum q 2).2)).1).T))], [(.int .i64 (((rdAt ((rdNum q 2).2)).1).R))]]) Tryz.sizeOf69 rfl rfl rfl rfl rfl ?_)
 intro w51 hg52 H53
 refine O_u (C_storeW H53 0 rfl (sub := [[(slV x34.bh x34.b)], [(.bool x34.bad)]]) Tryz.sizeOf110 rfl rfl rfl rfl rfl ?_)
 intro w54 hg55 H56
 refine O_nil (Then_n (W_seq (W_reg ?_)))
 refine O_v rfl (R_loadA (cs := [[(slV x34.bh x34.b)], [(.bool x34.bad)]]) Tryz.isAgg110 Tryz.sizeOf110 rfl rfl (H56.bx 0 rfl 0 2 0 0 _ rfl rfl rfl) ?_)
 refine O_v rfl (R_callL (vs := [(aggOf (rdCh x34))]) cF110 rfl rfl ((ref03_GetStamp x34 Fx ((rdAt ((rdNum q 2).2)).2) w54 (H56.sl 0 rfl) (H56.imm _ (List.mem_of_getElem? (i := 0) rfl)).2 hr37).ret ?_))
 rintro _ w58 ⟨x57, rfl, hx59, hr60, hs61⟩
 have H62 := H56.ext hx59
 have H63 := H62.immOf 0 rfl (slI Fx encB 1 x57.bh x57.b) (fun _ h => h) (fun _ => hs61)
 refine O_mv (v := (.tuple #[(aggOf (stampCh ((rdAt ((rdAt ((rdNum q 2).2)).2)).1))), (aggOf (rdCh x57))])) rfl rfl (O_ex (v := (aggOf (stampCh ((rdAt ((rdAt ((rdNum q 2).2)).2)).1)))) rfl rfl rfl (O_ex (v := (aggOf (rdCh x57))) rfl rfl rfl ?_))
 refine O_v rfl (C_alloc H63 [[(.int .i64 0)], [(.int .i64 0)]] Tryz.zeroValue69 ?_)
 intro b64 w65 hb66 hx67 H68
 refine O_v rfl (C_alloc H68 [[(.slice none 0 0)], [(.bool false)]] Tryz.zeroValue110 ?_)
 intro b69 w70 hb71 hx72 H73
 refine O_u (C_storeW H73 1 rfl (sub := [[(.int .i64 (((rdAt ((rdAt ((rdNum q 2).2)).2)).1).T))], [(.int .i64 (((rdAt ((rdAt ((rdNum q 2).2)).2)).1).R))]]) Tryz.sizeOf69 rfl rfl rfl rfl rfl ?_)
 intro w74 hg75 H76
 refine O_u (C_storeW H76 0 rfl (sub := [[(slV x57.bh x57.b)], [(.bool x57.bad)]]) Tryz.sizeOf110 rfl rfl rfl rfl rfl ?_)
 intro w77 hg78 H79
 refine O_nil (Then_n (W_seq (W_reg ?_)))
 refine O_mv (v := (.int .i64 (((rdNum q 2).1) : Int))) rfl rfl ?_
 refine O_v rfl (R_loadA (cs := [[(.int .i64 (((rdAt ((rdNum q 2).2)).1).T))], [(.int .i64 (((rdAt ((rdNum q 2).2)).1).R))]]) Tryz.isAgg69 Tryz.sizeOf69 rfl rfl (H79.bx 3 rfl 0 2 0 0 _ rfl rfl rfl) ?_)
 refine O_v rfl (R_loadA (cs := [[(.int .i64 (((rdAt ((rdAt ((rdNum q 2).2)).2)).1).T))], [(.int .i64 (((rdAt ((rdAt ((rdNum q 2).2)).2)).1).R))]]) Tryz.isAgg69 Tryz.sizeOf69 rfl rfl (H79.bx 1 rfl 0 2 0 0 _ rfl rfl rfl) ?_)
 refine O_v rfl (R_buildL (vs := [(0, (.int .i64 (((rdNum q 2).1) : Int))), (1, (aggOf (stampCh ((rdAt ((rdNum q 2).2)).1)))), (2, (aggOf (stampCh ((rdAt ((rdAt ((rdNum q 2).2)).2)).1))))]) (v := aggOf [[(.int .i64 (((rdNum q 2).1) : Int))], [(.int .i64 (((rdAt ((rdNum q 2).2)).1).T))], [(.int .i64 (((rdAt ((rdNum q 2).2)).1).R))], [(.int .i64 (((rdAt ((rdAt ((rdNum q 2).2)).2)).1).T))], [(.int .i64 (((rdAt ((rdAt ((rdNum q 2).2)).2)).1).R))], [(.int .i64 0)], [(.int .i64 0)], [(.string ByteArray.empty)], (idCells zeroId), [(.slice none 0 0)]]) rfl (fun _ => by kernel_rfl) ?_)
 refine O_v rfl (C_alloc H79 [[(.int .i64 0)], [(.int .i64 0)], [(.int .i64 0)], [(.int .i64 0)], [(.int .i64 0)], [(.int .i64 0)], [(.int .i64 0)], [(.string ByteArray.empty)], (idCells zeroId), [(.slice none 0 0)]] Tryz.zeroValue72 ?_)
 intro b80 w81 hb82 hx83 H84
 refine O_u (C_storeW H84 0 rfl (sub := [[(.int .i64 (((rdNum q 2).1) : Int))], [(.int .i64 (((rdAt ((rdNum q 2).2)).1).T))], [(.int .i64 (((rdAt ((rdNum q 2).2)).1).R))], [(.int .i64 (((rdAt ((rdAt ((rdNum q 2).2)).2)).1).T))], [(.int .i64 (((rdAt ((rdAt ((rdNum q 2).2)).2)).1).R))], [(.int .i64 0)], [(.int .i64 0)], [(.string ByteArray.empty)], (idCells zeroId), [(.slice none 0 0)]]) Tryz.sizeOf72 rfl rfl rfl rfl rfl ?_)
 intro w85 hg86 H87
 refine O_nil (Then_n (W_seq (W_seq (W_reg ?_))))
 refine O_mv (v := (.int .i64 (((rdNum q 2).1) : Int))) rfl rfl ?_
 refine O_v rfl (R_cmp (a := (((rdNum q 2).1) : Int)) (b := 1) (r := (decide ((((rdNum q 2).1) : Int) = 1))) rfl rfl rfl ?_)
 refine O_nil (Then_n ?_)
 refine W_cond rfl (fun hc88 => ?_) (fun hc88 => ?_)
 ·have hc88 := (of_decide_eq_true hc88)
  have hK := hc88
  refine W_seq (W_reg ?_)
  refine O_v rfl (R_loadA (cs := [[(slV x57.bh x57.b)], [(.bool x57.bad)]]) Tryz.isAgg110 Tryz.sizeOf110 rfl rfl (H87.bx 1 rfl 0 2 0 0 _ rfl rfl rfl) ?_)
  refine O_v rfl (R_callL (vs := [(aggOf (rdCh x57))]) cF110 rfl rfl ((ref03_GetStamp x57 Fx ((rdAt ((rdAt ((rdNum q 2).2)).2)).2) w85 (H87.sl 0 rfl) (H87.imm _ (List.mem_of_getElem? (i := 0) rfl)).2 hr60).ret ?_))
  rintro _ w90 ⟨x89, rfl, hx91, hr92, hs93⟩
  have H94 := H87.ext hx91
  have H95 := H94.immOf 0 rfl (slI Fx encB 1 x89.bh x89.b) (fun _ h => h) (fun _ => hs93)
  refine O_mv (v := (.tuple #[(aggOf (stampCh ((rdAt ((rdAt ((rdAt ((rdNum q 2).2)).2)).2)).1))), (aggOf (rdCh x89))])) rfl rfl (O_ex (v := (aggOf (stampCh ((rdAt ((rdAt ((rdAt ((rdNum q 2).2)).2)).2)).1)))) rfl rfl rfl (O_ex (v := (aggOf (rdCh x89))) rfl rfl rfl ?_))
  refine O_v rfl (C_alloc H95 [[(.int .i64 0)], [(.int .i64 0)]] Tryz.zeroValue69 ?_)
  intro b96 w97 hb98 hx99 H100
  refine O_v rfl (C_alloc H100 [[(.slice none 0 0)], [(.bool false)]] Tryz.zeroValue110 ?_)
  intro b101 w102 hb103 hx104 H105
  refine O_u (C_storeW H105 1 rfl (sub := [[(.int .i64 (((rdAt ((rdAt ((rdAt ((rdNum q 2).2)).2)).2)).1).T))], [(.int .i64 (((rdAt ((rdAt ((rdAt ((rdNum q 2).2)).2)).2)).1).R))]]) Tryz.sizeOf69 rfl rfl rfl rfl rfl ?_)
  intro w106 hg107 H108
  refine O_u (C_storeW H108 0 rfl (sub := [[(slV x89.bh x89.b)], [(.bool x89.bad)]]) Tryz.sizeOf110 rfl rfl rfl rfl rfl ?_)
  intro w109 hg110 H111
  refine O_nil (Then_n (W_seq (W_reg ?_)))
  refine O_v rfl (R_loadA (cs := [[(slV x89.bh x89.b)], [(.bool x89.bad)]]) Tryz.isAgg110 Tryz.sizeOf110 rfl rfl (H111.bx 0 rfl 0 2 0 0 _ rfl rfl rfl) ?_)
  refine O_v rfl (R_callL (vs := [(aggOf (rdCh x89)), (.int .i64 60)]) cF78 rfl rfl ((ref02_GetText x89 Fx ((rdAt ((rdAt ((rdAt ((rdNum q 2).2)).2)).2)).2) 60 w109 (H111.sl 0 rfl) (H111.imm _ (List.mem_of_getElem? (i := 0) rfl)).2 hr92).ret ?_))
  rintro _ w113 ⟨x112, rfl, hx114, hr115, hs116⟩
  have H117 := H111.ext hx114
  have H118 := H117.immOf 0 rfl (slI Fx encB 1 x112.bh x112.b) (fun _ h => h) (fun _ => hs116)
  refine O_mv (v := (.tuple #[(.string ((rdText ((rdAt ((rdAt ((rdAt ((rdNum q 2).2)).2)).2)).2) 60).1)), (aggOf (rdCh x112))])) rfl rfl (O_ex (v := (.string ((rdText ((rdAt ((rdAt ((rdAt ((rdNum q 2).2)).2)).2)).2) 60).1))) rfl rfl rfl (O_ex (v := (aggOf (rdCh x112))) rfl rfl rfl ?_))
  refine O_v rfl (C_alloc H118 [[(.slice none 0 0)], [(.bool false)]] Tryz.zeroValue110 ?_)
  intro b119 w120 hb121 hx122 H123
  refine O_as (v := (.string ((rdText ((rdAt ((rdAt ((rdAt ((rdNum q 2).2)).2)).2)).2) 60).1))) rfl rfl ?_
  refine O_u (C_storeW H123 0 rfl (sub := [[(slV x112.bh x112.b)], [(.bool x112.bad)]]) Tryz.sizeOf110 rfl rfl rfl rfl rfl ?_)
  intro w124 hg125 H126
  refine O_nil (Then_n (W_seq (W_reg ?_)))
  refine O_v rfl (R_loadA (cs := [[(.int .i64 (((rdAt ((rdAt ((rdAt ((rdNum q 2).2)).2)).2)).1).T))], [(.int .i64 (((rdAt ((rdAt ((rdAt ((rdNum q 2).2)).2)).2)).1).R))]]) Tryz.isAgg69 Tryz.sizeOf69 rfl rfl (H126.bx 2 rfl 0 2 0 0 _ rfl rfl rfl) ?_)
  refine O_v rfl (R_fieldAddr (off := 5) (oo := 5) Tryz.underlying72 rfl rfl Tryz.sizeOf69 rfl rfl ?_)
  refine O_u (C_storeA H126 3 rfl 5 (sub := [[(.int .i64 (((rdAt ((rdAt ((rdAt ((rdNum q 2).2)).2)).2)).1).T))], [(.int .i64 (((rdAt ((rdAt ((rdAt ((rdNum q 2).2)).2)).2)).1).R))]]) [[(.int .i64 (((rdNum q 2).1) : Int))], [(.int .i64 (((rdAt ((rdNum q 2).2)).1).T))], [(.int .i64 (((rdAt ((rdNum q 2).2)).1).R))], [(.int .i64 (((rdAt ((rdAt ((rdNum q 2).2)).2)).1).T))], [(.int .i64 (((rdAt ((rdAt ((rdNum q 2).2)).2)).1).R))], [(.int .i64 (((rdAt ((rdAt ((rdAt ((rdNum q 2).2)).2)).2)).1).T))], [(.int .i64 (((rdAt ((rdAt ((rdAt ((rdNum q 2).2)).2)).2)).1).R))], [(.string ByteArray.empty)], (idCells zeroId), [(.slice none 0 0)]] Tryz.sizeOf69 rfl rfl rfl rfl ⟨[[(.int .i64 0)], [(.int .i64 0)]], [[(.string ByteArray.empty)], (idCells zeroId), [(.slice none 0 0)]], rfl, rfl, rfl⟩ rfl ?_)
  intro w127 hg128 H129
  refine O_nil (Then_n (W_seq (W_reg ?_)))
  refine O_mv (v := (.string ((rdText ((rdAt ((rdAt ((rdAt ((rdNum q 2).2)).2)).2)).2) 60).1))) rfl rfl ?_
  refine O_v rfl (R_fieldAddr (off := 7) (oo := 7) Tryz.underlying72 rfl rfl Tryz.sizeOf9 rfl rfl ?_)
  refine O_u (C_store1 H129 3 rfl 7 (v := (.string ((rdText ((rdAt ((rdAt ((rdAt ((rdNum q 2).2)).2)).2)).2) 60).1))) [[(.int .i64 (((rdNum q 2).1) : Int))], [(.int .i64 (((rdAt ((rdNum q 2).2)).1).T))], [(.int .i64 (((rdAt ((rdNum q 2).2)).1).R))], [(.int .i64 (((rdAt ((rdAt ((rdNum q 2).2)).2)).1).T))], [(.int .i64 (((rdAt ((rdAt ((rdNum q 2).2)).2)).1).R))], [(.int .i64 (((rdAt ((rdAt ((rdAt ((rdNum q 2).2)).2)).2)).1).T))], [(.int .i64 (((rdAt ((rdAt ((rdAt ((rdNum q 2).2)).2)).2)).1).R))], [(.string ((rdText ((rdAt ((rdAt ((rdAt ((rdNum q 2).2)).2)).2)).2) 60).1))], (idCells zeroId), [(.slice none 0 0)]] Tryz.sizeOf9 rfl rfl rfl rfl rfl rfl rfl ?_)
  intro w130 hg131 H132
  refine O_nil (Then_n (W_reg ?_))
  refine O_v rfl (R_loadA (cs := [[(slV x112.bh x112.b)], [(.bool x112.bad)]]) Tryz.isAgg110 Tryz.sizeOf110 rfl rfl (H132.bx 0 rfl 0 2 0 0 _ rfl rfl rfl) ?_)
  refine O_u (C_storeW H132 4 rfl (sub := [[(slV x112.bh x112.b)], [(.bool x112.bad)]]) Tryz.sizeOf110 rfl rfl rfl rfl rfl ?_)
  intro w133 hg134 H135
  refine O_nil (Then_n (W_seq (W_seq ?_)))
  refine W_rg [(0, .q 0), (1, .q 0), (2, .q 0), (3, .q 0), (4, .q 0), (5, .q 0), (6, .q 0)] (by kernel_rfl) ?_
  refine Lx_q rfl rfl _ (fun v136 hv137 => R_fieldAddr (off := 1) (oo := 1) Tryz.underlying110 rfl rfl Tryz.sizeOf4 rfl rfl qk) (Lx_q rfl rfl _ (fun v138 hv139 => R_load1 (v := (.bool x112.bad)) Tryz.isAgg4 rfl ((H135.ext hv139).bx 4 rfl 1 1 1 1 _ rfl rfl rfl) qk) (Lx_mv (v := (.bool x112.bad)) rfl rfl rfl (Lx_qf rfl rfl rfl rfl rfl _ (fun hA v142 hv143 => R_loadA (cs := [[(.int .i64 (((rdNum q 2).1) : Int))], [(.int .i64 (((rdAt ((rdNum q 2).2)).1).T))], [(.int .i64 (((rdAt ((rdNum q 2).2)).1).R))], [(.int .i64 (((rdAt ((rdAt ((rdNum q 2).2)).2)).1).T))], [(.int .i64 (((rdAt ((rdAt ((rdNum q 2).2)).2)).1).R))], [(.int .i64 (((rdAt ((rdAt ((rdAt ((rdNum q 2).2)).2)).2)).1).T))], [(.int .i64 (((rdAt ((rdAt ((rdAt ((rdNum q 2).2)).2)).2)).1).R))], [(.string ((rdText ((rdAt ((rdAt ((rdAt ((rdNum q 2).2)).2)).2)).2) 60).1))], (idCells zeroId), [(.slice none 0 0)]]) Tryz.isAgg72 Tryz.sizeOf72 rfl rfl ((H135.ext hv143).bx 3 rfl 0 10 0 0 _ rfl rfl rfl) qk) ?_)))
  refine Lx_qf rfl rfl rfl rfl rfl (.bool (goodOp ({ kind := (((rdNum q 2).1) : Int), tm := ((rdAt ((rdNum q 2).2)).1), node := ((rdAt ((rdAt ((rdNum q 2).2)).2)).1), par := ((rdAt ((rdAt ((rdAt ((rdNum q 2).2)).2)).2)).1), name := (rdText ((rdAt ((rdAt ((rdAt ((rdNum q 2).2)).2)).2)).2) 60).1, data := zeroId, over := [], oh := nilH } : OpS))) (fun hA v144 hv145 => R_callL (vs := [(aggOf [[(.int .i64 (((rdNum q 2).1) : Int))], [(.int .i64 (((rdAt ((rdNum q 2).2)).1).T))], [(.int .i64 (((rdAt ((rdNum q 2).2)).1).R))], [(.int .i64 (((rdAt ((rdAt ((rdNum q 2).2)).2)).1).T))], [(.int .i64 (((rdAt ((rdAt ((rdNum q 2).2)).2)).1).R))], [(.int .i64 (((rdAt ((rdAt ((rdAt ((rdNum q 2).2)).2)).2)).1).T))], [(.int .i64 (((rdAt ((rdAt ((rdAt ((rdNum q 2).2)).2)).2)).1).R))], [(.string ((rdText ((rdAt ((rdAt ((rdAt ((rdNum q 2).2)).2)).2)).2) 60).1))], (idCells zeroId), [(.slice none 0 0)]])]) cF61 rfl (lst1 (gv_t hA)) (ref03_Good ({ kind := (((rdNum q 2).1) : Int), tm := ((rdAt ((rdNum q 2).2)).1), node := ((rdAt ((rdAt ((rdNum q 2).2)).2)).1), par := ((rdAt ((rdAt ((rdAt ((rdNum q 2).2)).2)).2)).1), name := (rdText ((rdAt ((rdAt ((rdAt ((rdNum q 2).2)).2)).2)).2) 60).1, data := zeroId, over := [], oh := nilH } : OpS) v144 (Sl.nil _ _ _ _) (rdText_size _ (by decide)))) (Lx_qf rfl rfl rfl rfl rfl _ (fun hA v146 hv147 => R_not (gv_t hA) qk) (Lx_q rfl rfl _ (fun v148 hv149 => R_pick rfl pk_or qk) ?_))
  refine Lx_nil (fun w150 hw151 => ?_)
  have H152 := H135.ext hw151
  refine Then_n ?_
  refine W_cond rfl (fun hc153 => ?_) (fun hc153 => ?_)
  ·have hc153 : (x112.bad = true ∨ (goodOp ({ kind := (((rdNum q 2).1) : Int), tm := ((rdAt ((rdNum q 2).2)).1), node := ((rdAt ((rdAt ((rdNum q 2).2)).2)).1), par := ((rdAt ((rdAt ((rdAt ((rdNum q 2).2)).2)).2)).1), name := (rdText ((rdAt ((rdAt ((rdAt ((rdNum q 2).2)).2)).2)).2) 60).1, data := zeroId, over := [], oh := nilH } : OpS)) = false) := (Or.imp (fun h => h) (fun h => (notT h)) (orT hc153))
   refine W_seq (W_reg ?_)
   refine O_v rfl (R_buildL (vs := []) (v := aggOf [[(.int .i64 0)], [(.int .i64 0)], [(.int .i64 0)], [(.int .i64 0)], [(.int .i64 0)], [(.int .i64 0)], [(.int .i64 0)], [(.string ByteArray.empty)], (idCells zeroId), [(.slice none 0 0)]]) rfl (fun _ => by kernel_rfl) ?_)
   refine O_v rfl (R_buildL (vs := [(1, (.bool true))]) (v := aggOf [[(.slice none 0 0)], [(.bool true)]]) rfl (fun _ => by kernel_rfl) ?_)
   refine O_u (C_storeW H152 10 rfl (sub := [[(.int .i64 0)], [(.int .i64 0)], [(.int .i64 0)], [(.int .i64 0)], [(.int .i64 0)], [(.int .i64 0)], [(.int .i64 0)], [(.string ByteArray.empty)], (idCells zeroId), [(.slice none 0 0)]]) Tryz.sizeOf72 rfl rfl rfl rfl rfl ?_)
   intro w154 hg155 H156
   refine O_u (C_storeW H156 9 rfl (sub := [[(.slice none 0 0)], [(.bool true)]]) Tryz.sizeOf110 rfl rfl rfl rfl rfl ?_)
   intro w157 hg158 H159
   refine O_nil (Then_n (W_ret (Then_r ?_)))
   refine ret_cc Tryz.results77 (inMem (cs := [[(.int .i64 0)], [(.int .i64 0)], [(.int .i64 0)], [(.int .i64 0)], [(.int .i64 0)], [(.int .i64 0)], [(.int .i64 0)], [(.string ByteArray.empty)], (idCells zeroId), [(.slice none 0 0)]]) rfl Tryz.isAgg72 Tryz.sizeOf72 rfl (boxR_at (H159.getOwn 10 rfl))) (inMem (cs := [[(.slice none 0 0)], [(.bool true)]]) rfl Tryz.isAgg110 Tryz.sizeOf110 rfl (boxR_at (H159.getOwn 9 rfl))) ?_
   have H160 := H159.addNil 69 2 stampCh
   exact ⟨({ kind := 0, tm := ({ T := 0, R := 0 } : Stamp), node := ({ T := 0, R := 0 } : Stamp), par := ({ T := 0, R := 0 } : Stamp), name := ByteArray.empty, data := zeroId, over := [], oh := nilH } : OpS), ({ b := [], bh := nilH, bad := true } : RdS), rfl, H160.gr, H160.retRow 0 rfl, (congrArg Prod.fst (opR_fail (opR_m hK) hr115 hc153)).symm, (congrArg Prod.snd (opR_fail (opR_m hK) hr115 hc153)).symm, (Sl.nil _ _ _ _)⟩
  ·have hc153 : (x112.bad = false ∧ (goodOp ({ kind := (((rdNum q 2).1) : Int), tm := ((rdAt ((rdNum q 2).2)).1), node := ((rdAt ((rdAt ((rdNum q 2).2)).2)).1), par := ((rdAt ((rdAt ((rdAt ((rdNum q 2).2)).2)).2)).1), name := (rdText ((rdAt ((rdAt ((rdAt ((rdNum q 2).2)).2)).2)).2) 60).1, data := zeroId, over := [], oh := nilH } : OpS)) = true) := (And.imp (fun h => h) (fun h => (notF h)) (orF hc153))
   refine W_skip (Then_n (W_seq ?_))
   refine W_rgdM TryzMixed (fun c => c = b9) (fun i => if i == 2 then 1 else if i == 3 then 2 else 0) [(0, .q 1), (1, .q 1), (2, .c 1), (3, .c 2)] (by kernel_rfl) ?_
   refine Lx_q rfl rfl _ (fun v161 hv162 => R_loadA (cs := [[(.int .i64 (((rdNum q 2).1) : Int))], [(.int .i64 (((rdAt ((rdNum q 2).2)).1).T))], [(.int .i64 (((rdAt ((rdNum q 2).2)).1).R))], [(.int .i64 (((rdAt ((rdAt ((rdNum q 2).2)).2)).1).T))], [(.int .i64 (((rdAt ((rdAt ((rdNum q 2).2)).2)).1).R))], [(.int .i64 (((rdAt ((rdAt ((rdAt ((rdNum q 2).2)).2)).2)).1).T))], [(.int .i64 (((rdAt ((rdAt ((rdAt ((rdNum q 2).2)).2)).2)).1).R))], [(.string ((rdText ((rdAt ((rdAt ((rdAt ((rdNum q 2).2)).2)).2)).2) 60).1))], (idCells zeroId), [(.slice none 0 0)]]) Tryz.isAgg72 Tryz.sizeOf72 rfl rfl ((boxR_at (H152.ownGr 3 10 (by decide) rfl rfl hv162 (fun _ h => congrArg some h.symm))).chunks 0 10 0 0 _ rfl rfl rfl) qk) (Lx_q rfl rfl _ (fun v163 hv164 => R_loadA (cs := [[(slV x112.bh x112.b)], [(.bool x112.bad)]]) Tryz.isAgg110 Tryz.sizeOf110 rfl rfl ((boxR_at (H152.ownGr 4 10 (by decide) rfl rfl hv164 (fun _ h => congrArg some h.symm))).chunks 0 2 0 0 _ rfl rfl rfl) qk) ?_)
   refine Lx_cu rfl (fun w165 hw166 => ?_)
   have H167 := H152.ext hw166
   refine (C_storeW H167 10 rfl (sub := [[(.int .i64 (((rdNum q 2).1) : Int))], [(.int .i64 (((rdAt ((rdNum q 2).2)).1).T))], [(.int .i64 (((rdAt ((rdNum q 2).2)).1).R))], [(.int .i64 (((rdAt ((rdAt ((rdNum q 2).2)).2)).1).T))], [(.int .i64 (((rdAt ((rdAt ((rdNum q 2).2)).2)).1).R))], [(.int .i64 (((rdAt ((rdAt ((rdAt ((rdNum q 2).2)).2)).2)).1).T))], [(.int .i64 (((rdAt ((rdAt ((rdAt ((rdNum q 2).2)).2)).2)).1).R))], [(.string ((rdText ((rdAt ((rdAt ((rdAt ((rdNum q 2).2)).2)).2)).2) 60).1))], (idCells zeroId), [(.slice none 0 0)]]) Tryz.sizeOf72 rfl rfl rfl rfl rfl ?_)
   intro w168 hg169 H170
   refine ⟨Gr.mono hg169 (fun _ h => (Option.some.inj h).symm), ?_⟩
   refine Lx_cu rfl (fun w171 hw172 => ?_)
   have H173 := H170.ext hw172
   refine (C_storeW H173 9 rfl (sub := [[(slV x112.bh x112.b)], [(.bool x112.bad)]]) Tryz.sizeOf110 rfl rfl rfl rfl rfl ?_)
   intro w174 hg175 H176
   refine ⟨Gr.mono (M' := fun _ => True) hg175 (fun _ _ => trivial), ?_⟩
   refine Lx_nil (fun w177 hw178 => ?_)
   have H179 := H176.ext hw178
   refine Then_n (W_ret ?_)
   refine ret_cc Tryz.results77 (inMem (cs := [[(.int .i64 (((rdNum q 2).1) : Int))], [(.int .i64 (((rdAt ((rdNum q 2).2)).1).T))], [(.int .i64 (((rdAt ((rdNum q 2).2)).1).R))], [(.int .i64 (((rdAt ((rdAt ((rdNum q 2).2)).2)).1).T))], [(.int .i64 (((rdAt ((rdAt ((rdNum q 2).2)).2)).1).R))], [(.int .i64 (((rdAt ((rdAt ((rdAt ((rdNum q 2).2)).2)).2)).1).T))], [(.int .i64 (((rdAt ((rdAt ((rdAt ((rdNum q 2).2)).2)).2)).1).R))], [(.string ((rdText ((rdAt ((rdAt ((rdAt ((rdNum q 2).2)).2)).2)).2) 60).1))], (idCells zeroId), [(.slice none 0 0)]]) rfl Tryz.isAgg72 Tryz.sizeOf72 rfl (boxR_at (H179.getOwn 10 rfl))) (inMem (cs := [[(slV x112.bh x112.b)], [(.bool x112.bad)]]) rfl Tryz.isAgg110 Tryz.sizeOf110 rfl (boxR_at (H179.getOwn 9 rfl))) ?_
   have H180 := H179.addNil 69 2 stampCh
   exact ⟨({ kind := (((rdNum q 2).1) : Int), tm := ((rdAt ((rdNum q 2).2)).1), node := ((rdAt ((rdAt ((rdNum q 2).2)).2)).1), par := ((rdAt ((rdAt ((rdAt ((rdNum q 2).2)).2)).2)).1), name := (rdText ((rdAt ((rdAt ((rdAt ((rdNum q 2).2)).2)).2)).2) 60).1, data := zeroId, over := [], oh := nilH } : OpS), x112, rfl, H180.gr, H180.retRow 0 rfl, (congrArg Prod.fst (opR_ok (opR_m hK) hr115 hc153)).symm, (hr115.trans (congrArg Prod.snd (opR_ok (opR_m hK) hr115 hc153)).symm), (H179.sl 0 rfl)⟩
 ·have hc88 := (of_decide_eq_false hc88)
  have hK := hc88
  refine W_seq (W_reg ?_)
  refine O_v rfl (R_loadA (cs := [[(slV x57.bh x57.b)], [(.bool x57.bad)]]) Tryz.isAgg110 Tryz.sizeOf110 rfl rfl (H87.bx 1 rfl 0 2 0 0 _ rfl rfl rfl) ?_)
  refine O_v rfl (R_callL (vs := [(aggOf (rdCh x57))]) cF76 rfl rfl ((ref02_GetId x57 Fx ((rdAt ((rdAt ((rdNum q 2).2)).2)).2) w85 (H87.sl 0 rfl) (H87.imm _ (List.mem_of_getElem? (i := 0) rfl)).2 hr60).ret ?_))
  rintro _ w182 ⟨x181, rfl, hx183, hr184, hs185⟩
  have H186 := H87.ext hx183
  have H187 := H186.immOf 0 rfl (slI Fx encB 1 x181.bh x181.b) (fun _ h => h) (fun _ => hs185)
  refine O_mv (v := (.tuple #[(aggOf (idCh ((rdId ((rdAt ((rdAt ((rdNum q 2).2)).2)).2)).1))), (aggOf (rdCh x181))])) rfl rfl (O_ex (v := (aggOf (idCh ((rdId ((rdAt ((rdAt ((rdNum q 2).2)).2)).2)).1)))) rfl rfl rfl (O_ex (v := (aggOf (rdCh x181))) rfl rfl rfl ?_))
  refine O_v rfl (C_alloc H187 [(idCells zeroId)] Tryz.zeroValue44 ?_)
  intro b188 w189 hb190 hx191 H192
  refine O_v rfl (C_alloc H192 [[(.slice none 0 0)], [(.bool false)]] Tryz.zeroValue110 ?_)
  intro b193 w194 hb195 hx196 H197
  refine O_u (C_storeW H197 1 rfl (sub := [(idCells ((rdId ((rdAt ((rdAt ((rdNum q 2).2)).2)).2)).1))]) Tryz.sizeOf44 rfl rfl rfl rfl rfl ?_)
  intro w198 hg199 H200
  refine O_u (C_storeW H200 0 rfl (sub := [[(slV x181.bh x181.b)], [(.bool x181.bad)]]) Tryz.sizeOf110 rfl rfl rfl rfl rfl ?_)
  intro w201 hg202 H203
  refine O_nil (Then_n (W_seq (W_reg ?_)))
  refine O_v rfl (R_loadA (cs := [[(slV x181.bh x181.b)], [(.bool x181.bad)]]) Tryz.isAgg110 Tryz.sizeOf110 rfl rfl (H203.bx 0 rfl 0 2 0 0 _ rfl rfl rfl) ?_)
  refine O_v rfl (R_callL (vs := [(aggOf (rdCh x181)), (.int .i64 64)]) cF72 rfl rfl ((ref02_GetNum x181 Fx ((rdId ((rdAt ((rdAt ((rdNum q 2).2)).2)).2)).2) 64 w201 (H203.sl 0 rfl) (H203.imm _ (List.mem_of_getElem? (i := 0) rfl)).2 hr184).ret ?_))
  rintro _ w205 ⟨x204, rfl, hx206, hr207, hs208⟩
  have H209 := H203.ext hx206
  have H210 := H209.immOf 0 rfl (slI Fx encB 1 x204.bh x204.b) (fun _ h => h) (fun _ => hs208)
  refine O_mv (v := (.tuple #[(.int .i64 (((rdNum ((rdId ((rdAt ((rdAt ((rdNum q 2).2)).2)).2)).2) 64).1) : Int)), (aggOf (rdCh x204))])) rfl rfl (O_ex (v := (.int .i64 (((rdNum ((rdId ((rdAt ((rdAt ((rdNum q 2).2)).2)).2)).2) 64).1) : Int))) rfl rfl rfl (O_ex (v := (aggOf (rdCh x204))) rfl rfl rfl ?_))
  refine O_v rfl (C_alloc H210 [[(.slice none 0 0)], [(.bool false)]] Tryz.zeroValue110 ?_)
  intro b211 w212 hb213 hx214 H215
  refine O_as (v := (.int .i64 (((rdNum ((rdId ((rdAt ((rdAt ((rdNum q 2).2)).2)).2)).2) 64).1) : Int))) rfl rfl ?_
  refine O_u (C_storeW H215 0 rfl (sub := [[(slV x204.bh x204.b)], [(.bool x204.bad)]]) Tryz.sizeOf110 rfl rfl rfl rfl rfl ?_)
  intro w216 hg217 H218
  refine O_nil (Then_n (W_seq (W_reg ?_)))
  refine O_v rfl (R_loadA (cs := [(idCells ((rdId ((rdAt ((rdAt ((rdNum q 2).2)).2)).2)).1))]) Tryz.isAgg44 Tryz.sizeOf44 rfl rfl (H218.bx 2 rfl 0 1 0 0 _ rfl rfl rfl) ?_)
  refine O_v rfl (R_fieldAddr (off := 8) (oo := 8) Tryz.underlying72 rfl rfl Tryz.sizeOf45 rfl rfl ?_)
  refine O_u (C_storeA H218 3 rfl 8 (sub := [(idCells ((rdId ((rdAt ((rdAt ((rdNum q 2).2)).2)).2)).1))]) [[(.int .i64 (((rdNum q 2).1) : Int))], [(.int .i64 (((rdAt ((rdNum q 2).2)).1).T))], [(.int .i64 (((rdAt ((rdNum q 2).2)).1).R))], [(.int .i64 (((rdAt ((rdAt ((rdNum q 2).2)).2)).1).T))], [(.int .i64 (((rdAt ((rdAt ((rdNum q 2).2)).2)).1).R))], [(.int .i64 0)], [(.int .i64 0)], [(.string ByteArray.empty)], (idCells ((rdId ((rdAt ((rdAt ((rdNum q 2).2)).2)).2)).1)), [(.slice none 0 0)]] Tryz.sizeOf45 rfl rfl rfl rfl ⟨[(idCells zeroId)], [[(.slice none 0 0)]], rfl, rfl, rfl⟩ rfl ?_)
  intro w219 hg220 H221
  refine O_nil (Then_n (W_seq (W_reg ?_)))
  refine O_v rfl (R_loadA (cs := [[(slV x204.bh x204.b)], [(.bool x204.bad)]]) Tryz.isAgg110 Tryz.sizeOf110 rfl rfl (H221.bx 0 rfl 0 2 0 0 _ rfl rfl rfl) ?_)
  refine O_u (C_storeW H221 4 rfl (sub := [[(slV x204.bh x204.b)], [(.bool x204.bad)]]) Tryz.sizeOf110 rfl rfl rfl rfl rfl ?_)
  intro w222 hg223 H224
  refine O_nil (Then_n (W_seq (W_reg ?_)))
  refine O_as (v := (.int .i64 0)) rfl rfl ?_
  refine O_nil (Then_n (W_block ?_))
  have H225 := H224.addNil 69 2 stampCh
  refine W_loop (fun m226 e227 w228 => ∃ (k : Nat), ∃ (acc : List Stamp), ∃ (rr : RdS), ∃ (rq : List UInt8 × Bool), ∃ (ho : SlH), m226 = (rdNum (rdId (rdAt (rdAt (rdNum q 2).2).2).2).2 64).1 - k ∧ (k ≤ (rdNum (rdId (rdAt (rdAt (rdNum q 2).2).2).2).2 64).1) ∧ ((rdNum (rdId (rdAt (rdAt (rdNum q 2).2).2).2).2 64).1 ≤ 64) ∧ (acc.length ≤ k) ∧ (rr.st = rq) ∧ (rdAts ((rdNum (rdId (rdAt (rdAt (rdNum q 2).2).2).2).2 64).1 - k) acc rq = rdAts (rdNum (rdId (rdAt (rdAt (rdNum q 2).2).2).2).2 64).1 [] (rdNum (rdId (rdAt (rdAt (rdNum q 2).2).2).2).2 64).2) ∧ ∃ eb229, e227 = envL [(2, (.pointer (some ⟨b9, 0, none⟩))), (3, (.pointer (some ⟨b14, 0, none⟩))), (9, (.pointer (some ⟨b69, 0, none⟩))), (10, (.pointer (some ⟨b80, 0, none⟩))), (17, (.int .i64 (((rdNum ((rdId ((rdAt ((rdAt ((rdNum q 2).2)).2)).2)).2) 64).1) : Int))), (19, (.int .i64 (k : Int)))] eb229 ∧ Ctx w nob w228 [rowR 69 2 stampCh ho acc, boxR b211 110 [[(slV x204.bh x204.b)], [(.bool x204.bad)]], boxR b193 110 [[(slV x181.bh x181.b)], [(.bool x181.bad)]], boxR b188 44 [(idCells ((rdId ((rdAt ((rdAt ((rdNum q 2).2)).2)).2)).1))], boxR b80 72 [[(.int .i64 (((rdNum q 2).1) : Int))], [(.int .i64 (((rdAt ((rdNum q 2).2)).1).T))], [(.int .i64 (((rdAt ((rdNum q 2).2)).1).R))], [(.int .i64 (((rdAt ((rdAt ((rdNum q 2).2)).2)).1).T))], [(.int .i64 (((rdAt ((rdAt ((rdNum q 2).2)).2)).1).R))], [(.int .i64 0)], [(.int .i64 0)], [(.string ByteArray.empty)], (idCells ((rdId ((rdAt ((rdAt ((rdNum q 2).2)).2)).2)).1)), [(slV ho acc)]], boxR b69 110 [[(slV rr.bh rr.b)], [(.bool rr.bad)]], boxR b64 69 [[(.int .i64 (((rdAt ((rdAt ((rdNum q 2).2)).2)).1).T))], [(.int .i64 (((rdAt ((rdAt ((rdNum q 2).2)).2)).1).R))]], boxR b46 110 [[(slV x34.bh x34.b)], [(.bool x34.bad)]], boxR b41 69 [[(.int .i64 (((rdAt ((rdNum q 2).2)).1).T))], [(.int .i64 (((rdAt ((rdNum q 2).2)).1).R))]], boxR b26 110 [[(slV x19.bh x19.b)], [(.bool x19.bad)]], boxR b14 110 [[(.slice none 0 0)], [(.bool false)]], boxR b9 72 [[(.int .i64 0)], [(.int .i64 0)], [(.int .i64 0)], [(.int .i64 0)], [(.int .i64 0)], [(.int .i64 0)], [(.int .i64 0)], [(.string ByteArray.empty)], (idCells zeroId), [(.slice none 0 0)]], boxR b4 110 [[(slV x.bh x.b)], [(.bool x.bad)]]] [slI Fx encB 1 rr.bh rr.b, slI Fx encB 1 x181.bh x181.b, slI Fx encB 1 x57.bh x57.b, slI Fx encB 1 x34.bh x34.b, slI Fx encB 1 x19.bh x19.b, slI Fx encB 1 x.bh x.b]) _ ⟨0, [], x204, ((rdNum (rdId (rdAt (rdAt (rdNum q 2).2).2).2).2 64).2), nilH, rfl, (by omega), (rdNum_le _ (by decide)), (by simp), hr207, rfl, _, envL_self ⟨rfl, rfl, rfl, rfl, rfl, rfl, trivial⟩, H225⟩ ?_
  rintro m226 _ w228 ⟨k, acc, rr, rq, ho, rfl, hk, hm, hal, hrr, hgo, eb229, rfl, H230⟩
  refine W_seq (W_seq ?_)
  refine W_rg [(0, .q 0), (1, .q 0), (2, .q 0), (3, .q 0), (4, .q 0), (5, .q 0), (6, .q 0), (7, .q 0)] (by kernel_rfl) ?_
  refine Lx_mv (v := (.int .i64 (k : Int))) rfl rfl rfl (Lx_mv (v := (.int .i64 (((rdNum ((rdId ((rdAt ((rdAt ((rdNum q 2).2)).2)).2)).2) 64).1) : Int))) rfl rfl rfl (Lx_q rfl rfl _ (fun v235 hv236 => R_cmp (a := (k : Int)) (b := (((rdNum ((rdId ((rdAt ((rdAt ((rdNum q 2).2)).2)).2)).2) 64).1) : Int)) (r := (decide ((k : Int) < (((rdNum ((rdId ((rdAt ((rdAt ((rdNum q 2).2)).2)).2)).2) 64).1) : Int)))) rfl rfl rfl qk) (Lx_mv (v := (.bool (decide ((k : Int) < (((rdNum ((rdId ((rdAt ((rdAt ((rdNum q 2).2)).2)).2)).2) 64).1) : Int))))) rfl rfl rfl ?_)))
  refine Lx_qt rfl rfl rfl rfl rfl _ (fun hA v239 hv240 => R_fieldAddr (off := 1) (oo := 1) Tryz.underlying110 rfl rfl Tryz.sizeOf4 rfl rfl qk) (Lx_qt rfl rfl rfl rfl rfl _ (fun hA v241 hv242 => R_load1 (v := (.bool rr.bad)) Tryz.isAgg4 (gv_t hA) ((H230.ext hv242).bx 5 rfl 1 1 1 1 _ rfl rfl rfl) qk) (Lx_qt rfl rfl rfl rfl rfl _ (fun hA v243 hv244 => R_not (gv_t hA) qk) (Lx_q rfl rfl _ (fun v245 hv246 => R_pick rfl pk_and qk) ?_)))
  refine Lx_nil (fun w247 hw248 => ?_)
  have H249 := H230.ext hw248
  refine Then_n ?_
  refine W_cond rfl (fun hc250 => ?_) (fun hc250 => ?_)
  ·have hc250 : (((k : Int) < (((rdNum ((rdId ((rdAt ((rdAt ((rdNum q 2).2)).2)).2)).2) 64).1) : Int)) ∧ rr.bad = false) := (And.imp (fun h => (of_decide_eq_true h)) (fun h => (notT h)) (andT hc250))
   refine W_skip (Then_n (W_seq (W_block (W_seq (W_reg ?_)))))
   refine O_v rfl (R_loadA (cs := [[(slV rr.bh rr.b)], [(.bool rr.bad)]]) Tryz.isAgg110 Tryz.sizeOf110 rfl rfl (H249.bx 5 rfl 0 2 0 0 _ rfl rfl rfl) ?_)
   refine O_v rfl (R_callL (vs := [(aggOf (rdCh rr))]) cF110 rfl rfl ((ref03_GetStamp rr Fx rq w247 (H249.sl 0 rfl) (H249.imm _ (List.mem_of_getElem? (i := 0) rfl)).2 hrr).ret ?_))
   rintro _ w252 ⟨x251, rfl, hx253, hr254, hs255⟩
   have H256 := H249.ext hx253
   have H257 := H256.immOf 0 rfl (slI Fx encB 1 x251.bh x251.b) (fun _ h => h) (fun _ => hs255)
   refine O_mv (v := (.tuple #[(aggOf (stampCh ((rdAt rq).1))), (aggOf (rdCh x251))])) rfl rfl (O_ex (v := (aggOf (stampCh ((rdAt rq).1)))) rfl rfl rfl (O_ex (v := (aggOf (rdCh x251))) rfl rfl rfl ?_))
   refine O_v rfl (C_alloc H257 [[(.int .i64 0)], [(.int .i64 0)]] Tryz.zeroValue69 ?_)
   intro b258 w259 hb260 hx261 H262
   refine O_v rfl (C_alloc H262 [[(.slice none 0 0)], [(.bool false)]] Tryz.zeroValue110 ?_)
   intro b263 w264 hb265 hx266 H267
   refine O_u (C_storeW H267 1 rfl (sub := [[(.int .i64 (((rdAt rq).1).T))], [(.int .i64 (((rdAt rq).1).R))]]) Tryz.sizeOf69 rfl rfl rfl rfl rfl ?_)
   intro w268 hg269 H270
   refine O_u (C_storeW H270 0 rfl (sub := [[(slV x251.bh x251.b)], [(.bool x251.bad)]]) Tryz.sizeOf110 rfl rfl rfl rfl rfl ?_)
   intro w271 hg272 H273
   refine O_nil (Then_n (W_seq (W_reg ?_)))
   refine O_v rfl (R_fieldAddr (off := 40) (oo := 40) Tryz.underlying72 rfl rfl Tryz.sizeOf70 rfl rfl ?_)
   refine O_v rfl (R_load1 (v := (slV ho acc)) Tryz.isAgg70 rfl (H273.bx 6 rfl 9 1 40 40 _ rfl rfl rfl) ?_)
   refine O_v rfl (R_loadA (cs := [[(.int .i64 (((rdAt rq).1).T))], [(.int .i64 (((rdAt rq).1).R))]]) Tryz.isAgg69 Tryz.sizeOf69 rfl rfl (H273.bx 1 rfl 0 2 0 0 _ rfl rfl rfl) ?_)
   refine O_v rfl (C_buildSliceL H273 (enc := stampCh) (val := stampV) ([((rdAt rq).1)] : List Stamp) Tryz.underlying70 Tryz.sizeOf69 Tryz.zeroValue69 rfl (by decide) (fun _ => rfl) (fun _ => rfl) rfl rfl (by decide) ?_)
   intro b274 w275 hb276 hx277 H278
   refine O_v rfl (C_append H278 3 rfl (bytes := 16) (l := acc) (ys := ([((rdAt rq).1)] : List Stamp)) Tryz.underlying70 rfl rfl rfl rfl rfl (by decide) rfl rfl (OwnS.sl (H278.getOwn 0 rfl) (fun _ => rfl)) (fun _ => rfl) (fun _ => rfl) (by simp only [List.length_append, List.length_cons, List.length_nil]; omega) (by decide) ?_)
   intro h279 w280 hg281 H282
   refine O_v rfl (R_fieldAddr (off := 40) (oo := 40) Tryz.underlying72 rfl rfl Tryz.sizeOf70 rfl rfl ?_)
   refine O_u (C_store1 H282 7 rfl 9 (v := (slV h279 (acc ++ ([((rdAt rq).1)] : List Stamp)))) [[(.int .i64 (((rdNum q 2).1) : Int))], [(.int .i64 (((rdAt ((rdNum q 2).2)).1).T))], [(.int .i64 (((rdAt ((rdNum q 2).2)).1).R))], [(.int .i64 (((rdAt ((rdAt ((rdNum q 2).2)).2)).1).T))], [(.int .i64 (((rdAt ((rdAt ((rdNum q 2).2)).2)).1).R))], [(.int .i64 0)], [(.int .i64 0)], [(.string ByteArray.empty)], (idCells ((rdId ((rdAt ((rdAt ((rdNum q 2).2)).2)).2)).1)), [(slV h279 (acc ++ ([((rdAt rq).1)] : List Stamp)))]] Tryz.sizeOf70 rfl rfl rfl rfl rfl rfl rfl ?_)
   intro w283 hg284 H285
   refine O_nil (Then_n (W_reg ?_))
   refine O_v rfl (R_loadA (cs := [[(slV x251.bh x251.b)], [(.bool x251.bad)]]) Tryz.isAgg110 Tryz.sizeOf110 rfl rfl (H285.bx 1 rfl 0 2 0 0 _ rfl rfl rfl) ?_)
   refine O_u (C_storeW H285 8 rfl (sub := [[(slV x251.bh x251.b)], [(.bool x251.bad)]]) Tryz.sizeOf110 rfl rfl rfl rfl rfl ?_)
   intro w286 hg287 H288
   refine O_nil (Blk_n (Then_n (W_reg ?_)))
   refine O_mv (v := (.int .i64 (k : Int))) rfl rfl ?_
   refine O_v rfl (R_arith (a := (k : Int)) (b := 1) (r0 := (k : Int) + 1) (r := ((k + 1 : Nat) : Int)) rfl rfl rfl (wrapN _ (by omega)) ?_)
   refine O_as (v := (.int .i64 ((k + 1 : Nat) : Int))) rfl rfl ?_
   refine O_nil (Then_n ?_)
   have H289 := H288.sub (List.Sublist.cons _ (List.Sublist.cons _ (List.Sublist.cons _ (List.Sublist.cons_cons _ (List.Sublist.cons_cons _ (List.Sublist.cons_cons _ (List.Sublist.cons_cons _ (List.Sublist.cons_cons _ (List.Sublist.cons_cons _ (List.Sublist.cons_cons _ (List.Sublist.cons_cons _ (List.Sublist.cons_cons _ (List.Sublist.cons_cons _ (List.Sublist.cons_cons _ (List.Sublist.cons_cons _ (List.Sublist.cons_cons _ List.Sublist.slnil)))))))))))))))) (List.forall_mem_cons.2 ⟨List.mem_of_getElem? (i := 0) rfl, List.forall_mem_cons.2 ⟨List.mem_of_getElem? (i := 2) rfl, List.forall_mem_cons.2 ⟨List.mem_of_getElem? (i := 3) rfl, List.forall_mem_cons.2 ⟨List.mem_of_getElem? (i := 4) rfl, List.forall_mem_cons.2 ⟨List.mem_of_getElem? (i := 5) rfl, List.forall_mem_cons.2 ⟨List.mem_of_getElem? (i := 6) rfl, memN⟩⟩⟩⟩⟩⟩)
   refine ⟨_, ?_, (k + 1), (acc ++ ([((rdAt rq).1)] : List Stamp)), x251, ((rdAt rq).2), h279, rfl, (by omega), hm, (by simp only [List.length_append, List.length_cons, List.length_nil]; omega), hr254, (ats_next hgo (by omega)), _, envL_self ⟨rfl, rfl, rfl, rfl, rfl, rfl, trivial⟩, H289⟩
   omega
  ·have hc250 : (¬ ((k : Int) < (((rdNum ((rdId ((rdAt ((rdAt ((rdNum q 2).2)).2)).2)).2) 64).1) : Int)) ∨ rr.bad = true) := (Or.imp (fun h => (of_decide_eq_false h)) (fun h => (notF h)) (andF hc250))
   refine W_exit (Then_x (Then_x (Blk_x (Then_n (W_seq (W_seq ?_))))))
   refine W_rg [(0, .q 0), (1, .q 0), (2, .q 0), (3, .q 0), (4, .q 0), (5, .q 0), (6, .q 0)] (by kernel_rfl) ?_
   refine Lx_q rfl rfl _ (fun v290 hv291 => R_fieldAddr (off := 1) (oo := 1) Tryz.underlying110 rfl rfl Tryz.sizeOf4 rfl rfl qk) (Lx_q rfl rfl _ (fun v292 hv293 => R_load1 (v := (.bool rr.bad)) Tryz.isAgg4 rfl ((H249.ext hv293).bx 5 rfl 1 1 1 1 _ rfl rfl rfl) qk) (Lx_mv (v := (.bool rr.bad)) rfl rfl rfl (Lx_qf rfl rfl rfl rfl rfl _ (fun hA v296 hv297 => R_loadA (cs := [[(.int .i64 (((rdNum q 2).1) : Int))], [(.int .i64 (((rdAt ((rdNum q 2).2)).1).T))], [(.int .i64 (((rdAt ((rdNum q 2).2)).1).R))], [(.int .i64 (((rdAt ((rdAt ((rdNum q 2).2)).2)).1).T))], [(.int .i64 (((rdAt ((rdAt ((rdNum q 2).2)).2)).1).R))], [(.int .i64 0)], [(.int .i64 0)], [(.string ByteArray.empty)], (idCells ((rdId ((rdAt ((rdAt ((rdNum q 2).2)).2)).2)).1)), [(slV ho acc)]]) Tryz.isAgg72 Tryz.sizeOf72 rfl rfl ((H249.ext hv297).bx 4 rfl 0 10 0 0 _ rfl rfl rfl) qk) ?_)))
   refine Lx_qf rfl rfl rfl rfl rfl (.bool (goodOp ({ kind := (((rdNum q 2).1) : Int), tm := ((rdAt ((rdNum q 2).2)).1), node := ((rdAt ((rdAt ((rdNum q 2).2)).2)).1), par := ({ T := 0, R := 0 } : Stamp), name := ByteArray.empty, data := (rdId ((rdAt ((rdAt ((rdNum q 2).2)).2)).2)).1, over := acc, oh := ho } : OpS))) (fun hA v298 hv299 => R_callL (vs := [(aggOf [[(.int .i64 (((rdNum q 2).1) : Int))], [(.int .i64 (((rdAt ((rdNum q 2).2)).1).T))], [(.int .i64 (((rdAt ((rdNum q 2).2)).1).R))], [(.int .i64 (((rdAt ((rdAt ((rdNum q 2).2)).2)).1).T))], [(.int .i64 (((rdAt ((rdAt ((rdNum q 2).2)).2)).1).R))], [(.int .i64 0)], [(.int .i64 0)], [(.string ByteArray.empty)], (idCells ((rdId ((rdAt ((rdAt ((rdNum q 2).2)).2)).2)).1)), [(slV ho acc)]])]) cF61 rfl (lst1 (gv_t hA)) (ref03_Good ({ kind := (((rdNum q 2).1) : Int), tm := ((rdAt ((rdNum q 2).2)).1), node := ((rdAt ((rdAt ((rdNum q 2).2)).2)).1), par := ({ T := 0, R := 0 } : Stamp), name := ByteArray.empty, data := (rdId ((rdAt ((rdAt ((rdNum q 2).2)).2)).2)).1, over := acc, oh := ho } : OpS) v298 ((H249.ext hv299).rowSl 0 rfl (fun _ => rfl)) (Nat.zero_le _))) (Lx_qf rfl rfl rfl rfl rfl _ (fun hA v300 hv301 => R_not (gv_t hA) qk) (Lx_q rfl rfl _ (fun v302 hv303 => R_pick rfl pk_or qk) ?_))
   refine Lx_nil (fun w304 hw305 => ?_)
   have H306 := H249.ext hw305
   refine Then_n ?_
   refine W_cond rfl (fun hc307 => ?_) (fun hc307 => ?_)
   ·have hc307 : (rr.bad = true ∨ (goodOp ({ kind := (((rdNum q 2).1) : Int), tm := ((rdAt ((rdNum q 2).2)).1), node := ((rdAt ((rdAt ((rdNum q 2).2)).2)).1), par := ({ T := 0, R := 0 } : Stamp), name := ByteArray.empty, data := (rdId ((rdAt ((rdAt ((rdNum q 2).2)).2)).2)).1, over := acc, oh := ho } : OpS)) = false) := (Or.imp (fun h => h) (fun h => (notT h)) (orT hc307))
    refine W_seq (W_reg ?_)
    refine O_v rfl (R_buildL (vs := []) (v := aggOf [[(.int .i64 0)], [(.int .i64 0)], [(.int .i64 0)], [(.int .i64 0)], [(.int .i64 0)], [(.int .i64 0)], [(.int .i64 0)], [(.string ByteArray.empty)], (idCells zeroId), [(.slice none 0 0)]]) rfl (fun _ => by kernel_rfl) ?_)
    refine O_v rfl (R_buildL (vs := [(1, (.bool true))]) (v := aggOf [[(.slice none 0 0)], [(.bool true)]]) rfl (fun _ => by kernel_rfl) ?_)
    refine O_u (C_storeW H306 11 rfl (sub := [[(.int .i64 0)], [(.int .i64 0)], [(.int .i64 0)], [(.int .i64 0)], [(.int .i64 0)], [(.int .i64 0)], [(.int .i64 0)], [(.string ByteArray.empty)], (idCells zeroId), [(.slice none 0 0)]]) Tryz.sizeOf72 rfl rfl rfl rfl rfl ?_)
    intro w308 hg309 H310
    refine O_u (C_storeW H310 10 rfl (sub := [[(.slice none 0 0)], [(.bool true)]]) Tryz.sizeOf110 rfl rfl rfl rfl rfl ?_)
    intro w311 hg312 H313
    refine O_nil (Then_n (W_ret (Then_r ?_)))
    refine ret_cc Tryz.results77 (inMem (cs := [[(.int .i64 0)], [(.int .i64 0)], [(.int .i64 0)], [(.int .i64 0)], [(.int .i64 0)], [(.int .i64 0)], [(.int .i64 0)], [(.string ByteArray.empty)], (idCells zeroId), [(.slice none 0 0)]]) rfl Tryz.isAgg72 Tryz.sizeOf72 rfl (boxR_at (H313.getOwn 11 rfl))) (inMem (cs := [[(.slice none 0 0)], [(.bool true)]]) rfl Tryz.isAgg110 Tryz.sizeOf110 rfl (boxR_at (H313.getOwn 10 rfl))) ?_
    have H314 := H313.addNil 69 2 stampCh
    exact ⟨({ kind := 0, tm := ({ T := 0, R := 0 } : Stamp), node := ({ T := 0, R := 0 } : Stamp), par := ({ T := 0, R := 0 } : Stamp), name := ByteArray.empty, data := zeroId, over := [], oh := nilH } : OpS), ({ b := [], bh := nilH, bad := true } : RdS), rfl, H314.gr, H314.retRow 0 rfl, (congrArg Prod.fst (opR_failE hK hrr hgo hc250 hc307)).symm, (congrArg Prod.snd (opR_failE hK hrr hgo hc250 hc307)).symm, (Sl.nil _ _ _ _)⟩
   ·have hc307 : (rr.bad = false ∧ (goodOp ({ kind := (((rdNum q 2).1) : Int), tm := ((rdAt ((rdNum q 2).2)).1), node := ((rdAt ((rdAt ((rdNum q 2).2)).2)).1), par := ({ T := 0, R := 0 } : Stamp), name := ByteArray.empty, data := (rdId ((rdAt ((rdAt ((rdNum q 2).2)).2)).2)).1, over := acc, oh := ho } : OpS)) = true) := (And.imp (fun h => h) (fun h => (notF h)) (orF hc307))
    refine W_skip (Then_n (W_seq ?_))
    refine W_rgdM TryzMixed (fun c => c = b9) (fun i => if i == 2 then 1 else if i == 3 then 2 else 0) [(0, .q 1), (1, .q 1), (2, .c 1), (3, .c 2)] (by kernel_rfl) ?_
    refine Lx_q rfl rfl _ (fun v315 hv316 => R_loadA (cs := [[(.int .i64 (((rdNum q 2).1) : Int))], [(.int .i64 (((rdAt ((rdNum q 2).2)).1).T))], [(.int .i64 (((rdAt ((rdNum q 2).2)).1).R))], [(.int .i64 (((rdAt ((rdAt ((rdNum q 2).2)).2)).1).T))], [(.int .i64 (((rdAt ((rdAt ((rdNum q 2).2)).2)).1).R))], [(.int .i64 0)], [(.int .i64 0)], [(.string ByteArray.empty)], (idCells ((rdId ((rdAt ((rdAt ((rdNum q 2).2)).2)).2)).1)), [(slV ho acc)]]) Tryz.isAgg72 Tryz.sizeOf72 rfl rfl ((boxR_at (H306.ownGr 4 11 (by decide) rfl rfl hv316 (fun _ h => congrArg some h.symm))).chunks 0 10 0 0 _ rfl rfl rfl) qk) (Lx_q rfl rfl _ (fun v317 hv318 => R_loadA (cs := [[(slV rr.bh rr.b)], [(.bool rr.bad)]]) Tryz.isAgg110 Tryz.sizeOf110 rfl rfl ((boxR_at (H306.ownGr 5 11 (by decide) rfl rfl hv318 (fun _ h => congrArg some h.symm))).chunks 0 2 0 0 _ rfl rfl rfl) qk) ?_)
    refine Lx_cu rfl (fun w319 hw320 => ?_)
    have H321 := H306.ext hw320
    refine (C_storeW H321 11 rfl (sub := [[(.int .i64 (((rdNum q 2).1) : Int))], [(.int .i64 (((rdAt ((rdNum q 2).2)).1).T))], [(.int .i64 (((rdAt ((rdNum q 2).2)).1).R))], [(.int .i64 (((rdAt ((rdAt ((rdNum q 2).2)).2)).1).T))], [(.int .i64 (((rdAt ((rdAt ((rdNum q 2).2)).2)).1).R))], [(.int .i64 0)], [(.int .i64 0)], [(.string ByteArray.empty)], (idCells ((rdId ((rdAt ((rdAt ((rdNum q 2).2)).2)).2)).1)), [(slV ho acc)]]) Tryz.sizeOf72 rfl rfl rfl rfl rfl ?_)
    intro w322 hg323 H324
    refine ⟨Gr.mono hg323 (fun _ h => (Option.some.inj h).symm), ?_⟩
    refine Lx_cu rfl (fun w325 hw326 => ?_)
    have H327 := H324.ext hw326
    refine (C_storeW H327 10 rfl (sub := [[(slV rr.bh rr.b)], [(.bool rr.bad)]]) Tryz.sizeOf110 rfl rfl rfl rfl rfl ?_)
    intro w328 hg329 H330
    refine ⟨Gr.mono (M' := fun _ => True) hg329 (fun _ _ => trivial), ?_⟩
    refine Lx_nil (fun w331 hw332 => ?_)
    have H333 := H330.ext hw332
    refine Then_n (W_ret ?_)
    refine ret_cc Tryz.results77 (inMem (cs := [[(.int .i64 (((rdNum q 2).1) : Int))], [(.int .i64 (((rdAt ((rdNum q 2).2)).1).T))], [(.int .i64 (((rdAt ((rdNum q 2).2)).1).R))], [(.int .i64 (((rdAt ((rdAt ((rdNum q 2).2)).2)).1).T))], [(.int .i64 (((rdAt ((rdAt ((rdNum q 2).2)).2)).1).R))], [(.int .i64 0)], [(.int .i64 0)], [(.string ByteArray.empty)], (idCells ((rdId ((rdAt ((rdAt ((rdNum q 2).2)).2)).2)).1)), [(slV ho acc)]]) rfl Tryz.isAgg72 Tryz.sizeOf72 rfl (boxR_at (H333.getOwn 11 rfl))) (inMem (cs := [[(slV rr.bh rr.b)], [(.bool rr.bad)]]) rfl Tryz.isAgg110 Tryz.sizeOf110 rfl (boxR_at (H333.getOwn 10 rfl))) ?_
    exact ⟨({ kind := (((rdNum q 2).1) : Int), tm := ((rdAt ((rdNum q 2).2)).1), node := ((rdAt ((rdAt ((rdNum q 2).2)).2)).1), par := ({ T := 0, R := 0 } : Stamp), name := ByteArray.empty, data := (rdId ((rdAt ((rdAt ((rdNum q 2).2)).2)).2)).1, over := acc, oh := ho } : OpS), rr, rfl, H333.gr, H333.retRow 0 rfl, (congrArg Prod.fst (opR_okE hK hrr hgo hc250 hc307)).symm, (hrr.trans (congrArg Prod.snd (opR_okE hK hrr hgo hc250 hc307)).symm), (H333.sl 0 rfl)⟩
set_option maxHeartbeats 1000000 in
theorem ref01_Cmp (a : ID) (b : ID) (w : World) :
    Calls Tryz.prog 36 #[(aggOf (idCh a)), (aggOf (idCh b))] w (Ret fun v w' => v = (.int .i64 (cmpId a b)) ∧ Ext w w') := by
 refine calls_W Tryz.func36 rfl Tryz.ntmps36 rfl ?_
 have H0 := Ctx.start w nob
 refine W_seq (W_reg ?_)
 refine O_v rfl (C_box H0 [(idCells a)] rfl ?_)
 intro b1 w2 hb3 hx4 H5
 refine O_v rfl (C_box H5 [(idCells b)] rfl ?_)
 intro b6 w7 hb8 hx9 H10
 refine O_as (v := (.int .i64 0)) rfl rfl ?_
 refine O_nil (Then_n (W_seq (W_seq (W_reg ?_))))
 refine O_as (v := (.int .i64 0)) rfl rfl ?_
 refine O_nil (Then_n (W_block ?_))
 refine W_loop (fun m11 e12 w13 => ∃ (k : Nat), m11 = 32 - k ∧ (k ≤ 32) ∧ (∀ i, i < k → nth (idList a) i = nth (idList b) i) ∧ ∃ eb14, e12 = envL [(2, (.pointer (some ⟨b1, 0, none⟩))), (3, (.pointer (some ⟨b6, 0, none⟩))), (5, (.int .i64 (k : Int)))] eb14 ∧ Ctx w nob w13 [boxR b6 44 [(idCells b)], boxR b1 44 [(idCells a)]] []) _ ⟨0, rfl, (by omega), (all_zero _), _, envL_self ⟨rfl, rfl, rfl, trivial⟩, H10⟩ ?_
 rintro m11 _ w13 ⟨k, rfl, hk, hn, eb14, rfl, H15⟩
 refine W_seq (W_seq (W_reg ?_))
 refine O_mv (v := (.int .i64 (k : Int))) rfl rfl ?_
 refine O_v rfl (R_cmp (a := (k : Int)) (b := 32) (r := (decide ((k : Int) < 32))) rfl rfl rfl ?_)
 refine O_nil (Then_n ?_)
 refine W_cond rfl (fun hc16 => ?_) (fun hc16 => ?_)
 ·have hc16 := (of_decide_eq_true hc16)
  refine W_skip (Then_n (W_seq (W_block (W_seq (W_seq ?_)))))
  refine W_rgd TryzMixed [(0, .q 0), (1, .q 0), (2, .q 0), (3, .q 0), (4, .q 0), (5, .q 0), (6, .q 0)] (by kernel_rfl) ?_
  refine Lx_mv (v := (.int .i64 (k : Int))) rfl rfl rfl (Lx_q rfl rfl _ (fun v19 hv20 => R_index_array (n := 32) (k := 1) (o := 0) (oo := (0 + k * 1)) (j := (k : Int)) Tryz.underlying44 Tryz.sizeOf5 rfl rfl (by omega) (by omega) rfl qk) (Lx_q rfl rfl _ (fun v21 hv22 => R_load1 (v := (.int .u8 ((nth (idList a) k).toNat : Int))) Tryz.isAgg5 rfl ((Sl.elem (Sl_box ((H15.ext hv22).getOwn 1 rfl)) (i := k) (by rw [idList_len]; omega) rfl).chunks 0 1 0 (0 + k * 1) _ rfl rfl rfl) qk) (Lx_mv (v := (.int .i64 (k : Int))) rfl rfl rfl ?_)))
  refine Lx_q rfl rfl _ (fun v25 hv26 => R_index_array (n := 32) (k := 1) (o := 0) (oo := (0 + k * 1)) (j := (k : Int)) Tryz.underlying44 Tryz.sizeOf5 rfl rfl (by omega) (by omega) rfl qk) (Lx_q rfl rfl _ (fun v27 hv28 => R_load1 (v := (.int .u8 ((nth (idList b) k).toNat : Int))) Tryz.isAgg5 rfl ((Sl.elem (Sl_box ((H15.ext hv28).getOwn 0 rfl)) (i := k) (by rw [idList_len]; omega) rfl).chunks 0 1 0 (0 + k * 1) _ rfl rfl rfl) qk) (Lx_q rfl rfl _ (fun v29 hv30 => R_cmp (a := ((nth (idList a) k).toNat : Int)) (b := ((nth (idList b) k).toNat : Int)) (r := (decide (((nth (idList a) k).toNat : Int) < ((nth (idList b) k).toNat : Int)))) rfl rfl rfl qk) ?_))
  refine Lx_nil (fun w31 hw32 => ?_)
  have H33 := H15.ext hw32
  refine Then_n ?_
  refine W_cond rfl (fun hc34 => ?_) (fun hc34 => ?_)
  ·have hc34 := (of_decide_eq_true hc34)
   refine W_seq (W_reg ?_)
   refine O_as (v := (.int .i64 (-1))) rfl rfl ?_
   refine O_nil (Then_n (W_ret (Then_r (Blk_r (Then_r (Then_r (Blk_r (Then_r ?_))))))))
   refine ret_1 (v := (.int .i64 (-1))) Tryz.results36 rfl ?_
   exact ⟨(rcmp_lt hn (by assumption) (by assumption)), H33.gr⟩
  ·have hc34 := (of_decide_eq_false hc34)
   refine W_skip (Then_n (W_seq ?_))
   refine W_rgd TryzMixed [(0, .q 0), (1, .q 0), (2, .q 0), (3, .q 0), (4, .q 0), (5, .q 0), (6, .q 0)] (by kernel_rfl) ?_
   refine Lx_mv (v := (.int .i64 (k : Int))) rfl rfl rfl (Lx_q rfl rfl _ (fun v37 hv38 => R_index_array (n := 32) (k := 1) (o := 0) (oo := (0 + k * 1)) (j := (k : Int)) Tryz.underlying44 Tryz.sizeOf5 rfl rfl (by omega) (by omega) rfl qk) (Lx_q rfl rfl _ (fun v39 hv40 => R_load1 (v := (.int .u8 ((nth (idList a) k).toNat : Int))) Tryz.isAgg5 rfl ((Sl.elem (Sl_box ((H33.ext hv40).getOwn 1 rfl)) (i := k) (by rw [idList_len]; omega) rfl).chunks 0 1 0 (0 + k * 1) _ rfl rfl rfl) qk) (Lx_mv (v := (.int .i64 (k : Int))) rfl rfl rfl ?_)))
   refine Lx_q rfl rfl _ (fun v43 hv44 => R_index_array (n := 32) (k := 1) (o := 0) (oo := (0 + k * 1)) (j := (k : Int)) Tryz.underlying44 Tryz.sizeOf5 rfl rfl (by omega) (by omega) rfl qk) (Lx_q rfl rfl _ (fun v45 hv46 => R_load1 (v := (.int .u8 ((nth (idList b) k).toNat : Int))) Tryz.isAgg5 rfl ((Sl.elem (Sl_box ((H33.ext hv46).getOwn 0 rfl)) (i := k) (by rw [idList_len]; omega) rfl).chunks 0 1 0 (0 + k * 1) _ rfl rfl rfl) qk) (Lx_q rfl rfl _ (fun v47 hv48 => R_cmp (a := ((nth (idList a) k).toNat : Int)) (b := ((nth (idList b) k).toNat : Int)) (r := (decide (((nth (idList b) k).toNat : Int) < ((nth (idList a) k).toNat : Int)))) rfl rfl rfl qk) ?_))
   refine Lx_nil (fun w49 hw50 => ?_)
   have H51 := H33.ext hw50
   refine Then_n ?_
   refine W_cond rfl (fun hc52 => ?_) (fun hc52 => ?_)
   ·have hc52 := (of_decide_eq_true hc52)
    refine W_seq (W_reg ?_)
    refine O_as (v := (.int .i64 1)) rfl rfl ?_
    refine O_nil (Then_n (W_ret (Blk_r (Then_r (Then_r (Blk_r (Then_r ?_)))))))
    refine ret_1 (v := (.int .i64 1)) Tryz.results36 rfl ?_
    exact ⟨(rcmp_gt hn (by assumption) (by assumption)), H51.gr⟩
   ·have hc52 := (of_decide_eq_false hc52)
    refine W_skip (Blk_n (Then_n (W_reg ?_)))
    refine O_mv (v := (.int .i64 (k : Int))) rfl rfl ?_
    refine O_v rfl (R_arith (a := (k : Int)) (b := 1) (r0 := (k : Int) + 1) (r := ((k + 1 : Nat) : Int)) rfl rfl rfl (wrapN _ (by omega)) ?_)
    refine O_as (v := (.int .i64 ((k + 1 : Nat) : Int))) rfl rfl ?_
    refine O_nil (Then_n ?_)
    refine ⟨_, ?_, (k + 1), rfl, (by omega), (all_succ hn (UInt8.toNat_inj.1 (by omega))), _, envL_self ⟨rfl, rfl, rfl, trivial⟩, H51⟩
    omega
 ·have hc16 := (of_decide_eq_false hc16)
  refine W_exit (Then_x (Then_x (Blk_x (Then_n (W_seq (W_reg ?_))))))
  refine O_as (v := (.int .i64 0)) rfl rfl ?_
  refine O_nil (Then_n (W_ret ?_))
  refine ret_1 (v := (.int .i64 0)) Tryz.results36 rfl ?_
  exact ⟨(rcmp_eq hn (by omega)), H15.gr⟩
set_option maxHeartbeats 1000000 in
theorem ref04_zero (id : ID) (w : World) :
    Calls Tryz.prog 60 #[(aggOf (idCh id))] w (Ret fun v w' => v = (.bool (decide (id = zeroId))) ∧ Ext w w') := by
 refine calls_W Tryz.func60 rfl Tryz.ntmps60 rfl ?_
 have H0 := Ctx.start w nob
 refine W_seq (W_reg ?_)
 refine O_v rfl (C_box H0 [(idCells id)] rfl ?_)
 intro b1 w2 hb3 hx4 H5
 refine O_as (v := (.bool false)) rfl rfl ?_
 refine O_nil (Then_n (W_seq (W_reg ?_)))
 refine O_v rfl (R_loadA (cs := [(idCells id)]) Tryz.isAgg44 Tryz.sizeOf44 rfl rfl (H5.bx 0 rfl 0 1 0 0 _ rfl rfl rfl) ?_)
 refine O_v rfl (R_buildL (vs := []) (v := aggOf [(idCells zeroId)]) rfl (fun _ => by kernel_rfl) ?_)
 refine O_v rfl (R_eqv (a := id) (b := zeroId) eqv_ID44 rfl Tryz.eqGuardType44 rfl rfl ?_)
 refine O_as (v := (.bool (decide (id = zeroId)))) rfl rfl ?_
 refine O_nil (Then_n (W_ret ?_))
 refine ret_1 (v := (.bool (decide (id = zeroId)))) Tryz.results60 rfl ?_
 exact ⟨rfl, H5.gr⟩
theorem cF36 : callable Tryz.prog 36 = true := by kernel_rfl
theorem cF60 : callable Tryz.prog 60 = true := by kernel_rfl
set_option maxHeartbeats 4000000 in
theorem ref04_RightChange (c : ChangeS) (w : World) (Sc_parents : Sl (Old w) idCh 32 c.ph c.parents w) (Sc_ops : Sl (Old w) opCh 41 c.oh c.ops w) (Dc_over : ∀ x ∈ c.ops, Sl (Old w) stampCh 2 x.oh x.over w) (hl : ∀ o ∈ c.ops, o.name.size ≤ 9223372036854775807) :
    Calls Tryz.prog 24 #[(aggOf (changeCh c))] w (Ret fun v w' => v = (.bool (changeOk c)) ∧ Ext w w') := by
 refine calls_W Tryz.func24 rfl Tryz.ntmps24 rfl ?_
 have H0 := Ctx.start w nob
 have H1 := H0.addSl _ Sc_parents (fun b hb => ⟨hb, fun _ ho => (nomatch ho)⟩)
 have LSc_parents := Sc_parents.len
 have H2 := H1.addSl _ Sc_ops (fun b hb => ⟨hb, fun _ ho => (nomatch ho)⟩)
 have LSc_ops := Sc_ops.len
 have H3 := H2.addImm' (deepI (Old w) stampCh 2 (fun x : OpS => x.oh) (fun x : OpS => x.over) c.ops) Dc_over (fun b hb => ⟨hb, fun _ ho => (nomatch ho)⟩)
 refine W_seq (W_reg ?_)
 refine O_v rfl (C_box H3 [[(slV c.ph c.parents)], [(.int .i64 c.time)], [(.int .i64 c.r)], [(slV c.oh c.ops)], (idCells c.tree), [(.string c.msg)]] rfl ?_)
 intro b4 w5 hb6 hx7 H8
 refine O_as (v := (.bool false)) rfl rfl ?_
 refine O_nil (Then_n (W_seq (W_seq (W_reg ?_))))
 refine O_as (v := (.int .i64 0)) rfl rfl ?_
 refine O_nil (Then_n (W_block ?_))
 refine W_loop (fun m9 e10 w11 => ∃ (k : Nat), m9 = c.parents.length - k ∧ (k ≤ c.parents.length) ∧ (∀ i, i < k → ¬ nth c.parents i = zeroId ∧ (¬ (0 : Int) < (i : Int) ∨ cmpId (nth c.parents (i - 1)) (nth c.parents i) = -1)) ∧ ∃ eb12, e10 = envL [(1, (.pointer (some ⟨b4, 0, none⟩))), (3, (.int .i64 (k : Int)))] eb12 ∧ Ctx w nob w11 [boxR b4 47 [[(slV c.ph c.parents)], [(.int .i64 c.time)], [(.int .i64 c.r)], [(slV c.oh c.ops)], (idCells c.tree), [(.string c.msg)]]] [deepI (Old w) stampCh 2 (fun x : OpS => x.oh) (fun x : OpS => x.over) c.ops, slI (Old w) opCh 41 c.oh c.ops, slI (Old w) idCh 32 c.ph c.parents]) _ ⟨0, rfl, (by omega), (all_zero _), _, envL_self ⟨rfl, rfl, trivial⟩, H8⟩ ?_
 rintro m9 _ w11 ⟨k, rfl, hk, h1, eb12, rfl, H13⟩
 refine W_seq (W_seq (W_reg ?_))
 refine O_mv (v := (.int .i64 (k : Int))) rfl rfl ?_
 refine O_v rfl (R_fieldAddr (off := 0) (oo := 0) Tryz.underlying47 rfl rfl Tryz.sizeOf39 rfl rfl ?_)
 refine O_v rfl (R_load1 (v := (slV c.ph c.parents)) Tryz.isAgg39 rfl (H13.bx 0 rfl 0 1 0 0 _ rfl rfl rfl) ?_)
 refine O_v rfl (R_len_slice (a := c.ph.a) (n := c.parents.length) (c := c.ph.c) Tryz.underlying39 rfl ?_)
 refine O_v rfl (R_cmp (a := (k : Int)) (b := (c.parents.length : Int)) (r := (decide ((k : Int) < (c.parents.length : Int)))) rfl rfl rfl ?_)
 refine O_nil (Then_n ?_)
 refine W_cond rfl (fun hc14 => ?_) (fun hc14 => ?_)
 ·have hc14 := (of_decide_eq_true hc14)
  refine W_skip (Then_n (W_seq (W_block (W_seq ?_))))
  refine W_rgd TryzMixed [(0, .q 0), (1, .q 0), (2, .q 0), (3, .q 0), (4, .q 0), (5, .q 0), (6, .q 0), (7, .q 0), (8, .q 0), (9, .q 0), (10, .q 0), (11, .q 0), (12, .q 0), (13, .q 0), (14, .q 0), (15, .q 0), (16, .q 0), (17, .q 0), (18, .q 0), (19, .q 0), (20, .q 0), (21, .q 0), (22, .q 0), (23, .q 0), (24, .q 0)] (by kernel_rfl) ?_
  refine Lx_q rfl rfl _ (fun v15 hv16 => R_fieldAddr (off := 0) (oo := 0) Tryz.underlying47 rfl rfl Tryz.sizeOf39 rfl rfl qk) (Lx_q rfl rfl _ (fun v17 hv18 => R_load1 (v := (slV c.ph c.parents)) Tryz.isAgg39 rfl ((H13.ext hv18).bx 0 rfl 0 1 0 0 _ rfl rfl rfl) qk) (Lx_mv (v := (.int .i64 (k : Int))) rfl rfl rfl (Lx_q rfl rfl _ (fun v21 hv22 => R_index_pure (H13.sl 2 rfl) (n := c.parents.length) rfl (j := (k : Int)) (oo := (c.ph.o + k * 32)) Tryz.underlying39 Tryz.sizeOf45 rfl rfl (by omega) (by omega) rfl qk) ?_)))
  refine Lx_q rfl rfl _ (fun v23 hv24 => R_loadA (cs := [(idCells (nth c.parents k))]) Tryz.isAgg45 Tryz.sizeOf45 rfl rfl ((Sl.elem ((H13.ext hv24).sl 2 rfl) (i := k) (by omega) rfl).chunks 0 1 0 (c.ph.o + k * 32) _ rfl rfl rfl) qk) (Lx_q rfl rfl (.bool (decide ((nth c.parents k) = zeroId))) (fun v25 hv26 => R_callL (vs := [(aggOf (idCh (nth c.parents k)))]) cF60 rfl rfl (ref04_zero (nth c.parents k) v25 )) (Lx_mv (v := (.bool (decide ((nth c.parents k) = zeroId)))) rfl rfl rfl (Lx_qf rfl rfl rfl rfl rfl _ (fun hA v29 hv30 => R_move (v := (.int .i64 (k : Int))) rfl qk) ?_)))
  refine Lx_qf rfl rfl rfl rfl rfl _ (fun hA v31 hv32 => R_cmp (a := (k : Int)) (b := 0) (r := (decide (0 < (k : Int)))) (gv_t hA) rfl rfl qk) (Lx_qf rfl rfl rfl rfl rfl _ (fun hA v33 hv34 => R_move (v := (.bool (decide (0 < (k : Int))))) (gv_t hA) qk) (Lx_gt (!(decide ((nth c.parents k) = zeroId))) (decide (0 < (k : Int))) rfl rfl rfl rfl rfl _ (fun hA v35 hv36 => R_fieldAddr (off := 0) (oo := 0) Tryz.underlying47 rfl rfl Tryz.sizeOf39 rfl rfl qk) (Lx_gt (!(decide ((nth c.parents k) = zeroId))) (decide (0 < (k : Int))) rfl rfl rfl rfl rfl _ (fun hA v37 hv38 => R_load1 (v := (slV c.ph c.parents)) Tryz.isAgg39 (gv_t hA) ((H13.ext hv38).bx 0 rfl 0 1 0 0 _ rfl rfl rfl) qk) ?_)))
  refine Lx_gt (!(decide ((nth c.parents k) = zeroId))) (decide (0 < (k : Int))) rfl rfl rfl rfl rfl _ (fun hA v39 hv40 => R_move (v := (.int .i64 (k : Int))) rfl qk) ?_
  refine Lx_gt (!(decide ((nth c.parents k) = zeroId))) (decide (0 < (k : Int))) rfl rfl rfl rfl rfl _ (fun hA v41 hv42 => by
        have hP : (¬ ((nth c.parents k) = zeroId) ∧ (0 < (k : Int))) := (And.imp (fun h => (of_decide_eq_false (notT h))) (fun h => (of_decide_eq_true h)) (andT hA))
        exact R_arith (a := (k : Int)) (b := 1) (r0 := (k : Int) - 1) (r := ((k - 1 : Nat) : Int)) (gv_t hA) rfl rfl (wrapP _ (by omega) (by omega)) qk) ?_
  refine Lx_gt (!(decide ((nth c.parents k) = zeroId))) (decide (0 < (k : Int))) rfl rfl rfl rfl rfl _ (fun hA v43 hv44 => by
        have hP : (¬ ((nth c.parents k) = zeroId) ∧ (0 < (k : Int))) := (And.imp (fun h => (of_decide_eq_false (notT h))) (fun h => (of_decide_eq_true h)) (andT hA))
        exact R_index_pure (H13.sl 2 rfl) (n := c.parents.length) rfl (j := ((k - 1 : Nat) : Int)) (oo := (c.ph.o + (k - 1) * 32)) Tryz.underlying39 Tryz.sizeOf45 (gv_t hA) (gv_t hA) (by omega) (by omega) rfl qk) ?_
  refine Lx_gt (!(decide ((nth c.parents k) = zeroId))) (decide (0 < (k : Int))) rfl rfl rfl rfl rfl _ (fun hA v45 hv46 => by
        have hP : (¬ ((nth c.parents k) = zeroId) ∧ (0 < (k : Int))) := (And.imp (fun h => (of_decide_eq_false (notT h))) (fun h => (of_decide_eq_true h)) (andT hA))
        exact R_loadA (cs := [(idCells (nth c.parents (k - 1)))]) Tryz.isAgg45 Tryz.sizeOf45 rfl (gv_t hA) ((Sl.elem ((H13.ext hv46).sl 2 rfl) (i := (k - 1)) (by omega) rfl).chunks 0 1 0 (c.ph.o + (k - 1) * 32) _ rfl rfl rfl) qk) ?_
  refine Lx_gt (!(decide ((nth c.parents k) = zeroId))) (decide (0 < (k : Int))) rfl rfl rfl rfl rfl _ (fun hA v47 hv48 => R_fieldAddr (off := 0) (oo := 0) Tryz.underlying47 rfl rfl Tryz.sizeOf39 rfl rfl qk) (Lx_gt (!(decide ((nth c.parents k) = zeroId))) (decide (0 < (k : Int))) rfl rfl rfl rfl rfl _ (fun hA v49 hv50 => R_load1 (v := (slV c.ph c.parents)) Tryz.isAgg39 (gv_t hA) ((H13.ext hv50).bx 0 rfl 0 1 0 0 _ rfl rfl rfl) qk) (Lx_gt (!(decide ((nth c.parents k) = zeroId))) (decide (0 < (k : Int))) rfl rfl rfl rfl rfl _ (fun hA v51 hv52 => R_move (v := (.int .i64 (k : Int))) rfl qk) ?_))
  refine Lx_gt (!(decide ((nth c.parents k) = zeroId))) (decide (0 < (k : Int))) rfl rfl rfl rfl rfl _ (fun hA v53 hv54 => by
        have hP : (¬ ((nth c.parents k) = zeroId) ∧ (0 < (k : Int))) := (And.imp (fun h => (of_decide_eq_false (notT h))) (fun h => (of_decide_eq_true h)) (andT hA))
        exact R_index_pure (H13.sl 2 rfl) (n := c.parents.length) rfl (j := (k : Int)) (oo := (c.ph.o + k * 32)) Tryz.underlying39 Tryz.sizeOf45 (gv_t hA) (gv_t hA) (by omega) (by omega) rfl qk) ?_
  refine Lx_gt (!(decide ((nth c.parents k) = zeroId))) (decide (0 < (k : Int))) rfl rfl rfl rfl rfl _ (fun hA v55 hv56 => by
        have hP : (¬ ((nth c.parents k) = zeroId) ∧ (0 < (k : Int))) := (And.imp (fun h => (of_decide_eq_false (notT h))) (fun h => (of_decide_eq_true h)) (andT hA))
        exact R_loadA (cs := [(idCells (nth c.parents k))]) Tryz.isAgg45 Tryz.sizeOf45 rfl (gv_t hA) ((Sl.elem ((H13.ext hv56).sl 2 rfl) (i := k) (by omega) rfl).chunks 0 1 0 (c.ph.o + k * 32) _ rfl rfl rfl) qk) ?_
  refine Lx_gt (!(decide ((nth c.parents k) = zeroId))) (decide (0 < (k : Int))) rfl rfl rfl rfl rfl (.int .i64 (cmpId (nth c.parents (k - 1)) (nth c.parents k))) (fun hA v57 hv58 => R_callL (vs := [(aggOf (idCh (nth c.parents (k - 1)))), (aggOf (idCh (nth c.parents k)))]) cF36 rfl (lst2 (gv_t hA) (gv_t hA)) (ref01_Cmp (nth c.parents (k - 1)) (nth c.parents k) v57 )) (Lx_gt (!(decide ((nth c.parents k) = zeroId))) (decide (0 < (k : Int))) rfl rfl rfl rfl rfl _ (fun hA v59 hv60 => R_cmp (a := cmpId (nth c.parents (k - 1)) (nth c.parents k)) (b := (-1)) (r := (!(decide (cmpId (nth c.parents (k - 1)) (nth c.parents k) = (-1))))) (gv_t hA) rfl rfl qk) (Lx_qf rfl rfl rfl rfl rfl _ (fun hA v61 hv62 => R_pick (gv_t hA) (pk_andA hA) qk) (Lx_q rfl rfl _ (fun v63 hv64 => R_pick rfl pk_or qk) ?_)))
  refine Lx_nil (fun w65 hw66 => ?_)
  have H67 := H13.ext hw66
  refine Then_n ?_
  refine W_cond rfl (fun hc68 => ?_) (fun hc68 => ?_)
  ·have hc68 : (((nth c.parents k) = zeroId) ∨ ((0 < (k : Int)) ∧ ¬ (cmpId (nth c.parents (k - 1)) (nth c.parents k) = (-1)))) := (Or.imp (fun h => (of_decide_eq_true h)) (fun h => (And.imp (fun h => (of_decide_eq_true h)) (fun h => (of_decide_eq_false (notT h))) (andT h))) (orT hc68))
   refine W_seq (W_reg ?_)
   refine O_as (v := (.bool false)) rfl rfl ?_
   refine O_nil (Then_n (W_ret (Blk_r (Then_r (Then_r (Blk_r (Then_r ?_)))))))
   refine ret_1 (v := (.bool false)) Tryz.results24 rfl ?_
   exact ⟨(chR_f1 (k := k) (by omega) (by assumption)), H67.gr⟩
  ·have hc68 : (¬ ((nth c.parents k) = zeroId) ∧ (¬ (0 < (k : Int)) ∨ (cmpId (nth c.parents (k - 1)) (nth c.parents k) = (-1)))) := (And.imp (fun h => (of_decide_eq_false h)) (fun h => (Or.imp (fun h => (of_decide_eq_false h)) (fun h => (of_decide_eq_true (notF h))) (andF h))) (orF hc68))
   refine W_skip (Blk_n (Then_n (W_reg ?_)))
   refine O_mv (v := (.int .i64 (k : Int))) rfl rfl ?_
   refine O_v rfl (R_arith (a := (k : Int)) (b := 1) (r0 := (k : Int) + 1) (r := ((k + 1 : Nat) : Int)) rfl rfl rfl (wrapN _ (by omega)) ?_)
   refine O_as (v := (.int .i64 ((k + 1 : Nat) : Int))) rfl rfl ?_
   refine O_nil (Then_n ?_)
   refine ⟨_, ?_, (k + 1), rfl, (by omega), (all_succ h1 (by assumption)), _, envL_self ⟨rfl, rfl, trivial⟩, H67⟩
   omega
 ·have hc14 := (of_decide_eq_false hc14)
  refine W_exit (Then_x (Then_x (Blk_x (Then_n (W_seq (W_seq (W_reg ?_)))))))
  refine O_as (v := (.int .i64 0)) rfl rfl ?_
  refine O_nil (Then_n (W_block ?_))
  refine W_loop (fun m69 e70 w71 => ∃ (j : Nat), m69 = c.ops.length - j ∧ (j ≤ c.ops.length) ∧ (∀ i, i < j → ((goodOp (nth c.ops i) = true ∧ ¬ c.time < (nth c.ops i).tm.T) ∧ (nth c.ops i).tm.R = c.r) ∧ (¬ (0 : Int) < (i : Int) ∨ cmpSt (nth c.ops (i - 1)).tm (nth c.ops i).tm = -1)) ∧ ∃ eb72, e70 = envL [(1, (.pointer (some ⟨b4, 0, none⟩))), (4, (.int .i64 (j : Int)))] eb72 ∧ Ctx w nob w71 [boxR b4 47 [[(slV c.ph c.parents)], [(.int .i64 c.time)], [(.int .i64 c.r)], [(slV c.oh c.ops)], (idCells c.tree), [(.string c.msg)]]] [deepI (Old w) stampCh 2 (fun x : OpS => x.oh) (fun x : OpS => x.over) c.ops, slI (Old w) opCh 41 c.oh c.ops, slI (Old w) idCh 32 c.ph c.parents]) _ ⟨0, rfl, (by omega), (all_zero _), _, envL_self ⟨rfl, rfl, trivial⟩, H13⟩ ?_
  rintro m69 _ w71 ⟨j, rfl, hj, h2, eb72, rfl, H73⟩
  refine W_seq (W_seq (W_reg ?_))
  refine O_mv (v := (.int .i64 (j : Int))) rfl rfl ?_
  refine O_v rfl (R_fieldAddr (off := 3) (oo := 3) Tryz.underlying47 rfl rfl Tryz.sizeOf43 rfl rfl ?_)
  refine O_v rfl (R_load1 (v := (slV c.oh c.ops)) Tryz.isAgg43 rfl (H73.bx 0 rfl 3 1 3 3 _ rfl rfl rfl) ?_)
  refine O_v rfl (R_len_slice (a := c.oh.a) (n := c.ops.length) (c := c.oh.c) Tryz.underlying43 rfl ?_)
  refine O_v rfl (R_cmp (a := (j : Int)) (b := (c.ops.length : Int)) (r := (decide ((j : Int) < (c.ops.length : Int)))) rfl rfl rfl ?_)
  refine O_nil (Then_n ?_)
  refine W_cond rfl (fun hc74 => ?_) (fun hc74 => ?_)
  ·have hc74 := (of_decide_eq_true hc74)
   refine W_skip (Then_n (W_seq (W_block (W_seq (W_reg ?_)))))
   refine O_v rfl (R_fieldAddr (off := 3) (oo := 3) Tryz.underlying47 rfl rfl Tryz.sizeOf43 rfl rfl ?_)
   refine O_v rfl (R_load1 (v := (slV c.oh c.ops)) Tryz.isAgg43 rfl (H73.bx 0 rfl 3 1 3 3 _ rfl rfl rfl) ?_)
   refine O_mv (v := (.int .i64 (j : Int))) rfl rfl ?_
   refine O_v rfl (R_index_pure (H73.sl 1 rfl) (n := c.ops.length) rfl (j := (j : Int)) (oo := (c.oh.o + j * 41)) Tryz.underlying43 Tryz.sizeOf72 rfl rfl (by omega) (by omega) rfl ?_)
   refine O_v rfl (R_loadA (cs := [[(.int .i64 ((nth c.ops j).kind))], [(.int .i64 (((nth c.ops j).tm).T))], [(.int .i64 (((nth c.ops j).tm).R))], [(.int .i64 (((nth c.ops j).node).T))], [(.int .i64 (((nth c.ops j).node).R))], [(.int .i64 (((nth c.ops j).par).T))], [(.int .i64 (((nth c.ops j).par).R))], [(.string ((nth c.ops j).name))], (idCells ((nth c.ops j).data)), [(slV ((nth c.ops j).oh) ((nth c.ops j).over))]]) Tryz.isAgg72 Tryz.sizeOf72 rfl rfl ((Sl.elem (H73.sl 1 rfl) (i := j) (by omega) rfl).chunks 0 10 0 (c.oh.o + j * 41) _ rfl rfl rfl) ?_)
   refine O_v rfl (C_alloc H73 [[(.int .i64 0)], [(.int .i64 0)], [(.int .i64 0)], [(.int .i64 0)], [(.int .i64 0)], [(.int .i64 0)], [(.int .i64 0)], [(.string ByteArray.empty)], (idCells zeroId), [(.slice none 0 0)]] Tryz.zeroValue72 ?_)
   intro b75 w76 hb77 hx78 H79
   refine O_u (C_storeW H79 0 rfl (sub := [[(.int .i64 ((nth c.ops j).kind))], [(.int .i64 (((nth c.ops j).tm).T))], [(.int .i64 (((nth c.ops j).tm).R))], [(.int .i64 (((nth c.ops j).node).T))], [(.int .i64 (((nth c.ops j).node).R))], [(.int .i64 (((nth c.ops j).par).T))], [(.int .i64 (((nth c.ops j).par).R))], [(.string ((nth c.ops j).name))], (idCells ((nth c.ops j).data)), [(slV ((nth c.ops j).oh) ((nth c.ops j).over))]]) Tryz.sizeOf72 rfl rfl rfl rfl rfl ?_)
   intro w80 hg81 H82
   refine O_nil (Then_n (W_seq ?_))
   refine W_rgd TryzMixed [(0, .q 0), (1, .q 0), (2, .q 0), (3, .q 0), (4, .q 0), (5, .q 0), (6, .q 0), (7, .q 0), (8, .q 0), (9, .q 0), (10, .q 0), (11, .q 0), (12, .q 0), (13, .q 0), (14, .q 0), (15, .q 0), (16, .q 0), (17, .q 0), (18, .q 0), (19, .q 0), (20, .q 0), (21, .q 0), (22, .q 0), (23, .q 0), (24, .q 0), (25, .q 0), (26, .q 0), (27, .q 0), (28, .q 0), (29, .q 0), (30, .q 0), (31, .q 0), (32, .q 0), (33, .q 0), (34, .q 0), (35, .q 0)] (by kernel_rfl) ?_
   refine Lx_q rfl rfl _ (fun v83 hv84 => R_loadA (cs := [[(.int .i64 ((nth c.ops j).kind))], [(.int .i64 (((nth c.ops j).tm).T))], [(.int .i64 (((nth c.ops j).tm).R))], [(.int .i64 (((nth c.ops j).node).T))], [(.int .i64 (((nth c.ops j).node).R))], [(.int .i64 (((nth c.ops j).par).T))], [(.int .i64 (((nth c.ops j).par).R))], [(.string ((nth c.ops j).name))], (idCells ((nth c.ops j).data)), [(slV ((nth c.ops j).oh) ((nth c.ops j).over))]]) Tryz.isAgg72 Tryz.sizeOf72 rfl rfl ((H82.ext hv84).bx 0 rfl 0 10 0 0 _ rfl rfl rfl) qk) (Lx_q rfl rfl (.bool (goodOp (nth c.ops j))) (fun v85 hv86 => R_callL (vs := [(aggOf (opCh (nth c.ops j)))]) cF61 rfl rfl (ref03_Good (nth c.ops j) v85 ((H82.ext hv86).deepOld 0 rfl _ (nth_mem (by omega))) (hl _ (nth_mem (by omega))))) (Lx_q rfl rfl _ (fun v87 hv88 => R_not rfl qk) (Lx_mv (v := (.bool (!(goodOp (nth c.ops j))))) rfl rfl rfl ?_)))
   refine Lx_qf rfl rfl rfl rfl rfl _ (fun hA v91 hv92 => R_fieldAddr (off := 1) (oo := 1) Tryz.underlying72 rfl rfl Tryz.sizeOf69 rfl rfl qk) (Lx_qf rfl rfl rfl rfl rfl _ (fun hA v93 hv94 => R_fieldAddr (off := 0) (oo := 1) Tryz.underlying69 rfl rfl Tryz.sizeOf2 (gv_t hA) rfl qk) (Lx_qf rfl rfl rfl rfl rfl _ (fun hA v95 hv96 => R_load1 (v := (.int .i64 (((nth c.ops j).tm).T))) Tryz.isAgg2 (gv_t hA) ((H82.ext hv96).bx 0 rfl 1 1 1 1 _ rfl rfl rfl) qk) (Lx_qf rfl rfl rfl rfl rfl _ (fun hA v97 hv98 => R_fieldAddr (off := 1) (oo := 1) Tryz.underlying47 rfl rfl Tryz.sizeOf2 rfl rfl qk) ?_)))
   refine Lx_qf rfl rfl rfl rfl rfl _ (fun hA v99 hv100 => R_load1 (v := (.int .i64 c.time)) Tryz.isAgg2 (gv_t hA) ((H82.ext hv100).bx 1 rfl 1 1 1 1 _ rfl rfl rfl) qk) (Lx_qf rfl rfl rfl rfl rfl _ (fun hA v101 hv102 => R_cmp (a := ((nth c.ops j).tm).T) (b := c.time) (r := (decide (c.time < ((nth c.ops j).tm).T))) (gv_t hA) (gv_t hA) rfl qk) (Lx_q rfl rfl _ (fun v103 hv104 => R_pick rfl pk_or qk) (Lx_mv (v := (.bool ((!(goodOp (nth c.ops j))) || (decide (c.time < ((nth c.ops j).tm).T))))) rfl rfl rfl ?_)))
   refine Lx_qf rfl rfl rfl rfl rfl _ (fun hA v107 hv108 => R_fieldAddr (off := 1) (oo := 1) Tryz.underlying72 rfl rfl Tryz.sizeOf69 rfl rfl qk) (Lx_qf rfl rfl rfl rfl rfl _ (fun hA v109 hv110 => R_fieldAddr (off := 1) (oo := 2) Tryz.underlying69 rfl rfl Tryz.sizeOf3 (gv_t hA) rfl qk) (Lx_qf rfl rfl rfl rfl rfl _ (fun hA v111 hv112 => R_load1 (v := (.int .i64 (((nth c.ops j).tm).R))) Tryz.isAgg3 (gv_t hA) ((H82.ext hv112).bx 0 rfl 2 1 2 2 _ rfl rfl rfl) qk) (Lx_qf rfl rfl rfl rfl rfl _ (fun hA v113 hv114 => R_fieldAddr (off := 2) (oo := 2) Tryz.underlying47 rfl rfl Tryz.sizeOf3 rfl rfl qk) ?_)))
   refine Lx_qf rfl rfl rfl rfl rfl _ (fun hA v115 hv116 => R_load1 (v := (.int .i64 c.r)) Tryz.isAgg3 (gv_t hA) ((H82.ext hv116).bx 1 rfl 2 1 2 2 _ rfl rfl rfl) qk) (Lx_qf rfl rfl rfl rfl rfl _ (fun hA v117 hv118 => R_cmp (a := ((nth c.ops j).tm).R) (b := c.r) (r := (!(decide (((nth c.ops j).tm).R = c.r)))) (gv_t hA) (gv_t hA) rfl qk) (Lx_q rfl rfl _ (fun v119 hv120 => R_pick rfl pk_or qk) (Lx_mv (v := (.bool (((!(goodOp (nth c.ops j))) || (decide (c.time < ((nth c.ops j).tm).T))) || (!(decide (((nth c.ops j).tm).R = c.r)))))) rfl rfl rfl ?_)))
   refine Lx_qf rfl rfl rfl rfl rfl _ (fun hA v123 hv124 => R_move (v := (.int .i64 (j : Int))) rfl qk) (Lx_qf rfl rfl rfl rfl rfl _ (fun hA v125 hv126 => R_cmp (a := (j : Int)) (b := 0) (r := (decide (0 < (j : Int)))) (gv_t hA) rfl rfl qk) (Lx_qf rfl rfl rfl rfl rfl _ (fun hA v127 hv128 => R_move (v := (.bool (decide (0 < (j : Int))))) (gv_t hA) qk) (Lx_gt (!(((!(goodOp (nth c.ops j))) || (decide (c.time < ((nth c.ops j).tm).T))) || (!(decide (((nth c.ops j).tm).R = c.r))))) (decide (0 < (j : Int))) rfl rfl rfl rfl rfl _ (fun hA v129 hv130 => R_fieldAddr (off := 3) (oo := 3) Tryz.underlying47 rfl rfl Tryz.sizeOf43 rfl rfl qk) ?_)))
   refine Lx_gt (!(((!(goodOp (nth c.ops j))) || (decide (c.time < ((nth c.ops j).tm).T))) || (!(decide (((nth c.ops j).tm).R = c.r))))) (decide (0 < (j : Int))) rfl rfl rfl rfl rfl _ (fun hA v131 hv132 => R_load1 (v := (slV c.oh c.ops)) Tryz.isAgg43 (gv_t hA) ((H82.ext hv132).bx 1 rfl 3 1 3 3 _ rfl rfl rfl) qk) (Lx_gt (!(((!(goodOp (nth c.ops j))) || (decide (c.time < ((nth c.ops j).tm).T))) || (!(decide (((nth c.ops j).tm).R = c.r))))) (decide (0 < (j : Int))) rfl rfl rfl rfl rfl _ (fun hA v133 hv134 => R_move (v := (.int .i64 (j : Int))) rfl qk) ?_)
   refine Lx_gt (!(((!(goodOp (nth c.ops j))) || (decide (c.time < ((nth c.ops j).tm).T))) || (!(decide (((nth c.ops j).tm).R = c.r))))) (decide (0 < (j : Int))) rfl rfl rfl rfl rfl _ (fun hA v135 hv136 => by
          have hP : ((((goodOp (nth c.ops j)) = true ∧ ¬ (c.time < ((nth c.ops j).tm).T)) ∧ (((nth c.ops j).tm).R = c.r)) ∧ (0 < (j : Int))) := (And.imp (fun h => (And.imp (fun h => (And.imp (fun h => (notF h)) (fun h => (of_decide_eq_false h)) (orF h))) (fun h => (of_decide_eq_true (notF h))) (orF (notT h)))) (fun h => (of_decide_eq_true h)) (andT hA))
          exact R_arith (a := (j : Int)) (b := 1) (r0 := (j : Int) - 1) (r := ((j - 1 : Nat) : Int)) (gv_t hA) rfl rfl (wrapP _ (by omega) (by omega)) qk) ?_
   refine Lx_gt (!(((!(goodOp (nth c.ops j))) || (decide (c.time < ((nth c.ops j).tm).T))) || (!(decide (((nth c.ops j).tm).R = c.r))))) (decide (0 < (j : Int))) rfl rfl rfl rfl rfl _ (fun hA v137 hv138 => by
          have hP : ((((goodOp (nth c.ops j)) = true ∧ ¬ (c.time < ((nth c.ops j).tm).T)) ∧ (((nth c.ops j).tm).R = c.r)) ∧ (0 < (j : Int))) := (And.imp (fun h => (And.imp (fun h => (And.imp (fun h => (notF h)) (fun h => (of_decide_eq_false h)) (orF h))) (fun h => (of_decide_eq_true (notF h))) (orF (notT h)))) (fun h => (of_decide_eq_true h)) (andT hA))
          exact R_index_pure (H82.sl 1 rfl) (n := c.ops.length) rfl (j := ((j - 1 : Nat) : Int)) (oo := (c.oh.o + (j - 1) * 41)) Tryz.underlying43 Tryz.sizeOf72 (gv_t hA) (gv_t hA) (by omega) (by omega) rfl qk) ?_
   refine Lx_gt (!(((!(goodOp (nth c.ops j))) || (decide (c.time < ((nth c.ops j).tm).T))) || (!(decide (((nth c.ops j).tm).R = c.r))))) (decide (0 < (j : Int))) rfl rfl rfl rfl rfl _ (fun hA v139 hv140 => R_fieldAddr (off := 1) (oo := ((c.oh.o + (j - 1) * 41) + 1)) Tryz.underlying72 rfl rfl Tryz.sizeOf69 (gv_t hA) rfl qk) ?_
   refine Lx_gt (!(((!(goodOp (nth c.ops j))) || (decide (c.time < ((nth c.ops j).tm).T))) || (!(decide (((nth c.ops j).tm).R = c.r))))) (decide (0 < (j : Int))) rfl rfl rfl rfl rfl _ (fun hA v141 hv142 => by
          have hP : ((((goodOp (nth c.ops j)) = true ∧ ¬ (c.time < ((nth c.ops j).tm).T)) ∧ (((nth c.ops j).tm).R = c.r)) ∧ (0 < (j : Int))) := (And.imp (fun h => (And.imp (fun h => (And.imp (fun h => (notF h)) (fun h => (of_decide_eq_false h)) (orF h))) (fun h => (of_decide_eq_true (notF h))) (orF (notT h)))) (fun h => (of_decide_eq_true h)) (andT hA))
          exact R_loadA (cs := [[(.int .i64 (((nth c.ops (j - 1)).tm).T))], [(.int .i64 (((nth c.ops (j - 1)).tm).R))]]) Tryz.isAgg69 Tryz.sizeOf69 rfl (gv_t hA) ((Sl.elem ((H82.ext hv142).sl 1 rfl) (i := (j - 1)) (by omega) rfl).chunks 1 2 1 ((c.oh.o + (j - 1) * 41) + 1) _ rfl rfl rfl) qk) ?_
   refine Lx_gt (!(((!(goodOp (nth c.ops j))) || (decide (c.time < ((nth c.ops j).tm).T))) || (!(decide (((nth c.ops j).tm).R = c.r))))) (decide (0 < (j : Int))) rfl rfl rfl rfl rfl _ (fun hA v143 hv144 => R_fieldAddr (off := 1) (oo := 1) Tryz.underlying72 rfl rfl Tryz.sizeOf69 rfl rfl qk) (Lx_gt (!(((!(goodOp (nth c.ops j))) || (decide (c.time < ((nth c.ops j).tm).T))) || (!(decide (((nth c.ops j).tm).R = c.r))))) (decide (0 < (j : Int))) rfl rfl rfl rfl rfl _ (fun hA v145 hv146 => R_loadA (cs := [[(.int .i64 (((nth c.ops j).tm).T))], [(.int .i64 (((nth c.ops j).tm).R))]]) Tryz.isAgg69 Tryz.sizeOf69 rfl (gv_t hA) ((H82.ext hv146).bx 0 rfl 1 2 1 1 _ rfl rfl rfl) qk) (Lx_gt (!(((!(goodOp (nth c.ops j))) || (decide (c.time < ((nth c.ops j).tm).T))) || (!(decide (((nth c.ops j).tm).R = c.r))))) (decide (0 < (j : Int))) rfl rfl rfl rfl rfl (.int .i64 (cmpSt ((nth c.ops (j - 1)).tm) ((nth c.ops j).tm))) (fun hA v147 hv148 => R_callL (vs := [(aggOf (stampCh ((nth c.ops (j - 1)).tm))), (aggOf (stampCh ((nth c.ops j).tm)))]) cF44 rfl (lst2 (gv_t hA) (gv_t hA)) (ref03_Cmp ((nth c.ops (j - 1)).tm) ((nth c.ops j).tm) v147 )) (Lx_gt (!(((!(goodOp (nth c.ops j))) || (decide (c.time < ((nth c.ops j).tm).T))) || (!(decide (((nth c.ops j).tm).R = c.r))))) (decide (0 < (j : Int))) rfl rfl rfl rfl rfl _ (fun hA v149 hv150 => R_cmp (a := cmpSt ((nth c.ops (j - 1)).tm) ((nth c.ops j).tm)) (b := (-1)) (r := (!(decide (cmpSt ((nth c.ops (j - 1)).tm) ((nth c.ops j).tm) = (-1))))) (gv_t hA) rfl rfl qk) ?_)))
   refine Lx_qf rfl rfl rfl rfl rfl _ (fun hA v151 hv152 => R_pick (gv_t hA) (pk_andA hA) qk) (Lx_q rfl rfl _ (fun v153 hv154 => R_pick rfl pk_or qk) ?_)
   refine Lx_nil (fun w155 hw156 => ?_)
   have H157 := H82.ext hw156
   refine Then_n ?_
   refine W_cond rfl (fun hc158 => ?_) (fun hc158 => ?_)
   ·have hc158 : ((((goodOp (nth c.ops j)) = false ∨ (c.time < ((nth c.ops j).tm).T)) ∨ ¬ (((nth c.ops j).tm).R = c.r)) ∨ ((0 < (j : Int)) ∧ ¬ (cmpSt ((nth c.ops (j - 1)).tm) ((nth c.ops j).tm) = (-1)))) := (Or.imp (fun h => (Or.imp (fun h => (Or.imp (fun h => (notT h)) (fun h => (of_decide_eq_true h)) (orT h))) (fun h => (of_decide_eq_false (notT h))) (orT h))) (fun h => (And.imp (fun h => (of_decide_eq_true h)) (fun h => (of_decide_eq_false (notT h))) (andT h))) (orT hc158))
    refine W_seq (W_reg ?_)
    refine O_as (v := (.bool false)) rfl rfl ?_
    refine O_nil (Then_n (W_ret (Blk_r (Then_r (Then_r (Blk_r (Then_r ?_)))))))
    refine ret_1 (v := (.bool false)) Tryz.results24 rfl ?_
    exact ⟨(chR_f2 (k := j) (by omega) (by assumption)), H157.gr⟩
   ·have hc158 : ((((goodOp (nth c.ops j)) = true ∧ ¬ (c.time < ((nth c.ops j).tm).T)) ∧ (((nth c.ops j).tm).R = c.r)) ∧ (¬ (0 < (j : Int)) ∨ (cmpSt ((nth c.ops (j - 1)).tm) ((nth c.ops j).tm) = (-1)))) := (And.imp (fun h => (And.imp (fun h => (And.imp (fun h => (notF h)) (fun h => (of_decide_eq_false h)) (orF h))) (fun h => (of_decide_eq_true (notF h))) (orF h))) (fun h => (Or.imp (fun h => (of_decide_eq_false h)) (fun h => (of_decide_eq_true (notF h))) (andF h))) (orF hc158))
    refine W_skip (Blk_n (Then_n (W_reg ?_)))
    refine O_mv (v := (.int .i64 (j : Int))) rfl rfl ?_
    refine O_v rfl (R_arith (a := (j : Int)) (b := 1) (r0 := (j : Int) + 1) (r := ((j + 1 : Nat) : Int)) rfl rfl rfl (wrapN _ (by omega)) ?_)
    refine O_as (v := (.int .i64 ((j + 1 : Nat) : Int))) rfl rfl ?_
    refine O_nil (Then_n ?_)
    have H159 := H157.sub (List.Sublist.cons _ (List.Sublist.cons_cons _ List.Sublist.slnil)) (List.forall_mem_cons.2 ⟨List.mem_of_getElem? (i := 0) rfl, List.forall_mem_cons.2 ⟨List.mem_of_getElem? (i := 1) rfl, List.forall_mem_cons.2 ⟨List.mem_of_getElem? (i := 2) rfl, memN⟩⟩⟩)
    refine ⟨_, ?_, (j + 1), rfl, (by omega), (all_succ h2 (by assumption)), _, envL_self ⟨rfl, rfl, trivial⟩, H159⟩
    omega
  ·have hc74 := (of_decide_eq_false hc74)
   refine W_exit (Then_x (Then_x (Blk_x (Then_n (W_seq ?_)))))
   refine W_rg [(0, .q 0), (1, .q 0), (2, .q 0), (3, .q 0), (4, .q 0), (5, .q 0), (6, .q 0), (7, .q 0), (8, .q 0), (9, .q 0), (10, .q 0), (11, .q 0), (12, .q 0), (13, .q 0), (14, .q 0), (15, .q 0), (16, .q 0), (17, .q 0), (18, .q 0), (19, .q 0), (20, .q 0), (21, .q 0), (22, .q 0), (23, .q 0), (24, .q 0), (25, .q 0), (26, .q 0), (27, .q 0), (28, .q 0), (29, .q 0), (30, .q 0), (31, .q 0), (32, .q 0), (33, .q 0), (34, .q 0), (35, .q 0), (36, .q 0), (37, .q 0), (38, .q 0), (39, .q 0), (40, .q 0), (41, .q 0), (42, .q 0)] (by kernel_rfl) ?_
   refine Lx_q rfl rfl _ (fun v160 hv161 => R_fieldAddr (off := 0) (oo := 0) Tryz.underlying47 rfl rfl Tryz.sizeOf39 rfl rfl qk) (Lx_q rfl rfl _ (fun v162 hv163 => R_load1 (v := (slV c.ph c.parents)) Tryz.isAgg39 rfl ((H73.ext hv163).bx 0 rfl 0 1 0 0 _ rfl rfl rfl) qk) (Lx_q rfl rfl _ (fun v164 hv165 => R_len_slice (a := c.ph.a) (n := c.parents.length) (c := c.ph.c) Tryz.underlying39 rfl qk) (Lx_q rfl rfl _ (fun v166 hv167 => R_cmp (a := (c.parents.length : Int)) (b := 2) (r := (decide ((c.parents.length : Int) ≤ 2))) rfl rfl rfl qk) ?_)))
   refine Lx_mv (v := (.bool (decide ((c.parents.length : Int) ≤ 2)))) rfl rfl rfl (Lx_qt rfl rfl rfl rfl rfl _ (fun hA v170 hv171 => R_fieldAddr (off := 1) (oo := 1) Tryz.underlying47 rfl rfl Tryz.sizeOf2 rfl rfl qk) (Lx_qt rfl rfl rfl rfl rfl _ (fun hA v172 hv173 => R_load1 (v := (.int .i64 c.time)) Tryz.isAgg2 (gv_t hA) ((H73.ext hv173).bx 0 rfl 1 1 1 1 _ rfl rfl rfl) qk) (Lx_qt rfl rfl rfl rfl rfl _ (fun hA v174 hv175 => R_fieldAddr (off := 2) (oo := 2) Tryz.underlying47 rfl rfl Tryz.sizeOf3 rfl rfl qk) ?_)))
   refine Lx_qt rfl rfl rfl rfl rfl _ (fun hA v176 hv177 => R_load1 (v := (.int .i64 c.r)) Tryz.isAgg3 (gv_t hA) ((H73.ext hv177).bx 0 rfl 2 1 2 2 _ rfl rfl rfl) qk) (Lx_qt rfl rfl rfl rfl rfl _ (fun hA v178 hv179 => R_buildL (vs := [(0, (.int .i64 c.time)), (1, (.int .i64 c.r))]) (v := aggOf [[(.int .i64 c.time)], [(.int .i64 c.r)]]) (prt2 (gv_t hA) (gv_t hA)) (fun _ => by kernel_rfl) qk) (Lx_qt rfl rfl rfl rfl rfl (.bool (stRight ({ T := c.time, R := c.r } : Stamp))) (fun hA v180 hv181 => R_callL (vs := [(aggOf [[(.int .i64 c.time)], [(.int .i64 c.r)]])]) cF62 rfl (lst1 (gv_t hA)) (ref03_Right ({ T := c.time, R := c.r } : Stamp) v180 )) (Lx_q rfl rfl _ (fun v182 hv183 => R_pick rfl pk_and qk) ?_)))
   refine Lx_mv (v := (.bool ((decide ((c.parents.length : Int) ≤ 2)) && (stRight ({ T := c.time, R := c.r } : Stamp))))) rfl rfl rfl (Lx_qt rfl rfl rfl rfl rfl _ (fun hA v186 hv187 => R_fieldAddr (off := 36) (oo := 36) Tryz.underlying47 rfl rfl Tryz.sizeOf9 rfl rfl qk) (Lx_qt rfl rfl rfl rfl rfl _ (fun hA v188 hv189 => R_load1 (v := (.string c.msg)) Tryz.isAgg9 (gv_t hA) ((H73.ext hv189).bx 0 rfl 5 1 36 36 _ rfl rfl rfl) qk) (Lx_qt rfl rfl rfl rfl rfl _ (fun hA v190 hv191 => R_len_string Tryz.underlying9 (gv_t hA) qk) ?_)))
   refine Lx_qt rfl rfl rfl rfl rfl _ (fun hA v192 hv193 => R_cmp (a := (c.msg.size : Int)) (b := 200) (r := (decide ((c.msg.size : Int) ≤ 200))) (gv_t hA) rfl rfl qk) (Lx_q rfl rfl _ (fun v194 hv195 => R_pick rfl pk_and qk) (Lx_mv (v := (.bool (((decide ((c.parents.length : Int) ≤ 2)) && (stRight ({ T := c.time, R := c.r } : Stamp))) && (decide ((c.msg.size : Int) ≤ 200))))) rfl rfl rfl (Lx_qt rfl rfl rfl rfl rfl _ (fun hA v198 hv199 => R_fieldAddr (off := 4) (oo := 4) Tryz.underlying47 rfl rfl Tryz.sizeOf45 rfl rfl qk) ?_)))
   refine Lx_qt rfl rfl rfl rfl rfl _ (fun hA v200 hv201 => R_loadA (cs := [(idCells c.tree)]) Tryz.isAgg45 Tryz.sizeOf45 rfl (gv_t hA) ((H73.ext hv201).bx 0 rfl 4 1 4 4 _ rfl rfl rfl) qk) (Lx_qt rfl rfl rfl rfl rfl (.bool (decide (c.tree = zeroId))) (fun hA v202 hv203 => R_callL (vs := [(aggOf (idCh c.tree))]) cF60 rfl (lst1 (gv_t hA)) (ref04_zero c.tree v202 )) (Lx_qt rfl rfl rfl rfl rfl _ (fun hA v204 hv205 => R_not (gv_t hA) qk) (Lx_q rfl rfl _ (fun v206 hv207 => R_pick rfl pk_and qk) ?_)))
   refine Lx_mv (v := (.bool ((((decide ((c.parents.length : Int) ≤ 2)) && (stRight ({ T := c.time, R := c.r } : Stamp))) && (decide ((c.msg.size : Int) ≤ 200))) && (!(decide (c.tree = zeroId)))))) rfl rfl rfl (Lx_qt rfl rfl rfl rfl rfl _ (fun hA v210 hv211 => R_fieldAddr (off := 3) (oo := 3) Tryz.underlying47 rfl rfl Tryz.sizeOf43 rfl rfl qk) (Lx_qt rfl rfl rfl rfl rfl _ (fun hA v212 hv213 => R_load1 (v := (slV c.oh c.ops)) Tryz.isAgg43 (gv_t hA) ((H73.ext hv213).bx 0 rfl 3 1 3 3 _ rfl rfl rfl) qk) (Lx_qt rfl rfl rfl rfl rfl _ (fun hA v214 hv215 => R_len_slice (a := c.oh.a) (n := c.ops.length) (c := c.oh.c) Tryz.underlying43 (gv_t hA) qk) ?_)))
   refine Lx_qt rfl rfl rfl rfl rfl _ (fun hA v216 hv217 => R_cmp (a := (c.ops.length : Int)) (b := 64) (r := (decide ((c.ops.length : Int) ≤ 64))) (gv_t hA) rfl rfl qk) (Lx_q rfl rfl _ (fun v218 hv219 => R_pick rfl pk_and qk) (Lx_mv (v := (.bool (((((decide ((c.parents.length : Int) ≤ 2)) && (stRight ({ T := c.time, R := c.r } : Stamp))) && (decide ((c.msg.size : Int) ≤ 200))) && (!(decide (c.tree = zeroId)))) && (decide ((c.ops.length : Int) ≤ 64))))) rfl rfl rfl (Lx_qt rfl rfl rfl rfl rfl _ (fun hA v222 hv223 => R_fieldAddr (off := 0) (oo := 0) Tryz.underlying47 rfl rfl Tryz.sizeOf39 rfl rfl qk) ?_)))
   refine Lx_qt rfl rfl rfl rfl rfl _ (fun hA v224 hv225 => R_load1 (v := (slV c.ph c.parents)) Tryz.isAgg39 (gv_t hA) ((H73.ext hv225).bx 0 rfl 0 1 0 0 _ rfl rfl rfl) qk) (Lx_qt rfl rfl rfl rfl rfl _ (fun hA v226 hv227 => R_len_slice (a := c.ph.a) (n := c.parents.length) (c := c.ph.c) Tryz.underlying39 (gv_t hA) qk) (Lx_qt rfl rfl rfl rfl rfl _ (fun hA v228 hv229 => R_cmp (a := (c.parents.length : Int)) (b := 2) (r := (decide ((c.parents.length : Int) < 2))) (gv_t hA) rfl rfl qk) (Lx_qt rfl rfl rfl rfl rfl _ (fun hA v230 hv231 => R_move (v := (.bool (decide ((c.parents.length : Int) < 2)))) (gv_t hA) qk) ?_)))
   refine Lx_gf (((((decide ((c.parents.length : Int) ≤ 2)) && (stRight ({ T := c.time, R := c.r } : Stamp))) && (decide ((c.msg.size : Int) ≤ 200))) && (!(decide (c.tree = zeroId)))) && (decide ((c.ops.length : Int) ≤ 64))) (decide ((c.parents.length : Int) < 2)) rfl rfl rfl rfl rfl _ (fun hA v232 hv233 => R_fieldAddr (off := 3) (oo := 3) Tryz.underlying47 rfl rfl Tryz.sizeOf43 rfl rfl qk) (Lx_gf (((((decide ((c.parents.length : Int) ≤ 2)) && (stRight ({ T := c.time, R := c.r } : Stamp))) && (decide ((c.msg.size : Int) ≤ 200))) && (!(decide (c.tree = zeroId)))) && (decide ((c.ops.length : Int) ≤ 64))) (decide ((c.parents.length : Int) < 2)) rfl rfl rfl rfl rfl _ (fun hA v234 hv235 => R_load1 (v := (slV c.oh c.ops)) Tryz.isAgg43 (gv_t hA) ((H73.ext hv235).bx 0 rfl 3 1 3 3 _ rfl rfl rfl) qk) (Lx_gf (((((decide ((c.parents.length : Int) ≤ 2)) && (stRight ({ T := c.time, R := c.r } : Stamp))) && (decide ((c.msg.size : Int) ≤ 200))) && (!(decide (c.tree = zeroId)))) && (decide ((c.ops.length : Int) ≤ 64))) (decide ((c.parents.length : Int) < 2)) rfl rfl rfl rfl rfl _ (fun hA v236 hv237 => R_len_slice (a := c.oh.a) (n := c.ops.length) (c := c.oh.c) Tryz.underlying43 (gv_t hA) qk) (Lx_gf (((((decide ((c.parents.length : Int) ≤ 2)) && (stRight ({ T := c.time, R := c.r } : Stamp))) && (decide ((c.msg.size : Int) ≤ 200))) && (!(decide (c.tree = zeroId)))) && (decide ((c.ops.length : Int) ≤ 64))) (decide ((c.parents.length : Int) < 2)) rfl rfl rfl rfl rfl _ (fun hA v238 hv239 => R_cmp (a := (c.ops.length : Int)) (b := 0) (r := (decide ((c.ops.length : Int) = 0))) (gv_t hA) rfl rfl qk) ?_)))
   refine Lx_qt rfl rfl rfl rfl rfl _ (fun hA v240 hv241 => R_pick (gv_t hA) (pk_orA hA) qk) (Lx_q rfl rfl _ (fun v242 hv243 => R_pick rfl pk_and qk) (Lx_q rfl rfl _ (fun v244 hv245 => R_assign (v := (.bool ((((((decide ((c.parents.length : Int) ≤ 2)) && (stRight ({ T := c.time, R := c.r } : Stamp))) && (decide ((c.msg.size : Int) ≤ 200))) && (!(decide (c.tree = zeroId)))) && (decide ((c.ops.length : Int) ≤ 64))) && ((decide ((c.parents.length : Int) < 2)) || (decide ((c.ops.length : Int) = 0)))))) rfl qk) ?_))
   refine Lx_nil (fun w246 hw247 => ?_)
   have H248 := H73.ext hw247
   refine Then_n (W_ret ?_)
   refine ret_1 (v := (.bool ((((((decide ((c.parents.length : Int) ≤ 2)) && (stRight ({ T := c.time, R := c.r } : Stamp))) && (decide ((c.msg.size : Int) ≤ 200))) && (!(decide (c.tree = zeroId)))) && (decide ((c.ops.length : Int) ≤ 64))) && ((decide ((c.parents.length : Int) < 2)) || (decide ((c.ops.length : Int) = 0)))))) Tryz.results24 rfl ?_
   exact ⟨(chR_t (by rwa [show c.parents.length = k from by omega]) (by rwa [show c.ops.length = j from by omega])), H248.gr⟩
set_option maxHeartbeats 1000000 in
theorem ref04_open (hb : SlH) (b : List UInt8) (Fb : Nat → Prop) (kind : UInt8) (w : World) (Sb : Sl Fb encB 1 hb b w) (XFb : ∀ b, Fb b → b < w.heap.size) :
    Calls Tryz.prog 73 #[(slV hb b), (.int .u8 (kind.toNat : Int))] w (Ret fun v w' => ∃ X : RdS, v = rdV X ∧ Ext w w' ∧ X.st = openSt b kind ∧ Sl Fb encB 1 X.bh X.b w') := by
 refine calls_W Tryz.func73 rfl Tryz.ntmps73 rfl ?_
 have H0 := Ctx.start w nob
 have H1 := H0.addSl _ Sb (fun b hb => ⟨XFb b hb, fun _ ho => (nomatch ho)⟩)
 have LSb := Sb.len
 refine W_seq (W_reg ?_)
 refine O_v rfl (C_alloc H1 [[(.slice none 0 0)], [(.bool false)]] Tryz.zeroValue110 ?_)
 intro b3 w4 hb5 hx6 H7
 refine O_nil (Then_n (W_seq (W_seq ?_)))
 refine W_rg [(0, .q 0), (1, .q 0), (2, .q 0), (3, .q 0), (4, .q 0), (5, .q 0), (6, .q 0), (7, .q 0), (8, .q 0), (9, .q 0)] (by kernel_rfl) ?_
 refine Lx_mv (v := (slV hb b)) rfl rfl rfl (Lx_q rfl rfl _ (fun v10 hv11 => R_len_slice (a := hb.a) (n := b.length) (c := hb.c) Tryz.underlying22 rfl qk) (Lx_q rfl rfl _ (fun v12 hv13 => R_cmp (a := (b.length : Int)) (b := 0) (r := (decide ((b.length : Int) = 0))) rfl rfl rfl qk) (Lx_mv (v := (.bool (decide ((b.length : Int) = 0)))) rfl rfl rfl ?_)))
 refine Lx_qf rfl rfl rfl rfl rfl _ (fun hA v16 hv17 => R_move (v := (slV hb b)) rfl qk) ?_
 refine Lx_qf rfl rfl rfl rfl rfl _ (fun hA v18 hv19 => by
      have hP : ¬ ((b.length : Int) = 0) := (of_decide_eq_false (notT hA))
      exact R_index_pure (H7.sl 0 rfl) (n := b.length) rfl (j := 0) (oo := (hb.o + 0 * 1)) Tryz.underlying22 Tryz.sizeOf5 (gv_t hA) rfl (by omega) (by omega) rfl qk) ?_
 refine Lx_qf rfl rfl rfl rfl rfl _ (fun hA v20 hv21 => by
      have hP : ¬ ((b.length : Int) = 0) := (of_decide_eq_false (notT hA))
      exact R_load1 (v := (.int .u8 ((nth b 0).toNat : Int))) Tryz.isAgg5 (gv_t hA) ((Sl.elem ((H7.ext hv21).sl 0 rfl) (i := 0) (by omega) rfl).chunks 0 1 0 (hb.o + 0 * 1) _ rfl rfl rfl) qk) ?_
 refine Lx_qf rfl rfl rfl rfl rfl _ (fun hA v22 hv23 => R_move (v := (.int .u8 (kind.toNat : Int))) rfl qk) (Lx_qf rfl rfl rfl rfl rfl _ (fun hA v24 hv25 => R_cmp (a := ((nth b 0).toNat : Int)) (b := (kind.toNat : Int)) (r := (!(decide (((nth b 0).toNat : Int) = (kind.toNat : Int))))) (gv_t hA) (gv_t hA) rfl qk) (Lx_q rfl rfl _ (fun v26 hv27 => R_pick rfl pk_or qk) ?_))
 refine Lx_nil (fun w28 hw29 => ?_)
 have H30 := H7.ext hw29
 refine Then_n ?_
 refine W_cond rfl (fun hc31 => ?_) (fun hc31 => ?_)
 ·have hc31 : (((b.length : Int) = 0) ∨ ¬ (((nth b 0).toNat : Int) = (kind.toNat : Int))) := (Or.imp (fun h => (of_decide_eq_true h)) (fun h => (of_decide_eq_false (notT h))) (orT hc31))
  refine W_seq (W_reg ?_)
  refine O_v rfl (R_buildL (vs := [(1, (.bool true))]) (v := aggOf [[(.slice none 0 0)], [(.bool true)]]) rfl (fun _ => by kernel_rfl) ?_)
  refine O_u (C_storeW H30 0 rfl (sub := [[(.slice none 0 0)], [(.bool true)]]) Tryz.sizeOf110 rfl rfl rfl rfl rfl ?_)
  intro w32 hg33 H34
  refine O_nil (Then_n (W_ret (Then_r ?_)))
  refine ret_c Tryz.results73 (inMem (cs := [[(.slice none 0 0)], [(.bool true)]]) rfl Tryz.isAgg110 Tryz.sizeOf110 rfl (boxR_at (H34.getOwn 0 rfl))) ?_
  exact ⟨({ b := [], bh := nilH, bad := true } : RdS), rfl, H34.gr, (open_f (by assumption)).symm, (Sl.nil _ _ _ _)⟩
 ·have hc31 : (¬ ((b.length : Int) = 0) ∧ (((nth b 0).toNat : Int) = (kind.toNat : Int))) := (And.imp (fun h => (of_decide_eq_false h)) (fun h => (of_decide_eq_true (notF h))) (orF hc31))
  refine W_skip (Then_n (W_seq (W_reg ?_)))
  refine O_mv (v := (slV hb b)) rfl rfl ?_
  refine O_v rfl (R_sliceS (h := hb) (l := b) (a := 1) (b := b.length) (m := hb.c) (b.drop 1) Tryz.underlying22 Tryz.sizeOf5 rfl rfl rfl rfl (by decide) (by omega) (by first | omega | exact Nat.le_refl _) (by have := Sl.cap (H30.sl 0 rfl); omega) (by first | omega | exact Nat.le_refl _ | (have := Sl.cap (H30.sl 0 rfl); omega)) (by rw [List.take_length])  ?_)
  refine O_v rfl (R_buildL (vs := [(0, (slV (hSub hb 1 1 hb.c) (b.drop 1)))]) (v := aggOf [[(slV (hSub hb 1 1 hb.c) (b.drop 1))], [(.bool false)]]) rfl (fun _ => by kernel_rfl) ?_)
  refine O_u (C_storeW H30 0 rfl (sub := [[(slV (hSub hb 1 1 hb.c) (b.drop 1))], [(.bool false)]]) Tryz.sizeOf110 rfl rfl rfl rfl rfl ?_)
  intro w35 hg36 H37
  refine O_nil (Then_n (W_ret ?_))
  refine ret_c Tryz.results73 (inMem (cs := [[(slV (hSub hb 1 1 hb.c) (b.drop 1))], [(.bool false)]]) rfl Tryz.isAgg110 Tryz.sizeOf110 rfl (boxR_at (H37.getOwn 0 rfl))) ?_
  exact ⟨({ b := b.drop 1, bh := hSub hb 1 1 hb.c, bad := false } : RdS), rfl, H37.gr, (open_t (by assumption)).symm, (Sl.sub (H37.sl 0 rfl) 1 b.length hb.c (by omega) (by first | omega | exact Nat.le_refl _) (by have := Sl.cap (H30.sl 0 rfl); omega) (by first | omega | exact Nat.le_refl _ | (have := Sl.cap (H30.sl 0 rfl); omega)) (by rw [List.take_length]))⟩
end Go.Proofs.YthjdhfoeckfmbaaGreat
