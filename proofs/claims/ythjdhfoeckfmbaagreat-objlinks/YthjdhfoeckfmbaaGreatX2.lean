/- Proved: for every input, pollardlaw04.ObjLinks returns true and leaves its arguments as they were. No condition. -/
import Derived.Shelf.SlSortCmp.WholeK
import Derived.Test.YthjdhfoeckfmbaaGreatX1
namespace Go.Proofs.YthjdhfoeckfmbaaGreat
open Go
set_option maxRecDepth 100000
set_option linter.unusedVariables false
set_option linter.unusedSimpArgs false
set_option linter.unusedSectionVars false
theorem cF48 : callable Tryz.prog 48 = true := by kernel_rfl
theorem cF63 : callable Tryz.prog 63 = true := by kernel_rfl
theorem cF65 : callable Tryz.prog 65 = true := by kernel_rfl
theorem cF106 : callable Tryz.prog 106 = true := by kernel_rfl
set_option maxHeartbeats 2000000 in
theorem stamp_Get (br : Nat) (r : RdS) (Sr : Nat → Prop) (q : List UInt8 × Bool) (w : World) (Qr : RdQ 132 br Sr r w) (Er : r.st = q) :
    Calls Tryz.prog 64 #[(.pointer (some ⟨br, 0, none⟩))] w (Ret fun v w' => ∃ (r' : RdS) (X : OpS), v = opV X ∧ Gr (fun c => c = br) w w' ∧ RdQ 132 br Sr r' w' ∧ r'.st = (rdOp q).2 ∧ OwnS w.heap.size 69 2 stampCh X.oh X.over w' ∧ (X.core = (rdOp q).1)) := by
 refine calls_W Tryz.func64 rfl Tryz.ntmps64 rfl ?_
 have H0 := Qr
 refine W_seq (W_reg ?_)
 refine O_v rfl (C_alloc H0 [[(.int .i64 0)], [(.int .i64 0)], [(.int .i64 0)], [(.int .i64 0)], [(.int .i64 0)], [(.int .i64 0)], [(.int .i64 0)], [(.string ByteArray.empty)], (idCells zeroId), [(.slice none 0 0)]] Tryz.zeroValue72 ?_)
 intro b1 w2 hb3 hx4 H5
 refine O_nil (Then_n (W_seq (W_reg ?_)))
 refine O_mv (v := (.pointer (some ⟨br, 0, none⟩))) rfl rfl ?_
 refine O_v rfl (R_callL (vs := [(.pointer (some ⟨br, 0, none⟩)), (.int .i64 2)]) cF46 rfl rfl ((Reader_Num br r Sr q 2 w2 ((H5.pick (B' := [boxR br 132 (rdCh r)]) (I' := [slI Sr encB 1 r.bh r.b]) [1] (by decide) rfl (List.forall_mem_cons.2 ⟨List.mem_of_getElem? (i := 0) rfl, fun _ h => (nomatch h)⟩)).rdStart) Er).ret ?_))
 rintro _ w7 ⟨r6, rfl, hg8, hQ9, hr10⟩
 have H11 := H5.rdUpd (r := r) 1 0 rfl rfl hg8 hQ9
 refine O_v rfl (R_buildL (vs := [(0, (.int .i64 (((rdNum q 2).1) : Int)))]) (v := aggOf [[(.int .i64 (((rdNum q 2).1) : Int))], [(.int .i64 0)], [(.int .i64 0)], [(.int .i64 0)], [(.int .i64 0)], [(.int .i64 0)], [(.int .i64 0)], [(.string ByteArray.empty)], (idCells zeroId), [(.slice none 0 0)]]) rfl (fun _ => by kernel_rfl) ?_)
 refine O_v rfl (C_alloc H11 [[(.int .i64 0)], [(.int .i64 0)], [(.int .i64 0)], [(.int .i64 0)], [(.int .i64 0)], [(.int .i64 0)], [(.int .i64 0)], [(.string ByteArray.empty)], (idCells zeroId), [(.slice none 0 0)]] Tryz.zeroValue72 ?_)
 intro b12 w13 hb14 hx15 H16
 refine O_u (C_storeW H16 0 rfl (sub := [[(.int .i64 (((rdNum q 2).1) : Int))], [(.int .i64 0)], [(.int .i64 0)], [(.int .i64 0)], [(.int .i64 0)], [(.int .i64 0)], [(.int .i64 0)], [(.string ByteArray.empty)], (idCells zeroId), [(.slice none 0 0)]]) Tryz.sizeOf72 rfl rfl rfl rfl rfl ?_)
 intro w17 hg18 H19
 refine O_nil (Then_n (W_seq (W_reg ?_)))
 refine O_mv (v := (.pointer (some ⟨br, 0, none⟩))) rfl rfl ?_
 refine O_v rfl (R_callL (vs := [(.pointer (some ⟨br, 0, none⟩))]) cF106 rfl rfl ((stamp_get br r6 Sr ((rdNum q 2).2) w17 ((H19.pick (B' := [boxR br 132 (rdCh r6)]) (I' := [slI Sr encB 1 r6.bh r6.b]) [2] (by decide) rfl (List.forall_mem_cons.2 ⟨List.mem_of_getElem? (i := 0) rfl, fun _ h => (nomatch h)⟩)).rdStart) hr10).ret ?_))
 rintro _ w21 ⟨r20, rfl, hg22, hQ23, hr24⟩
 have H25 := H19.rdUpd (r := r6) 2 0 rfl rfl hg22 hQ23
 refine O_v rfl (R_fieldAddr (off := 1) (oo := 1) Tryz.underlying72 rfl rfl Tryz.sizeOf69 rfl rfl ?_)
 refine O_u (C_storeA H25 0 rfl 1 (sub := [[(.int .i64 (((rdAt ((rdNum q 2).2)).1).T))], [(.int .i64 (((rdAt ((rdNum q 2).2)).1).R))]]) [[(.int .i64 (((rdNum q 2).1) : Int))], [(.int .i64 (((rdAt ((rdNum q 2).2)).1).T))], [(.int .i64 (((rdAt ((rdNum q 2).2)).1).R))], [(.int .i64 0)], [(.int .i64 0)], [(.int .i64 0)], [(.int .i64 0)], [(.string ByteArray.empty)], (idCells zeroId), [(.slice none 0 0)]] Tryz.sizeOf69 rfl rfl rfl rfl ⟨[[(.int .i64 0)], [(.int .i64 0)]], [[(.int .i64 0)], [(.int .i64 0)], [(.int .i64 0)], [(.int .i64 0)], [(.string ByteArray.empty)], (idCells zeroId), [(.slice none 0 0)]], rfl, rfl, rfl⟩ rfl ?_)
 intro w26 hg27 H28
 refine O_nil (Then_n (W_seq (W_reg ?_)))
 refine O_mv (v := (.pointer (some ⟨br, 0, none⟩))) rfl rfl ?_
 refine O_v rfl (R_callL (vs := [(.pointer (some ⟨br, 0, none⟩))]) cF106 rfl rfl ((stamp_get br r20 Sr ((rdAt ((rdNum q 2).2)).2) w26 ((H28.pick (B' := [boxR br 132 (rdCh r20)]) (I' := [slI Sr encB 1 r20.bh r20.b]) [2] (by decide) rfl (List.forall_mem_cons.2 ⟨List.mem_of_getElem? (i := 0) rfl, fun _ h => (nomatch h)⟩)).rdStart) hr24).ret ?_))
 rintro _ w30 ⟨r29, rfl, hg31, hQ32, hr33⟩
 have H34 := H28.rdUpd (r := r20) 2 0 rfl rfl hg31 hQ32
 refine O_v rfl (R_fieldAddr (off := 3) (oo := 3) Tryz.underlying72 rfl rfl Tryz.sizeOf69 rfl rfl ?_)
 refine O_u (C_storeA H34 0 rfl 3 (sub := [[(.int .i64 (((rdAt ((rdAt ((rdNum q 2).2)).2)).1).T))], [(.int .i64 (((rdAt ((rdAt ((rdNum q 2).2)).2)).1).R))]]) [[(.int .i64 (((rdNum q 2).1) : Int))], [(.int .i64 (((rdAt ((rdNum q 2).2)).1).T))], [(.int .i64 (((rdAt ((rdNum q 2).2)).1).R))], [(.int .i64 (((rdAt ((rdAt ((rdNum q 2).2)).2)).1).T))], [(.int .i64 (((rdAt ((rdAt ((rdNum q 2).2)).2)).1).R))], [(.int .i64 0)], [(.int .i64 0)], [(.string ByteArray.empty)], (idCells zeroId), [(.slice none 0 0)]] Tryz.sizeOf69 rfl rfl rfl rfl ⟨[[(.int .i64 0)], [(.int .i64 0)]], [[(.int .i64 0)], [(.int .i64 0)], [(.string ByteArray.empty)], (idCells zeroId), [(.slice none 0 0)]], rfl, rfl, rfl⟩ rfl ?_)
 intro w35 hg36 H37
 refine O_nil (Then_n (W_seq (W_seq (W_reg ?_))))
 refine O_v rfl (R_fieldAddr (off := 0) (oo := 0) Tryz.underlying72 rfl rfl Tryz.sizeOf3 rfl rfl ?_)
 refine O_v rfl (R_load1 (v := (.int .i64 (((rdNum q 2).1) : Int))) Tryz.isAgg3 rfl (H37.bx 0 rfl 0 1 0 0 _ rfl rfl rfl) ?_)
 refine O_v rfl (R_cmp (a := (((rdNum q 2).1) : Int)) (b := 1) (r := (decide ((((rdNum q 2).1) : Int) = 1))) rfl rfl rfl ?_)
 refine O_nil (Then_n ?_)
 refine W_cond rfl (fun hc38 => ?_) (fun hc38 => ?_)
 ·have hc38 := (of_decide_eq_true hc38)
  have hK := hc38
  refine W_seq (W_reg ?_)
  refine O_mv (v := (.pointer (some ⟨br, 0, none⟩))) rfl rfl ?_
  refine O_v rfl (R_callL (vs := [(.pointer (some ⟨br, 0, none⟩))]) cF106 rfl rfl ((stamp_get br r29 Sr ((rdAt ((rdAt ((rdNum q 2).2)).2)).2) w35 ((H37.pick (B' := [boxR br 132 (rdCh r29)]) (I' := [slI Sr encB 1 r29.bh r29.b]) [2] (by decide) rfl (List.forall_mem_cons.2 ⟨List.mem_of_getElem? (i := 0) rfl, fun _ h => (nomatch h)⟩)).rdStart) hr33).ret ?_))
  rintro _ w40 ⟨r39, rfl, hg41, hQ42, hr43⟩
  have H44 := H37.rdUpd (r := r29) 2 0 rfl rfl hg41 hQ42
  refine O_v rfl (R_fieldAddr (off := 5) (oo := 5) Tryz.underlying72 rfl rfl Tryz.sizeOf69 rfl rfl ?_)
  refine O_u (C_storeA H44 0 rfl 5 (sub := [[(.int .i64 (((rdAt ((rdAt ((rdAt ((rdNum q 2).2)).2)).2)).1).T))], [(.int .i64 (((rdAt ((rdAt ((rdAt ((rdNum q 2).2)).2)).2)).1).R))]]) [[(.int .i64 (((rdNum q 2).1) : Int))], [(.int .i64 (((rdAt ((rdNum q 2).2)).1).T))], [(.int .i64 (((rdAt ((rdNum q 2).2)).1).R))], [(.int .i64 (((rdAt ((rdAt ((rdNum q 2).2)).2)).1).T))], [(.int .i64 (((rdAt ((rdAt ((rdNum q 2).2)).2)).1).R))], [(.int .i64 (((rdAt ((rdAt ((rdAt ((rdNum q 2).2)).2)).2)).1).T))], [(.int .i64 (((rdAt ((rdAt ((rdAt ((rdNum q 2).2)).2)).2)).1).R))], [(.string ByteArray.empty)], (idCells zeroId), [(.slice none 0 0)]] Tryz.sizeOf69 rfl rfl rfl rfl ⟨[[(.int .i64 0)], [(.int .i64 0)]], [[(.string ByteArray.empty)], (idCells zeroId), [(.slice none 0 0)]], rfl, rfl, rfl⟩ rfl ?_)
  intro w45 hg46 H47
  refine O_nil (Then_n (W_reg ?_))
  refine O_mv (v := (.pointer (some ⟨br, 0, none⟩))) rfl rfl ?_
  refine O_v rfl (R_callL (vs := [(.pointer (some ⟨br, 0, none⟩)), (.int .i64 60)]) cF65 rfl rfl ((Reader_Text br r39 Sr ((rdAt ((rdAt ((rdAt ((rdNum q 2).2)).2)).2)).2) 60 w45 ((H47.pick (B' := [boxR br 132 (rdCh r39)]) (I' := [slI Sr encB 1 r39.bh r39.b]) [2] (by decide) rfl (List.forall_mem_cons.2 ⟨List.mem_of_getElem? (i := 0) rfl, fun _ h => (nomatch h)⟩)).rdStart) hr43).ret ?_))
  rintro _ w49 ⟨r48, rfl, hg50, hQ51, hr52⟩
  have H53 := H47.rdUpd (r := r39) 2 0 rfl rfl hg50 hQ51
  refine O_v rfl (R_fieldAddr (off := 7) (oo := 7) Tryz.underlying72 rfl rfl Tryz.sizeOf9 rfl rfl ?_)
  refine O_u (C_store1 H53 0 rfl 7 (v := (.string ((rdText ((rdAt ((rdAt ((rdAt ((rdNum q 2).2)).2)).2)).2) 60).1))) [[(.int .i64 (((rdNum q 2).1) : Int))], [(.int .i64 (((rdAt ((rdNum q 2).2)).1).T))], [(.int .i64 (((rdAt ((rdNum q 2).2)).1).R))], [(.int .i64 (((rdAt ((rdAt ((rdNum q 2).2)).2)).1).T))], [(.int .i64 (((rdAt ((rdAt ((rdNum q 2).2)).2)).1).R))], [(.int .i64 (((rdAt ((rdAt ((rdAt ((rdNum q 2).2)).2)).2)).1).T))], [(.int .i64 (((rdAt ((rdAt ((rdAt ((rdNum q 2).2)).2)).2)).1).R))], [(.string ((rdText ((rdAt ((rdAt ((rdAt ((rdNum q 2).2)).2)).2)).2) 60).1))], (idCells zeroId), [(.slice none 0 0)]] Tryz.sizeOf9 rfl rfl rfl rfl rfl rfl rfl ?_)
  intro w54 hg55 H56
  refine O_nil (Then_n (W_seq (W_seq ?_)))
  refine W_rgM (fun c => c = br) (fun i => if i == 1 then 1 else 0) [(0, .q 2), (1, .c 1), (2, .q 2), (3, .q 2), (4, .q 1), (5, .q 0), (6, .q 2), (7, .q 2)] (by kernel_rfl) ?_
  refine Lx_mv (v := (.pointer (some ⟨br, 0, none⟩))) rfl rfl rfl ?_
  refine Lx_c rfl rfl (fun w59 hw60 => ?_)
  have H61 := H56.ext hw60
  refine (R_callL (vs := [(.pointer (some ⟨br, 0, none⟩))]) cF48 rfl rfl ((Reader_Good br r48 Sr ((rdText ((rdAt ((rdAt ((rdAt ((rdNum q 2).2)).2)).2)).2) 60).2) w59 ((H61.pick (B' := [boxR br 132 (rdCh r48)]) (I' := [slI Sr encB 1 r48.bh r48.b]) [2] (by decide) rfl (List.forall_mem_cons.2 ⟨List.mem_of_getElem? (i := 0) rfl, fun _ h => (nomatch h)⟩)).rdStart) hr52).ret ?_))
  rintro _ w63 ⟨r62, rfl, hg64, hQ65, hr66⟩
  have H67 := H61.rdUpd (r := r48) 2 0 rfl rfl hg64 hQ65
  refine ⟨hg64, ?_⟩
  refine Lx_q rfl rfl _ (fun v68 hv69 => R_not rfl qk) (Lx_mv (v := (.bool (!(!(((rdText ((rdAt ((rdAt ((rdAt ((rdNum q 2).2)).2)).2)).2) 60).2).2))))) rfl rfl rfl (Lx_qf rfl rfl rfl rfl rfl _ (fun hA v72 hv73 => R_loadA (cs := [[(.int .i64 (((rdNum q 2).1) : Int))], [(.int .i64 (((rdAt ((rdNum q 2).2)).1).T))], [(.int .i64 (((rdAt ((rdNum q 2).2)).1).R))], [(.int .i64 (((rdAt ((rdAt ((rdNum q 2).2)).2)).1).T))], [(.int .i64 (((rdAt ((rdAt ((rdNum q 2).2)).2)).1).R))], [(.int .i64 (((rdAt ((rdAt ((rdAt ((rdNum q 2).2)).2)).2)).1).T))], [(.int .i64 (((rdAt ((rdAt ((rdAt ((rdNum q 2).2)).2)).2)).1).R))], [(.string ((rdText ((rdAt ((rdAt ((rdAt ((rdNum q 2).2)).2)).2)).2) 60).1))], (idCells zeroId), [(.slice none 0 0)]]) Tryz.isAgg72 Tryz.sizeOf72 rfl rfl ((boxR_at (H67.ownGr 0 2 (by decide) rfl rfl hv73 (fun _ h => congrArg some h.symm))).chunks 0 10 0 0 _ rfl rfl rfl) qk) (Lx_qf rfl rfl rfl rfl rfl (.bool (goodOp ({ kind := (((rdNum q 2).1) : Int), tm := ((rdAt ((rdNum q 2).2)).1), node := ((rdAt ((rdAt ((rdNum q 2).2)).2)).1), par := ((rdAt ((rdAt ((rdAt ((rdNum q 2).2)).2)).2)).1), name := (rdText ((rdAt ((rdAt ((rdAt ((rdNum q 2).2)).2)).2)).2) 60).1, data := zeroId, over := [], oh := nilH } : OpS))) (fun hA v74 hv75 => R_callL (vs := [(aggOf [[(.int .i64 (((rdNum q 2).1) : Int))], [(.int .i64 (((rdAt ((rdNum q 2).2)).1).T))], [(.int .i64 (((rdAt ((rdNum q 2).2)).1).R))], [(.int .i64 (((rdAt ((rdAt ((rdNum q 2).2)).2)).1).T))], [(.int .i64 (((rdAt ((rdAt ((rdNum q 2).2)).2)).1).R))], [(.int .i64 (((rdAt ((rdAt ((rdAt ((rdNum q 2).2)).2)).2)).1).T))], [(.int .i64 (((rdAt ((rdAt ((rdAt ((rdNum q 2).2)).2)).2)).1).R))], [(.string ((rdText ((rdAt ((rdAt ((rdAt ((rdNum q 2).2)).2)).2)).2) 60).1))], (idCells zeroId), [(.slice none 0 0)]])]) cF97 rfl (lst1 (gv_t hA)) (stamp_Good ({ kind := (((rdNum q 2).1) : Int), tm := ((rdAt ((rdNum q 2).2)).1), node := ((rdAt ((rdAt ((rdNum q 2).2)).2)).1), par := ((rdAt ((rdAt ((rdAt ((rdNum q 2).2)).2)).2)).1), name := (rdText ((rdAt ((rdAt ((rdAt ((rdNum q 2).2)).2)).2)).2) 60).1, data := zeroId, over := [], oh := nilH } : OpS) v74 (Sl.nil _ _ _ _))) ?_)))
  refine Lx_qf rfl rfl rfl rfl rfl _ (fun hA v76 hv77 => R_not (gv_t hA) qk) (Lx_q rfl rfl _ (fun v78 hv79 => R_pick rfl pk_or qk) ?_)
  refine Lx_nil (fun w80 hw81 => ?_)
  have H82 := H67.ext hw81
  refine Then_n ?_
  refine W_cond rfl (fun hc83 => ?_) (fun hc83 => ?_)
  ·have hc83 : ((((rdText ((rdAt ((rdAt ((rdAt ((rdNum q 2).2)).2)).2)).2) 60).2).2) = true ∨ (goodOp ({ kind := (((rdNum q 2).1) : Int), tm := ((rdAt ((rdNum q 2).2)).1), node := ((rdAt ((rdAt ((rdNum q 2).2)).2)).1), par := ((rdAt ((rdAt ((rdAt ((rdNum q 2).2)).2)).2)).1), name := (rdText ((rdAt ((rdAt ((rdAt ((rdNum q 2).2)).2)).2)).2) 60).1, data := zeroId, over := [], oh := nilH } : OpS)) = false) := (Or.imp (fun h => (notF (notT h))) (fun h => (notT h)) (orT hc83))
   refine W_seq (W_reg ?_)
   refine O_mv (v := (.pointer (some ⟨br, 0, none⟩))) rfl rfl ?_
   refine O_v rfl (R_callL (vs := [(.pointer (some ⟨br, 0, none⟩))]) cF87 rfl rfl ((Reader_Fail br r62 Sr ((rdText ((rdAt ((rdAt ((rdAt ((rdNum q 2).2)).2)).2)).2) 60).2) w80 ((H82.pick (B' := [boxR br 132 (rdCh r62)]) (I' := [slI Sr encB 1 r62.bh r62.b]) [2] (by decide) rfl (List.forall_mem_cons.2 ⟨List.mem_of_getElem? (i := 0) rfl, fun _ h => (nomatch h)⟩)).rdStart) hr66).ret ?_))
   rintro _ w85 ⟨r84, rfl, hg86, hQ87, hr88⟩
   have H89 := H82.rdUpd (r := r62) 2 0 rfl rfl hg86 hQ87
   refine O_nil (Then_n (W_seq (W_reg ?_)))
   refine O_v rfl (R_buildL (vs := []) (v := aggOf [[(.int .i64 0)], [(.int .i64 0)], [(.int .i64 0)], [(.int .i64 0)], [(.int .i64 0)], [(.int .i64 0)], [(.int .i64 0)], [(.string ByteArray.empty)], (idCells zeroId), [(.slice none 0 0)]]) rfl (fun _ => by kernel_rfl) ?_)
   refine O_u (C_storeW H89 1 rfl (sub := [[(.int .i64 0)], [(.int .i64 0)], [(.int .i64 0)], [(.int .i64 0)], [(.int .i64 0)], [(.int .i64 0)], [(.int .i64 0)], [(.string ByteArray.empty)], (idCells zeroId), [(.slice none 0 0)]]) Tryz.sizeOf72 rfl rfl rfl rfl rfl ?_)
   intro w90 hg91 H92
   refine O_nil (Then_n (W_ret (Then_r ?_)))
   refine ret_c Tryz.results64 (inMem (cs := [[(.int .i64 0)], [(.int .i64 0)], [(.int .i64 0)], [(.int .i64 0)], [(.int .i64 0)], [(.int .i64 0)], [(.int .i64 0)], [(.string ByteArray.empty)], (idCells zeroId), [(.slice none 0 0)]]) rfl Tryz.isAgg72 Tryz.sizeOf72 rfl (boxR_at (H92.getOwn 1 rfl))) ?_
   have H93 := H92.addNil 69 2 stampCh
   have HQ := ((H93.pick (B' := [boxR br 132 (rdCh r84)]) (I' := [slI Sr encB 1 r84.bh r84.b]) [3] (by decide) rfl (List.forall_mem_cons.2 ⟨List.mem_of_getElem? (i := 0) rfl, fun _ h => (nomatch h)⟩)).rdStart)
   exact ⟨r84, ({ kind := 0, tm := ({ T := 0, R := 0 } : Stamp), node := ({ T := 0, R := 0 } : Stamp), par := ({ T := 0, R := 0 } : Stamp), name := ByteArray.empty, data := zeroId, over := [], oh := nilH } : OpS), rfl, H93.gr, HQ, (hr88.trans (congrArg Prod.snd (op_fail (opRead_m hK) hc83)).symm), H93.retRowM 3 0 (by decide) rfl rfl, (congrArg Prod.fst (op_fail (opRead_m hK) hc83)).symm⟩
  ·have hc83 : ((((rdText ((rdAt ((rdAt ((rdAt ((rdNum q 2).2)).2)).2)).2) 60).2).2) = false ∧ (goodOp ({ kind := (((rdNum q 2).1) : Int), tm := ((rdAt ((rdNum q 2).2)).1), node := ((rdAt ((rdAt ((rdNum q 2).2)).2)).1), par := ((rdAt ((rdAt ((rdAt ((rdNum q 2).2)).2)).2)).1), name := (rdText ((rdAt ((rdAt ((rdAt ((rdNum q 2).2)).2)).2)).2) 60).1, data := zeroId, over := [], oh := nilH } : OpS)) = true) := (And.imp (fun h => (notT (notF h))) (fun h => (notF h)) (orF hc83))
   refine W_skip (Then_n (W_seq (W_reg ?_)))
   refine O_v rfl (R_loadA (cs := [[(.int .i64 (((rdNum q 2).1) : Int))], [(.int .i64 (((rdAt ((rdNum q 2).2)).1).T))], [(.int .i64 (((rdAt ((rdNum q 2).2)).1).R))], [(.int .i64 (((rdAt ((rdAt ((rdNum q 2).2)).2)).1).T))], [(.int .i64 (((rdAt ((rdAt ((rdNum q 2).2)).2)).1).R))], [(.int .i64 (((rdAt ((rdAt ((rdAt ((rdNum q 2).2)).2)).2)).1).T))], [(.int .i64 (((rdAt ((rdAt ((rdAt ((rdNum q 2).2)).2)).2)).1).R))], [(.string ((rdText ((rdAt ((rdAt ((rdAt ((rdNum q 2).2)).2)).2)).2) 60).1))], (idCells zeroId), [(.slice none 0 0)]]) Tryz.isAgg72 Tryz.sizeOf72 rfl rfl (H82.bx 0 rfl 0 10 0 0 _ rfl rfl rfl) ?_)
   refine O_u (C_storeW H82 1 rfl (sub := [[(.int .i64 (((rdNum q 2).1) : Int))], [(.int .i64 (((rdAt ((rdNum q 2).2)).1).T))], [(.int .i64 (((rdAt ((rdNum q 2).2)).1).R))], [(.int .i64 (((rdAt ((rdAt ((rdNum q 2).2)).2)).1).T))], [(.int .i64 (((rdAt ((rdAt ((rdNum q 2).2)).2)).1).R))], [(.int .i64 (((rdAt ((rdAt ((rdAt ((rdNum q 2).2)).2)).2)).1).T))], [(.int .i64 (((rdAt ((rdAt ((rdAt ((rdNum q 2).2)).2)).2)).1).R))], [(.string ((rdText ((rdAt ((rdAt ((rdAt ((rdNum q 2).2)).2)).2)).2) 60).1))], (idCells zeroId), [(.slice none 0 0)]]) Tryz.sizeOf72 rfl rfl rfl rfl rfl ?_)
   intro w94 hg95 H96
   refine O_nil (Then_n (W_ret ?_))
   refine ret_c Tryz.results64 (inMem (cs := [[(.int .i64 (((rdNum q 2).1) : Int))], [(.int .i64 (((rdAt ((rdNum q 2).2)).1).T))], [(.int .i64 (((rdAt ((rdNum q 2).2)).1).R))], [(.int .i64 (((rdAt ((rdAt ((rdNum q 2).2)).2)).1).T))], [(.int .i64 (((rdAt ((rdAt ((rdNum q 2).2)).2)).1).R))], [(.int .i64 (((rdAt ((rdAt ((rdAt ((rdNum q 2).2)).2)).2)).1).T))], [(.int .i64 (((rdAt ((rdAt ((rdAt ((rdNum q 2).2)).2)).2)).1).R))], [(.string ((rdText ((rdAt ((rdAt ((rdAt ((rdNum q 2).2)).2)).2)).2) 60).1))], (idCells zeroId), [(.slice none 0 0)]]) rfl Tryz.isAgg72 Tryz.sizeOf72 rfl (boxR_at (H96.getOwn 1 rfl))) ?_
   have H97 := H96.addNil 69 2 stampCh
   have HQ := ((H97.pick (B' := [boxR br 132 (rdCh r62)]) (I' := [slI Sr encB 1 r62.bh r62.b]) [3] (by decide) rfl (List.forall_mem_cons.2 ⟨List.mem_of_getElem? (i := 0) rfl, fun _ h => (nomatch h)⟩)).rdStart)
   exact ⟨r62, ({ kind := (((rdNum q 2).1) : Int), tm := ((rdAt ((rdNum q 2).2)).1), node := ((rdAt ((rdAt ((rdNum q 2).2)).2)).1), par := ((rdAt ((rdAt ((rdAt ((rdNum q 2).2)).2)).2)).1), name := (rdText ((rdAt ((rdAt ((rdAt ((rdNum q 2).2)).2)).2)).2) 60).1, data := zeroId, over := [], oh := nilH } : OpS), rfl, H97.gr, HQ, (hr66.trans (congrArg Prod.snd (op_ok (opRead_m hK) hc83)).symm), H97.retRowM 3 0 (by decide) rfl rfl, (congrArg Prod.fst (op_ok (opRead_m hK) hc83)).symm⟩
 ·have hc38 := (of_decide_eq_false hc38)
  have hK := hc38
  refine W_seq (W_reg ?_)
  refine O_mv (v := (.pointer (some ⟨br, 0, none⟩))) rfl rfl ?_
  refine O_v rfl (R_callL (vs := [(.pointer (some ⟨br, 0, none⟩))]) cF63 rfl rfl ((Reader_Id br r29 Sr ((rdAt ((rdAt ((rdNum q 2).2)).2)).2) w35 ((H37.pick (B' := [boxR br 132 (rdCh r29)]) (I' := [slI Sr encB 1 r29.bh r29.b]) [2] (by decide) rfl (List.forall_mem_cons.2 ⟨List.mem_of_getElem? (i := 0) rfl, fun _ h => (nomatch h)⟩)).rdStart) hr33).ret ?_))
  rintro _ w99 ⟨r98, rfl, hg100, hQ101, hr102⟩
  have H103 := H37.rdUpd (r := r29) 2 0 rfl rfl hg100 hQ101
  refine O_v rfl (R_fieldAddr (off := 8) (oo := 8) Tryz.underlying72 rfl rfl Tryz.sizeOf45 rfl rfl ?_)
  refine O_u (C_storeA H103 0 rfl 8 (sub := [(idCells ((rdId ((rdAt ((rdAt ((rdNum q 2).2)).2)).2)).1))]) [[(.int .i64 (((rdNum q 2).1) : Int))], [(.int .i64 (((rdAt ((rdNum q 2).2)).1).T))], [(.int .i64 (((rdAt ((rdNum q 2).2)).1).R))], [(.int .i64 (((rdAt ((rdAt ((rdNum q 2).2)).2)).1).T))], [(.int .i64 (((rdAt ((rdAt ((rdNum q 2).2)).2)).1).R))], [(.int .i64 0)], [(.int .i64 0)], [(.string ByteArray.empty)], (idCells ((rdId ((rdAt ((rdAt ((rdNum q 2).2)).2)).2)).1)), [(.slice none 0 0)]] Tryz.sizeOf45 rfl rfl rfl rfl ⟨[(idCells zeroId)], [[(.slice none 0 0)]], rfl, rfl, rfl⟩ rfl ?_)
  intro w104 hg105 H106
  refine O_nil (Then_n (W_seq (W_reg ?_)))
  refine O_mv (v := (.pointer (some ⟨br, 0, none⟩))) rfl rfl ?_
  refine O_v rfl (R_callL (vs := [(.pointer (some ⟨br, 0, none⟩)), (.int .i64 64)]) cF46 rfl rfl ((Reader_Num br r98 Sr ((rdId ((rdAt ((rdAt ((rdNum q 2).2)).2)).2)).2) 64 w104 ((H106.pick (B' := [boxR br 132 (rdCh r98)]) (I' := [slI Sr encB 1 r98.bh r98.b]) [2] (by decide) rfl (List.forall_mem_cons.2 ⟨List.mem_of_getElem? (i := 0) rfl, fun _ h => (nomatch h)⟩)).rdStart) hr102).ret ?_))
  rintro _ w108 ⟨r107, rfl, hg109, hQ110, hr111⟩
  have H112 := H106.rdUpd (r := r98) 2 0 rfl rfl hg109 hQ110
  refine O_mv (v := (.int .i64 0)) rfl rfl ?_
  refine O_nil (Then_n (W_block ?_))
  have H113 := H112.addNil 69 2 stampCh
  refine W_loop (fun m114 e115 w116 => ∃ (k : Nat), ∃ (acc : List Stamp), ∃ (rr : RdS), ∃ (rq : List UInt8 × Bool), ∃ (ho : SlH), m114 = (rdNum (rdId (rdAt (rdAt (rdNum q 2).2).2).2).2 64).1 - k ∧ (k ≤ (rdNum (rdId (rdAt (rdAt (rdNum q 2).2).2).2).2 64).1) ∧ ((rdNum (rdId (rdAt (rdAt (rdNum q 2).2).2).2).2 64).1 ≤ 64) ∧ (acc.length ≤ k) ∧ (rr.st = rq) ∧ (rdAts ((rdNum (rdId (rdAt (rdAt (rdNum q 2).2).2).2).2 64).1 - k) acc rq = rdAts (rdNum (rdId (rdAt (rdAt (rdNum q 2).2).2).2).2 64).1 [] (rdNum (rdId (rdAt (rdAt (rdNum q 2).2).2).2).2 64).2) ∧ ∃ eb117, e115 = envL [(0, (.pointer (some ⟨br, 0, none⟩))), (2, (.pointer (some ⟨b1, 0, none⟩))), (3, (.pointer (some ⟨b12, 0, none⟩))), (26, (.int .i64 (((rdNum ((rdId ((rdAt ((rdAt ((rdNum q 2).2)).2)).2)).2) 64).1) : Int))), (27, (.int .i64 (k : Int)))] eb117 ∧ Ctx w (fun c => c = br) w116 [rowR 69 2 stampCh ho acc, boxR b12 72 [[(.int .i64 (((rdNum q 2).1) : Int))], [(.int .i64 (((rdAt ((rdNum q 2).2)).1).T))], [(.int .i64 (((rdAt ((rdNum q 2).2)).1).R))], [(.int .i64 (((rdAt ((rdAt ((rdNum q 2).2)).2)).1).T))], [(.int .i64 (((rdAt ((rdAt ((rdNum q 2).2)).2)).1).R))], [(.int .i64 0)], [(.int .i64 0)], [(.string ByteArray.empty)], (idCells ((rdId ((rdAt ((rdAt ((rdNum q 2).2)).2)).2)).1)), [(slV ho acc)]], boxR b1 72 [[(.int .i64 0)], [(.int .i64 0)], [(.int .i64 0)], [(.int .i64 0)], [(.int .i64 0)], [(.int .i64 0)], [(.int .i64 0)], [(.string ByteArray.empty)], (idCells zeroId), [(.slice none 0 0)]], boxR br 132 [[(slV rr.bh rr.b)], [(.bool rr.bad)]]] [slI Sr encB 1 rr.bh rr.b]) _ ⟨0, [], r107, ((rdNum (rdId (rdAt (rdAt (rdNum q 2).2).2).2).2 64).2), nilH, rfl, (by omega), (rdNum_le _ (by decide)), (by simp), hr111, rfl, _, envL_self ⟨rfl, rfl, rfl, rfl, rfl, trivial⟩, H113⟩ ?_
  rintro m114 _ w116 ⟨k, acc, rr, rq, ho, rfl, hk, hm, hal, hrr, hgo, eb117, rfl, H118⟩
  refine W_seq (W_reg ?_)
  refine O_v rfl (R_cmp (a := (k : Int)) (b := (((rdNum ((rdId ((rdAt ((rdAt ((rdNum q 2).2)).2)).2)).2) 64).1) : Int)) (r := (decide ((k : Int) < (((rdNum ((rdId ((rdAt ((rdAt ((rdNum q 2).2)).2)).2)).2) 64).1) : Int)))) rfl rfl rfl ?_)
  refine O_nil (Then_n (W_seq ?_))
  refine W_cond rfl (fun hc119 => ?_) (fun hc119 => ?_)
  ·have hc119 := (of_decide_eq_true hc119)
   refine W_skip (Then_n (W_seq (W_block ?_)))
   refine W_rgdM TryzMixed (fun c => c = br) (fun i => if i == 3 then 1 else if i == 5 || i == 7 then 2 else 0) [(0, .q 2), (1, .q 1), (2, .q 2), (3, .c 1), (4, .c 0), (5, .c 2), (6, .q 2), (7, .c 2)] (by kernel_rfl) ?_
   refine Lx_q rfl rfl _ (fun v120 hv121 => R_fieldAddr (off := 40) (oo := 40) Tryz.underlying72 rfl rfl Tryz.sizeOf70 rfl rfl qk) (Lx_q rfl rfl _ (fun v122 hv123 => R_load1 (v := (slV ho acc)) Tryz.isAgg70 rfl ((boxR_at (H118.ownGr 1 3 (by decide) rfl rfl hv123 (fun _ h => congrArg some h.symm))).chunks 9 1 40 40 _ rfl rfl rfl) qk) (Lx_mv (v := (.pointer (some ⟨br, 0, none⟩))) rfl rfl rfl ?_))
   refine Lx_c rfl rfl (fun w126 hw127 => ?_)
   have H128 := H118.ext hw127
   refine (R_callL (vs := [(.pointer (some ⟨br, 0, none⟩))]) cF106 rfl rfl ((stamp_get br rr Sr rq w126 ((H128.pick (B' := [boxR br 132 (rdCh rr)]) (I' := [slI Sr encB 1 rr.bh rr.b]) [3] (by decide) rfl (List.forall_mem_cons.2 ⟨List.mem_of_getElem? (i := 0) rfl, fun _ h => (nomatch h)⟩)).rdStart) hrr).ret ?_))
   rintro _ w130 ⟨r129, rfl, hg131, hQ132, hr133⟩
   have H134 := H128.rdUpd (r := rr) 3 0 rfl rfl hg131 hQ132
   refine ⟨hg131, ?_⟩
   refine Lx_c rfl rfl (fun w135 hw136 => ?_)
   have H137 := H134.ext hw136
   refine (C_buildSliceL H137 (enc := stampCh) (val := stampV) ([(rdAt rq).1] : List Stamp) Tryz.underlying70 Tryz.sizeOf69 Tryz.zeroValue69 rfl (by decide) (fun _ => rfl) (fun _ => rfl) rfl rfl (by decide) ?_)
   intro b138 w139 hb140 hx141 H142
   refine ⟨GrF.ofExt hx141, ?_⟩
   refine Lx_c rfl rfl (fun w143 hw144 => ?_)
   have H145 := H142.ext hw144
   refine (C_append H145 1 rfl (bytes := 16) (l := acc) (ys := ([(rdAt rq).1] : List Stamp)) Tryz.underlying70 rfl rfl rfl rfl rfl (by decide) rfl rfl (OwnS.sl (H145.getOwn 0 rfl) (fun _ => rfl)) (fun _ => rfl) (fun _ => rfl) (by simp only [List.length_append, List.length_cons, List.length_nil]; omega) (by decide) ?_)
   intro h146 w147 hg148 H149
   refine ⟨Gr.mono (M' := fun _ => True) hg148 (fun _ _ => trivial), ?_⟩
   refine Lx_q rfl rfl _ (fun v150 hv151 => R_fieldAddr (off := 40) (oo := 40) Tryz.underlying72 rfl rfl Tryz.sizeOf70 rfl rfl qk) ?_
   refine Lx_cu rfl (fun w152 hw153 => ?_)
   have H154 := H149.ext hw153
   refine (C_store1 H154 2 rfl 9 (v := (slV h146 (acc ++ ([(rdAt rq).1] : List Stamp)))) [[(.int .i64 (((rdNum q 2).1) : Int))], [(.int .i64 (((rdAt ((rdNum q 2).2)).1).T))], [(.int .i64 (((rdAt ((rdNum q 2).2)).1).R))], [(.int .i64 (((rdAt ((rdAt ((rdNum q 2).2)).2)).1).T))], [(.int .i64 (((rdAt ((rdAt ((rdNum q 2).2)).2)).1).R))], [(.int .i64 0)], [(.int .i64 0)], [(.string ByteArray.empty)], (idCells ((rdId ((rdAt ((rdAt ((rdNum q 2).2)).2)).2)).1)), [(slV h146 (acc ++ ([(rdAt rq).1] : List Stamp)))]] Tryz.sizeOf70 rfl rfl rfl rfl rfl rfl rfl ?_)
   intro w155 hg156 H157
   refine ⟨Gr.mono (M' := fun _ => True) hg156 (fun _ _ => trivial), ?_⟩
   refine Lx_nil (fun w158 hw159 => ?_)
   have H160 := H157.ext hw159
   refine Blk_n (Then_n (W_reg ?_))
   refine O_v rfl (R_arith (a := (k : Int)) (b := 1) (r0 := (k : Int) + 1) (r := ((k + 1 : Nat) : Int)) rfl rfl rfl (wrapN _ (by omega)) ?_)
   refine O_mv (v := (.int .i64 ((k + 1 : Nat) : Int))) rfl rfl ?_
   refine O_nil (Then_n ?_)
   have H161 := H160.sub (List.Sublist.cons _ (List.Sublist.cons_cons _ (List.Sublist.cons_cons _ (List.Sublist.cons_cons _ (List.Sublist.cons_cons _ List.Sublist.slnil))))) (List.forall_mem_cons.2 ⟨List.mem_of_getElem? (i := 0) rfl, memN⟩)
   refine ⟨_, ?_, (k + 1), (acc ++ ([(rdAt rq).1] : List Stamp)), r129, ((rdAt rq).2), h146, rfl, (by omega), hm, (by simp only [List.length_append, List.length_cons, List.length_nil]; omega), hr133, (ats_next hgo (by omega)), _, envL_self ⟨rfl, rfl, rfl, rfl, rfl, trivial⟩, H161⟩
   omega
  ·have hc119 := (of_decide_eq_false hc119)
   refine W_exit (Then_x (Then_x (Blk_x (Then_n (W_seq (W_seq ?_))))))
   refine W_rgM (fun c => c = br) (fun i => if i == 1 then 1 else 0) [(0, .q 2), (1, .c 1), (2, .q 2), (3, .q 2), (4, .q 1), (5, .q 0), (6, .q 2), (7, .q 2)] (by kernel_rfl) ?_
   refine Lx_mv (v := (.pointer (some ⟨br, 0, none⟩))) rfl rfl rfl ?_
   refine Lx_c rfl rfl (fun w164 hw165 => ?_)
   have H166 := H118.ext hw165
   refine (R_callL (vs := [(.pointer (some ⟨br, 0, none⟩))]) cF48 rfl rfl ((Reader_Good br rr Sr rq w164 ((H166.pick (B' := [boxR br 132 (rdCh rr)]) (I' := [slI Sr encB 1 rr.bh rr.b]) [3] (by decide) rfl (List.forall_mem_cons.2 ⟨List.mem_of_getElem? (i := 0) rfl, fun _ h => (nomatch h)⟩)).rdStart) hrr).ret ?_))
   rintro _ w168 ⟨r167, rfl, hg169, hQ170, hr171⟩
   have H172 := H166.rdUpd (r := rr) 3 0 rfl rfl hg169 hQ170
   refine ⟨hg169, ?_⟩
   refine Lx_q rfl rfl _ (fun v173 hv174 => R_not rfl qk) (Lx_mv (v := (.bool (!(!rq.2)))) rfl rfl rfl (Lx_qf rfl rfl rfl rfl rfl _ (fun hA v177 hv178 => R_loadA (cs := [[(.int .i64 (((rdNum q 2).1) : Int))], [(.int .i64 (((rdAt ((rdNum q 2).2)).1).T))], [(.int .i64 (((rdAt ((rdNum q 2).2)).1).R))], [(.int .i64 (((rdAt ((rdAt ((rdNum q 2).2)).2)).1).T))], [(.int .i64 (((rdAt ((rdAt ((rdNum q 2).2)).2)).1).R))], [(.int .i64 0)], [(.int .i64 0)], [(.string ByteArray.empty)], (idCells ((rdId ((rdAt ((rdAt ((rdNum q 2).2)).2)).2)).1)), [(slV ho acc)]]) Tryz.isAgg72 Tryz.sizeOf72 rfl rfl ((boxR_at (H172.ownGr 1 3 (by decide) rfl rfl hv178 (fun _ h => congrArg some h.symm))).chunks 0 10 0 0 _ rfl rfl rfl) qk) (Lx_qf rfl rfl rfl rfl rfl (.bool (goodOp ({ kind := (((rdNum q 2).1) : Int), tm := ((rdAt ((rdNum q 2).2)).1), node := ((rdAt ((rdAt ((rdNum q 2).2)).2)).1), par := ({ T := 0, R := 0 } : Stamp), name := ByteArray.empty, data := (rdId ((rdAt ((rdAt ((rdNum q 2).2)).2)).2)).1, over := acc, oh := ho } : OpS))) (fun hA v179 hv180 => R_callL (vs := [(aggOf [[(.int .i64 (((rdNum q 2).1) : Int))], [(.int .i64 (((rdAt ((rdNum q 2).2)).1).T))], [(.int .i64 (((rdAt ((rdNum q 2).2)).1).R))], [(.int .i64 (((rdAt ((rdAt ((rdNum q 2).2)).2)).1).T))], [(.int .i64 (((rdAt ((rdAt ((rdNum q 2).2)).2)).1).R))], [(.int .i64 0)], [(.int .i64 0)], [(.string ByteArray.empty)], (idCells ((rdId ((rdAt ((rdAt ((rdNum q 2).2)).2)).2)).1)), [(slV ho acc)]])]) cF97 rfl (lst1 (gv_t hA)) (stamp_Good ({ kind := (((rdNum q 2).1) : Int), tm := ((rdAt ((rdNum q 2).2)).1), node := ((rdAt ((rdAt ((rdNum q 2).2)).2)).1), par := ({ T := 0, R := 0 } : Stamp), name := ByteArray.empty, data := (rdId ((rdAt ((rdAt ((rdNum q 2).2)).2)).2)).1, over := acc, oh := ho } : OpS) v179 ((H172.ext hv180).rowSl 0 rfl (fun _ => rfl)))) ?_)))
   refine Lx_qf rfl rfl rfl rfl rfl _ (fun hA v181 hv182 => R_not (gv_t hA) qk) (Lx_q rfl rfl _ (fun v183 hv184 => R_pick rfl pk_or qk) ?_)
   refine Lx_nil (fun w185 hw186 => ?_)
   have H187 := H172.ext hw186
   refine Then_n ?_
   refine W_cond rfl (fun hc188 => ?_) (fun hc188 => ?_)
   ·have hc188 : (rq.2 = true ∨ (goodOp ({ kind := (((rdNum q 2).1) : Int), tm := ((rdAt ((rdNum q 2).2)).1), node := ((rdAt ((rdAt ((rdNum q 2).2)).2)).1), par := ({ T := 0, R := 0 } : Stamp), name := ByteArray.empty, data := (rdId ((rdAt ((rdAt ((rdNum q 2).2)).2)).2)).1, over := acc, oh := ho } : OpS)) = false) := (Or.imp (fun h => (notF (notT h))) (fun h => (notT h)) (orT hc188))
    refine W_seq (W_reg ?_)
    refine O_mv (v := (.pointer (some ⟨br, 0, none⟩))) rfl rfl ?_
    refine O_v rfl (R_callL (vs := [(.pointer (some ⟨br, 0, none⟩))]) cF87 rfl rfl ((Reader_Fail br r167 Sr rq w185 ((H187.pick (B' := [boxR br 132 (rdCh r167)]) (I' := [slI Sr encB 1 r167.bh r167.b]) [3] (by decide) rfl (List.forall_mem_cons.2 ⟨List.mem_of_getElem? (i := 0) rfl, fun _ h => (nomatch h)⟩)).rdStart) hr171).ret ?_))
    rintro _ w190 ⟨r189, rfl, hg191, hQ192, hr193⟩
    have H194 := H187.rdUpd (r := r167) 3 0 rfl rfl hg191 hQ192
    refine O_nil (Then_n (W_seq (W_reg ?_)))
    refine O_v rfl (R_buildL (vs := []) (v := aggOf [[(.int .i64 0)], [(.int .i64 0)], [(.int .i64 0)], [(.int .i64 0)], [(.int .i64 0)], [(.int .i64 0)], [(.int .i64 0)], [(.string ByteArray.empty)], (idCells zeroId), [(.slice none 0 0)]]) rfl (fun _ => by kernel_rfl) ?_)
    refine O_u (C_storeW H194 2 rfl (sub := [[(.int .i64 0)], [(.int .i64 0)], [(.int .i64 0)], [(.int .i64 0)], [(.int .i64 0)], [(.int .i64 0)], [(.int .i64 0)], [(.string ByteArray.empty)], (idCells zeroId), [(.slice none 0 0)]]) Tryz.sizeOf72 rfl rfl rfl rfl rfl ?_)
    intro w195 hg196 H197
    refine O_nil (Then_n (W_ret (Then_r ?_)))
    refine ret_c Tryz.results64 (inMem (cs := [[(.int .i64 0)], [(.int .i64 0)], [(.int .i64 0)], [(.int .i64 0)], [(.int .i64 0)], [(.int .i64 0)], [(.int .i64 0)], [(.string ByteArray.empty)], (idCells zeroId), [(.slice none 0 0)]]) rfl Tryz.isAgg72 Tryz.sizeOf72 rfl (boxR_at (H197.getOwn 2 rfl))) ?_
    have H198 := H197.addNil 69 2 stampCh
    have HQ := ((H198.pick (B' := [boxR br 132 (rdCh r189)]) (I' := [slI Sr encB 1 r189.bh r189.b]) [4] (by decide) rfl (List.forall_mem_cons.2 ⟨List.mem_of_getElem? (i := 0) rfl, fun _ h => (nomatch h)⟩)).rdStart)
    exact ⟨r189, ({ kind := 0, tm := ({ T := 0, R := 0 } : Stamp), node := ({ T := 0, R := 0 } : Stamp), par := ({ T := 0, R := 0 } : Stamp), name := ByteArray.empty, data := zeroId, over := [], oh := nilH } : OpS), rfl, H198.gr, HQ, (hr193.trans (congrArg Prod.snd (op_fail (opRead_e hK hgo (by omega)) hc188)).symm), H198.retRowM 4 0 (by decide) rfl rfl, (congrArg Prod.fst (op_fail (opRead_e hK hgo (by omega)) hc188)).symm⟩
   ·have hc188 : (rq.2 = false ∧ (goodOp ({ kind := (((rdNum q 2).1) : Int), tm := ((rdAt ((rdNum q 2).2)).1), node := ((rdAt ((rdAt ((rdNum q 2).2)).2)).1), par := ({ T := 0, R := 0 } : Stamp), name := ByteArray.empty, data := (rdId ((rdAt ((rdAt ((rdNum q 2).2)).2)).2)).1, over := acc, oh := ho } : OpS)) = true) := (And.imp (fun h => (notT (notF h))) (fun h => (notF h)) (orF hc188))
    refine W_skip (Then_n (W_seq (W_reg ?_)))
    refine O_v rfl (R_loadA (cs := [[(.int .i64 (((rdNum q 2).1) : Int))], [(.int .i64 (((rdAt ((rdNum q 2).2)).1).T))], [(.int .i64 (((rdAt ((rdNum q 2).2)).1).R))], [(.int .i64 (((rdAt ((rdAt ((rdNum q 2).2)).2)).1).T))], [(.int .i64 (((rdAt ((rdAt ((rdNum q 2).2)).2)).1).R))], [(.int .i64 0)], [(.int .i64 0)], [(.string ByteArray.empty)], (idCells ((rdId ((rdAt ((rdAt ((rdNum q 2).2)).2)).2)).1)), [(slV ho acc)]]) Tryz.isAgg72 Tryz.sizeOf72 rfl rfl (H187.bx 1 rfl 0 10 0 0 _ rfl rfl rfl) ?_)
    refine O_u (C_storeW H187 2 rfl (sub := [[(.int .i64 (((rdNum q 2).1) : Int))], [(.int .i64 (((rdAt ((rdNum q 2).2)).1).T))], [(.int .i64 (((rdAt ((rdNum q 2).2)).1).R))], [(.int .i64 (((rdAt ((rdAt ((rdNum q 2).2)).2)).1).T))], [(.int .i64 (((rdAt ((rdAt ((rdNum q 2).2)).2)).1).R))], [(.int .i64 0)], [(.int .i64 0)], [(.string ByteArray.empty)], (idCells ((rdId ((rdAt ((rdAt ((rdNum q 2).2)).2)).2)).1)), [(slV ho acc)]]) Tryz.sizeOf72 rfl rfl rfl rfl rfl ?_)
    intro w199 hg200 H201
    refine O_nil (Then_n (W_ret ?_))
    refine ret_c Tryz.results64 (inMem (cs := [[(.int .i64 (((rdNum q 2).1) : Int))], [(.int .i64 (((rdAt ((rdNum q 2).2)).1).T))], [(.int .i64 (((rdAt ((rdNum q 2).2)).1).R))], [(.int .i64 (((rdAt ((rdAt ((rdNum q 2).2)).2)).1).T))], [(.int .i64 (((rdAt ((rdAt ((rdNum q 2).2)).2)).1).R))], [(.int .i64 0)], [(.int .i64 0)], [(.string ByteArray.empty)], (idCells ((rdId ((rdAt ((rdAt ((rdNum q 2).2)).2)).2)).1)), [(slV ho acc)]]) rfl Tryz.isAgg72 Tryz.sizeOf72 rfl (boxR_at (H201.getOwn 2 rfl))) ?_
    have HQ := ((H201.pick (B' := [boxR br 132 (rdCh r167)]) (I' := [slI Sr encB 1 r167.bh r167.b]) [3] (by decide) rfl (List.forall_mem_cons.2 ⟨List.mem_of_getElem? (i := 0) rfl, fun _ h => (nomatch h)⟩)).rdStart)
    exact ⟨r167, ({ kind := (((rdNum q 2).1) : Int), tm := ((rdAt ((rdNum q 2).2)).1), node := ((rdAt ((rdAt ((rdNum q 2).2)).2)).1), par := ({ T := 0, R := 0 } : Stamp), name := ByteArray.empty, data := (rdId ((rdAt ((rdAt ((rdNum q 2).2)).2)).2)).1, over := acc, oh := ho } : OpS), rfl, H201.gr, HQ, (hr171.trans (congrArg Prod.snd (op_ok (opRead_e hK hgo (by omega)) hc188)).symm), H201.retRowM 3 0 (by decide) rfl rfl, (congrArg Prod.fst (op_ok (opRead_e hK hgo (by omega)) hc188)).symm⟩
theorem cF45 : callable Tryz.prog 45 = true := by kernel_rfl
theorem cF49 : callable Tryz.prog 49 = true := by kernel_rfl
theorem cF58 : callable Tryz.prog 58 = true := by kernel_rfl
theorem cF64 : callable Tryz.prog 64 = true := by kernel_rfl
set_option maxHeartbeats 4000000 in
theorem obj_Change (hb : SlH) (b : List UInt8) (w : World) (Sb : Sl (Old w) encB 1 hb b w) (hl : b.length ≤ 140737488355328) :
    Calls Tryz.prog 25 #[(slV hb b)] w (Ret fun v w' => ∃ (X : ChangeS) (SX : Nat → Prop) (e : Int), v = .tuple #[changeV X, .int .i64 e] ∧ Ext w w' ∧ (∀ b, SX b → w.heap.size ≤ b ∧ b < w'.heap.size) ∧ Sl SX idCh 32 X.ph X.parents w' ∧ Sl SX opCh 41 X.oh X.ops w' ∧ (∀ x ∈ X.ops, Sl SX stampCh 2 x.oh x.over w') ∧ ((X.core, e) = changeOf b)) := by
 refine calls_W Tryz.func25 rfl Tryz.ntmps25 rfl ?_
 have H0 := Ctx.start w nob
 have H1 := H0.addSl _ Sb (fun b hb => ⟨hb, fun _ ho => (nomatch ho)⟩)
 have LSb := Sb.len
 refine W_seq (W_reg ?_)
 refine O_v rfl (C_alloc H1 [[(.slice none 0 0)], [(.int .i64 0)], [(.int .i64 0)], [(.slice none 0 0)], (idCells zeroId), [(.string ByteArray.empty)]] Tryz.zeroValue47 ?_)
 intro b2 w3 hb4 hx5 H6
 refine O_as (v := (.int .i64 0)) rfl rfl ?_
 refine O_nil (Then_n (W_seq (W_reg ?_)))
 refine O_mv (v := (slV hb b)) rfl rfl ?_
 refine O_v rfl (R_callL (vs := [(slV hb b), (.int .u8 3)]) cF45 rfl rfl ((obj_open hb b 3 w3 (H6.slOld 0 rfl) (by omega)).ret ?_))
 rintro _ w10 ⟨b7, r8, S9, rfl, hx11, hb12, hS13, hQ14, hr15⟩
 have H16 := H6.addRd hx11 hb12 hS13 hQ14
 refine O_as (v := (.pointer (some ⟨b7, 0, none⟩))) rfl rfl ?_
 refine O_nil (Then_n (W_seq (W_reg ?_)))
 refine O_v rfl (C_alloc H16 [[(.slice none 0 0)], [(.int .i64 0)], [(.int .i64 0)], [(.slice none 0 0)], (idCells zeroId), [(.string ByteArray.empty)]] Tryz.zeroValue47 ?_)
 intro b17 w18 hb19 hx20 H21
 refine O_nil (Then_n (W_seq (W_seq (W_reg ?_))))
 refine O_mv (v := (.pointer (some ⟨b7, 0, none⟩))) rfl rfl ?_
 refine O_v rfl (R_callL (vs := [(.pointer (some ⟨b7, 0, none⟩)), (.int .i64 2)]) cF46 rfl rfl ((Reader_Num b7 r8 S9 (openSt b 3) 2 w18 ((H21.pick (B' := [boxR b7 132 (rdCh r8)]) (I' := [slI S9 encB 1 r8.bh r8.b]) [1] (by decide) rfl (List.forall_mem_cons.2 ⟨List.mem_of_getElem? (i := 0) rfl, fun _ h => (nomatch h)⟩)).rdStart) hr15).ret ?_))
 rintro _ w23 ⟨r22, rfl, hg24, hQ25, hr26⟩
 have H27 := H21.rdUpd (r := r8) 1 0 rfl rfl hg24 hQ25
 refine O_mv (v := (.int .i64 0)) rfl rfl ?_
 refine O_nil (Then_n (W_block ?_))
 have H28 := H27.addNil 45 32 idCh
 refine W_loop (fun m29 e30 w31 => ∃ (k : Nat), ∃ (pacc : List ID), ∃ (rr : RdS), ∃ (rq : List UInt8 × Bool), ∃ (hp : SlH), m29 = (rdNum (openSt b 3) 2).1 - k ∧ (k ≤ (rdNum (openSt b 3) 2).1) ∧ ((rdNum (openSt b 3) 2).1 ≤ 2) ∧ (pacc.length ≤ k) ∧ (rr.st = rq) ∧ (rdIds ((rdNum (openSt b 3) 2).1 - k) pacc rq = rdIds (rdNum (openSt b 3) 2).1 [] (rdNum (openSt b 3) 2).2) ∧ ∃ eb32, e30 = envL [(2, (.pointer (some ⟨b2, 0, none⟩))), (3, (.int .i64 0)), (4, (.pointer (some ⟨b7, 0, none⟩))), (5, (.pointer (some ⟨b17, 0, none⟩))), (9, (.int .i64 (((rdNum (openSt b 3) 2).1) : Int))), (10, (.int .i64 (k : Int)))] eb32 ∧ Ctx w nob w31 [rowR 45 32 idCh hp pacc, boxR b17 47 [[(slV hp pacc)], [(.int .i64 0)], [(.int .i64 0)], [(.slice none 0 0)], (idCells zeroId), [(.string ByteArray.empty)]], boxR b7 132 [[(slV rr.bh rr.b)], [(.bool rr.bad)]], boxR b2 47 [[(.slice none 0 0)], [(.int .i64 0)], [(.int .i64 0)], [(.slice none 0 0)], (idCells zeroId), [(.string ByteArray.empty)]]] [slI S9 encB 1 rr.bh rr.b, slI (Old w) encB 1 hb b]) _ ⟨0, [], r22, ((rdNum (openSt b 3) 2).2), nilH, rfl, (by omega), (rdNum_le _ (by decide)), (by simp), hr26, rfl, _, envL_self ⟨rfl, rfl, rfl, rfl, rfl, rfl, trivial⟩, H28⟩ ?_
 rintro m29 _ w31 ⟨k, pacc, rr, rq, hp, rfl, hk, hm, hal, hrr, hgo, eb32, rfl, H33⟩
 refine W_seq (W_reg ?_)
 refine O_v rfl (R_cmp (a := (k : Int)) (b := (((rdNum (openSt b 3) 2).1) : Int)) (r := (decide ((k : Int) < (((rdNum (openSt b 3) 2).1) : Int)))) rfl rfl rfl ?_)
 refine O_nil (Then_n (W_seq ?_))
 refine W_cond rfl (fun hc34 => ?_) (fun hc34 => ?_)
 ·have hc34 := (of_decide_eq_true hc34)
  refine W_skip (Then_n (W_seq (W_block ?_)))
  refine W_rgdM TryzMixed (fun c => c = b7) (fun i => if i == 3 then 1 else if i == 5 || i == 7 then 2 else 0) [(0, .q 2), (1, .q 1), (2, .q 2), (3, .c 1), (4, .c 0), (5, .c 2), (6, .q 2), (7, .c 2)] (by kernel_rfl) ?_
  refine Lx_q rfl rfl _ (fun v35 hv36 => R_fieldAddr (off := 0) (oo := 0) Tryz.underlying47 rfl rfl Tryz.sizeOf39 rfl rfl qk) (Lx_q rfl rfl _ (fun v37 hv38 => R_load1 (v := (slV hp pacc)) Tryz.isAgg39 rfl ((boxR_at (H33.ownGr 1 2 (by decide) rfl rfl hv38 (fun _ h => congrArg some h.symm))).chunks 0 1 0 0 _ rfl rfl rfl) qk) (Lx_mv (v := (.pointer (some ⟨b7, 0, none⟩))) rfl rfl rfl ?_))
  refine Lx_c rfl rfl (fun w41 hw42 => ?_)
  have H43 := H33.ext hw42
  refine (R_callL (vs := [(.pointer (some ⟨b7, 0, none⟩))]) cF63 rfl rfl ((Reader_Id b7 rr S9 rq w41 ((H43.pick (B' := [boxR b7 132 (rdCh rr)]) (I' := [slI S9 encB 1 rr.bh rr.b]) [2] (by decide) rfl (List.forall_mem_cons.2 ⟨List.mem_of_getElem? (i := 0) rfl, fun _ h => (nomatch h)⟩)).rdStart) hrr).ret ?_))
  rintro _ w45 ⟨r44, rfl, hg46, hQ47, hr48⟩
  have H49 := H43.rdUpd (r := rr) 2 0 rfl rfl hg46 hQ47
  refine ⟨hg46, ?_⟩
  refine Lx_c rfl rfl (fun w50 hw51 => ?_)
  have H52 := H49.ext hw51
  refine (C_buildSliceL H52 (enc := idCh) (val := idV) ([(rdId rq).1] : List ID) Tryz.underlying39 Tryz.sizeOf45 Tryz.zeroValue45 rfl (by decide) (fun _ => rfl) (fun _ => rfl) rfl rfl (by decide) ?_)
  intro b53 w54 hb55 hx56 H57
  refine ⟨GrF.ofExt hx56, ?_⟩
  refine Lx_c rfl rfl (fun w58 hw59 => ?_)
  have H60 := H57.ext hw59
  refine (C_append H60 1 rfl (bytes := 32) (l := pacc) (ys := ([(rdId rq).1] : List ID)) Tryz.underlying39 rfl rfl rfl rfl rfl (by decide) rfl rfl (OwnS.sl (H60.getOwn 0 rfl) (fun _ => rfl)) (fun _ => rfl) (fun _ => rfl) (by simp only [List.length_append, List.length_cons, List.length_nil]; omega) (by decide) ?_)
  intro h61 w62 hg63 H64
  refine ⟨Gr.mono (M' := fun _ => True) hg63 (fun _ _ => trivial), ?_⟩
  refine Lx_q rfl rfl _ (fun v65 hv66 => R_fieldAddr (off := 0) (oo := 0) Tryz.underlying47 rfl rfl Tryz.sizeOf39 rfl rfl qk) ?_
  refine Lx_cu rfl (fun w67 hw68 => ?_)
  have H69 := H64.ext hw68
  refine (C_store1 H69 2 rfl 0 (v := (slV h61 (pacc ++ ([(rdId rq).1] : List ID)))) [[(slV h61 (pacc ++ ([(rdId rq).1] : List ID)))], [(.int .i64 0)], [(.int .i64 0)], [(.slice none 0 0)], (idCells zeroId), [(.string ByteArray.empty)]] Tryz.sizeOf39 rfl rfl rfl rfl rfl rfl rfl ?_)
  intro w70 hg71 H72
  refine ⟨Gr.mono (M' := fun _ => True) hg71 (fun _ _ => trivial), ?_⟩
  refine Lx_nil (fun w73 hw74 => ?_)
  have H75 := H72.ext hw74
  refine Blk_n (Then_n (W_reg ?_))
  refine O_v rfl (R_arith (a := (k : Int)) (b := 1) (r0 := (k : Int) + 1) (r := ((k + 1 : Nat) : Int)) rfl rfl rfl (wrapN _ (by omega)) ?_)
  refine O_mv (v := (.int .i64 ((k + 1 : Nat) : Int))) rfl rfl ?_
  refine O_nil (Then_n ?_)
  have H76 := H75.sub (List.Sublist.cons _ (List.Sublist.cons_cons _ (List.Sublist.cons_cons _ (List.Sublist.cons_cons _ (List.Sublist.cons_cons _ List.Sublist.slnil))))) (List.forall_mem_cons.2 ⟨List.mem_of_getElem? (i := 0) rfl, List.forall_mem_cons.2 ⟨List.mem_of_getElem? (i := 1) rfl, memN⟩⟩)
  refine ⟨_, ?_, (k + 1), (pacc ++ ([(rdId rq).1] : List ID)), r44, ((rdId rq).2), h61, rfl, (by omega), hm, (by simp only [List.length_append, List.length_cons, List.length_nil]; omega), hr48, (ids_next hgo (by omega)), _, envL_self ⟨rfl, rfl, rfl, rfl, rfl, rfl, trivial⟩, H76⟩
  omega
 ·have hc34 := (of_decide_eq_false hc34)
  refine W_exit (Then_x (Then_x (Blk_x (Then_n (W_seq (W_reg ?_))))))
  refine O_mv (v := (.pointer (some ⟨b7, 0, none⟩))) rfl rfl ?_
  refine O_v rfl (R_callL (vs := [(.pointer (some ⟨b7, 0, none⟩)), (.int .i64 1099511627776)]) cF46 rfl rfl ((Reader_Num b7 rr S9 rq 1099511627776 w31 ((H33.pick (B' := [boxR b7 132 (rdCh rr)]) (I' := [slI S9 encB 1 rr.bh rr.b]) [2] (by decide) rfl (List.forall_mem_cons.2 ⟨List.mem_of_getElem? (i := 0) rfl, fun _ h => (nomatch h)⟩)).rdStart) hrr).ret ?_))
  rintro _ w78 ⟨r77, rfl, hg79, hQ80, hr81⟩
  have H82 := H33.rdUpd (r := rr) 2 0 rfl rfl hg79 hQ80
  refine O_v rfl (R_fieldAddr (off := 1) (oo := 1) Tryz.underlying47 rfl rfl Tryz.sizeOf2 rfl rfl ?_)
  refine O_u (C_store1 H82 1 rfl 1 (v := (.int .i64 (((rdNum rq 1099511627776).1) : Int))) [[(slV hp pacc)], [(.int .i64 (((rdNum rq 1099511627776).1) : Int))], [(.int .i64 0)], [(.slice none 0 0)], (idCells zeroId), [(.string ByteArray.empty)]] Tryz.sizeOf2 rfl rfl rfl rfl rfl rfl rfl ?_)
  intro w83 hg84 H85
  refine O_nil (Then_n (W_seq (W_reg ?_)))
  refine O_mv (v := (.pointer (some ⟨b7, 0, none⟩))) rfl rfl ?_
  refine O_v rfl (R_callL (vs := [(.pointer (some ⟨b7, 0, none⟩)), (.int .i64 65536)]) cF46 rfl rfl ((Reader_Num b7 r77 S9 ((rdNum rq 1099511627776).2) 65536 w83 ((H85.pick (B' := [boxR b7 132 (rdCh r77)]) (I' := [slI S9 encB 1 r77.bh r77.b]) [2] (by decide) rfl (List.forall_mem_cons.2 ⟨List.mem_of_getElem? (i := 0) rfl, fun _ h => (nomatch h)⟩)).rdStart) hr81).ret ?_))
  rintro _ w87 ⟨r86, rfl, hg88, hQ89, hr90⟩
  have H91 := H85.rdUpd (r := r77) 2 0 rfl rfl hg88 hQ89
  refine O_v rfl (R_fieldAddr (off := 2) (oo := 2) Tryz.underlying47 rfl rfl Tryz.sizeOf3 rfl rfl ?_)
  refine O_u (C_store1 H91 1 rfl 2 (v := (.int .i64 (((rdNum ((rdNum rq 1099511627776).2) 65536).1) : Int))) [[(slV hp pacc)], [(.int .i64 (((rdNum rq 1099511627776).1) : Int))], [(.int .i64 (((rdNum ((rdNum rq 1099511627776).2) 65536).1) : Int))], [(.slice none 0 0)], (idCells zeroId), [(.string ByteArray.empty)]] Tryz.sizeOf3 rfl rfl rfl rfl rfl rfl rfl ?_)
  intro w92 hg93 H94
  refine O_nil (Then_n (W_seq (W_seq (W_reg ?_))))
  refine O_mv (v := (.pointer (some ⟨b7, 0, none⟩))) rfl rfl ?_
  refine O_v rfl (R_callL (vs := [(.pointer (some ⟨b7, 0, none⟩)), (.int .i64 64)]) cF46 rfl rfl ((Reader_Num b7 r86 S9 ((rdNum ((rdNum rq 1099511627776).2) 65536).2) 64 w92 ((H94.pick (B' := [boxR b7 132 (rdCh r86)]) (I' := [slI S9 encB 1 r86.bh r86.b]) [2] (by decide) rfl (List.forall_mem_cons.2 ⟨List.mem_of_getElem? (i := 0) rfl, fun _ h => (nomatch h)⟩)).rdStart) hr90).ret ?_))
  rintro _ w96 ⟨r95, rfl, hg97, hQ98, hr99⟩
  have H100 := H94.rdUpd (r := r86) 2 0 rfl rfl hg97 hQ98
  refine O_mv (v := (.int .i64 0)) rfl rfl ?_
  refine O_nil (Then_n (W_block ?_))
  have H101 := H100.addNil 72 41 opCh
  have H102 := H101.deepNil stampCh 2 (fun x : OpS => x.oh) (fun x : OpS => x.over)
  refine W_loop (fun m103 e104 w105 => ∃ (j : Nat), ∃ (oacc : List OpS), ∃ (S : Nat → Prop), ∃ (rr2 : RdS), ∃ (rq2 : List UInt8 × Bool), ∃ (ho : SlH), m103 = (rdNum (rdNum (rdNum rq 1099511627776).2 65536).2 64).1 - j ∧ (j ≤ (rdNum (rdNum (rdNum rq 1099511627776).2 65536).2 64).1) ∧ ((rdNum (rdNum (rdNum rq 1099511627776).2 65536).2 64).1 ≤ 64) ∧ (oacc.length ≤ j) ∧ (∀ b, S b → w.heap.size ≤ b) ∧ (rr2.st = rq2) ∧ (rdOps ((rdNum (rdNum (rdNum rq 1099511627776).2 65536).2 64).1 - j) (oacc.map OpS.core) rq2 = rdOps (rdNum (rdNum (rdNum rq 1099511627776).2 65536).2 64).1 [] (rdNum (rdNum (rdNum rq 1099511627776).2 65536).2 64).2) ∧ ∃ eb106, e104 = envL [(2, (.pointer (some ⟨b2, 0, none⟩))), (3, (.int .i64 0)), (4, (.pointer (some ⟨b7, 0, none⟩))), (5, (.pointer (some ⟨b17, 0, none⟩))), (27, (.int .i64 (((rdNum ((rdNum ((rdNum rq 1099511627776).2) 65536).2) 64).1) : Int))), (28, (.int .i64 (j : Int)))] eb106 ∧ Ctx w nob w105 [rowR 72 41 opCh ho oacc, rowR 45 32 idCh hp pacc, boxR b17 47 [[(slV hp pacc)], [(.int .i64 (((rdNum rq 1099511627776).1) : Int))], [(.int .i64 (((rdNum ((rdNum rq 1099511627776).2) 65536).1) : Int))], [(slV ho oacc)], (idCells zeroId), [(.string ByteArray.empty)]], boxR b7 132 [[(slV rr2.bh rr2.b)], [(.bool rr2.bad)]], boxR b2 47 [[(.slice none 0 0)], [(.int .i64 0)], [(.int .i64 0)], [(.slice none 0 0)], (idCells zeroId), [(.string ByteArray.empty)]]] [deepI S stampCh 2 (fun x : OpS => x.oh) (fun x : OpS => x.over) oacc, slI S9 encB 1 rr2.bh rr2.b, slI (Old w) encB 1 hb b]) _ ⟨0, [], nob, r95, ((rdNum (rdNum (rdNum rq 1099511627776).2 65536).2 64).2), nilH, rfl, (by omega), (rdNum_le _ (by decide)), (by simp), (fun _ h => h.elim), hr99, rfl, _, envL_self ⟨rfl, rfl, rfl, rfl, rfl, rfl, trivial⟩, H102⟩ ?_
  rintro m103 _ w105 ⟨j, oacc, S, rr2, rq2, ho, rfl, hj, hm2, hal2, hS, hrr2, hgo2, eb106, rfl, H107⟩
  refine W_seq (W_reg ?_)
  refine O_v rfl (R_cmp (a := (j : Int)) (b := (((rdNum ((rdNum ((rdNum rq 1099511627776).2) 65536).2) 64).1) : Int)) (r := (decide ((j : Int) < (((rdNum ((rdNum ((rdNum rq 1099511627776).2) 65536).2) 64).1) : Int)))) rfl rfl rfl ?_)
  refine O_nil (Then_n (W_seq ?_))
  refine W_cond rfl (fun hc108 => ?_) (fun hc108 => ?_)
  ·have hc108 := (of_decide_eq_true hc108)
   refine W_skip (Then_n (W_seq (W_block ?_)))
   refine W_rgdM TryzMixed (fun c => c = b7) (fun i => if i == 3 then 1 else if i == 5 || i == 7 then 2 else 0) [(0, .q 2), (1, .q 1), (2, .q 2), (3, .c 1), (4, .c 0), (5, .c 2), (6, .q 2), (7, .c 2)] (by kernel_rfl) ?_
   refine Lx_q rfl rfl _ (fun v109 hv110 => R_fieldAddr (off := 3) (oo := 3) Tryz.underlying47 rfl rfl Tryz.sizeOf43 rfl rfl qk) (Lx_q rfl rfl _ (fun v111 hv112 => R_load1 (v := (slV ho oacc)) Tryz.isAgg43 rfl ((boxR_at (H107.ownGr 2 3 (by decide) rfl rfl hv112 (fun _ h => congrArg some h.symm))).chunks 3 1 3 3 _ rfl rfl rfl) qk) (Lx_mv (v := (.pointer (some ⟨b7, 0, none⟩))) rfl rfl rfl ?_))
   refine Lx_c rfl rfl (fun w115 hw116 => ?_)
   have H117 := H107.ext hw116
   refine (R_callL (vs := [(.pointer (some ⟨b7, 0, none⟩))]) cF64 rfl rfl ((stamp_Get b7 rr2 S9 rq2 w115 ((H117.pick (B' := [boxR b7 132 (rdCh rr2)]) (I' := [slI S9 encB 1 rr2.bh rr2.b]) [3] (by decide) rfl (List.forall_mem_cons.2 ⟨List.mem_of_getElem? (i := 1) rfl, fun _ h => (nomatch h)⟩)).rdStart) hrr2).ret ?_))
   rintro _ w119 ⟨r118, x124, rfl, hg120, hQ121, hr122, ho125, hx126⟩
   have H123 := H117.rdRow (r := rr2) 3 1 rfl rfl hg120 hQ121 ho125
   refine ⟨hg120, ?_⟩
   refine Lx_c rfl rfl (fun w127 hw128 => ?_)
   have H129 := H123.ext hw128
   refine (C_buildSliceL H129 (enc := opCh) (val := opV) ([x124] : List OpS) Tryz.underlying43 Tryz.sizeOf72 Tryz.zeroValue72 rfl (by decide) (fun _ => rfl) (fun _ => rfl) rfl rfl (by decide) ?_)
   intro b130 w131 hb132 hx133 H134
   refine ⟨GrF.ofExt hx133, ?_⟩
   refine Lx_c rfl rfl (fun w135 hw136 => ?_)
   have H137 := H134.ext hw136
   refine (C_append H137 2 rfl (bytes := 128) (l := oacc) (ys := ([x124] : List OpS)) Tryz.underlying43 rfl rfl rfl rfl rfl (by decide) rfl rfl (OwnS.sl (H137.getOwn 0 rfl) (fun _ => rfl)) (fun _ => rfl) (fun _ => rfl) (by simp only [List.length_append, List.length_cons, List.length_nil]; omega) (by decide) ?_)
   intro h138 w139 hg140 H141
   refine ⟨Gr.mono (M' := fun _ => True) hg140 (fun _ _ => trivial), ?_⟩
   refine Lx_q rfl rfl _ (fun v142 hv143 => R_fieldAddr (off := 3) (oo := 3) Tryz.underlying47 rfl rfl Tryz.sizeOf43 rfl rfl qk) ?_
   refine Lx_cu rfl (fun w144 hw145 => ?_)
   have H146 := H141.ext hw145
   refine (C_store1 H146 4 rfl 3 (v := (slV h138 (oacc ++ ([x124] : List OpS)))) [[(slV hp pacc)], [(.int .i64 (((rdNum rq 1099511627776).1) : Int))], [(.int .i64 (((rdNum ((rdNum rq 1099511627776).2) 65536).1) : Int))], [(slV h138 (oacc ++ ([x124] : List OpS)))], (idCells zeroId), [(.string ByteArray.empty)]] Tryz.sizeOf43 rfl rfl rfl rfl rfl rfl rfl ?_)
   intro w147 hg148 H149
   refine ⟨Gr.mono (M' := fun _ => True) hg148 (fun _ _ => trivial), ?_⟩
   refine Lx_nil (fun w150 hw151 => ?_)
   have H152 := H149.ext hw151
   refine Blk_n (Then_n (W_reg ?_))
   refine O_v rfl (R_arith (a := (j : Int)) (b := 1) (r0 := (j : Int) + 1) (r := ((j + 1 : Nat) : Int)) rfl rfl rfl (wrapN _ (by omega)) ?_)
   refine O_mv (v := (.int .i64 ((j + 1 : Nat) : Int))) rfl rfl ?_
   refine O_nil (Then_n ?_)
   have H153 := H152.freeze 1 rfl (fun _ => rfl)
   have H154 := H153.deepSnoc 1 rfl 0 rfl (x124) rfl rfl
   have H155 := H154.sub (List.Sublist.cons _ (List.Sublist.cons_cons _ (List.Sublist.cons_cons _ (List.Sublist.cons_cons _ (List.Sublist.cons_cons _ (List.Sublist.cons_cons _ List.Sublist.slnil)))))) (List.forall_mem_cons.2 ⟨List.mem_of_getElem? (i := 0) rfl, List.forall_mem_cons.2 ⟨List.mem_of_getElem? (i := 3) rfl, List.forall_mem_cons.2 ⟨List.mem_of_getElem? (i := 4) rfl, memN⟩⟩⟩)
   refine ⟨_, ?_, (j + 1), (oacc ++ ([x124] : List OpS)), (fun b => S b ∨ (fun z_ => (slV x124.oh x124.over).ownBlock = some z_) b), r118, ((rdOp rq2).2), h138, rfl, (by omega), hm2, (by simp only [List.length_append, List.length_cons, List.length_nil]; omega), (fun b hb => hb.elim (hS b) (H152.newRow 1 rfl b)), hr122, (ops_next hgo2 (by omega) hx126), _, envL_self ⟨rfl, rfl, rfl, rfl, rfl, rfl, trivial⟩, H155⟩
   omega
  ·have hc108 := (of_decide_eq_false hc108)
   refine W_exit (Then_x (Then_x (Blk_x (Then_n (W_seq (W_reg ?_))))))
   refine O_mv (v := (.pointer (some ⟨b7, 0, none⟩))) rfl rfl ?_
   refine O_v rfl (R_callL (vs := [(.pointer (some ⟨b7, 0, none⟩))]) cF63 rfl rfl ((Reader_Id b7 rr2 S9 rq2 w105 ((H107.pick (B' := [boxR b7 132 (rdCh rr2)]) (I' := [slI S9 encB 1 rr2.bh rr2.b]) [3] (by decide) rfl (List.forall_mem_cons.2 ⟨List.mem_of_getElem? (i := 1) rfl, fun _ h => (nomatch h)⟩)).rdStart) hrr2).ret ?_))
   rintro _ w157 ⟨r156, rfl, hg158, hQ159, hr160⟩
   have H161 := H107.rdUpd (r := rr2) 3 1 rfl rfl hg158 hQ159
   refine O_v rfl (R_fieldAddr (off := 4) (oo := 4) Tryz.underlying47 rfl rfl Tryz.sizeOf45 rfl rfl ?_)
   refine O_u (C_storeA H161 2 rfl 4 (sub := [(idCells ((rdId rq2).1))]) [[(slV hp pacc)], [(.int .i64 (((rdNum rq 1099511627776).1) : Int))], [(.int .i64 (((rdNum ((rdNum rq 1099511627776).2) 65536).1) : Int))], [(slV ho oacc)], (idCells ((rdId rq2).1)), [(.string ByteArray.empty)]] Tryz.sizeOf45 rfl rfl rfl rfl ⟨[(idCells zeroId)], [[(.string ByteArray.empty)]], rfl, rfl, rfl⟩ rfl ?_)
   intro w162 hg163 H164
   refine O_nil (Then_n (W_seq (W_reg ?_)))
   refine O_mv (v := (.pointer (some ⟨b7, 0, none⟩))) rfl rfl ?_
   refine O_v rfl (R_callL (vs := [(.pointer (some ⟨b7, 0, none⟩)), (.int .i64 200)]) cF65 rfl rfl ((Reader_Text b7 r156 S9 ((rdId rq2).2) 200 w162 ((H164.pick (B' := [boxR b7 132 (rdCh r156)]) (I' := [slI S9 encB 1 r156.bh r156.b]) [3] (by decide) rfl (List.forall_mem_cons.2 ⟨List.mem_of_getElem? (i := 1) rfl, fun _ h => (nomatch h)⟩)).rdStart) hr160).ret ?_))
   rintro _ w166 ⟨r165, rfl, hg167, hQ168, hr169⟩
   have H170 := H164.rdUpd (r := r156) 3 1 rfl rfl hg167 hQ168
   refine O_v rfl (R_fieldAddr (off := 36) (oo := 36) Tryz.underlying47 rfl rfl Tryz.sizeOf9 rfl rfl ?_)
   refine O_u (C_store1 H170 2 rfl 5 (v := (.string ((rdText ((rdId rq2).2) 200).1))) [[(slV hp pacc)], [(.int .i64 (((rdNum rq 1099511627776).1) : Int))], [(.int .i64 (((rdNum ((rdNum rq 1099511627776).2) 65536).1) : Int))], [(slV ho oacc)], (idCells ((rdId rq2).1)), [(.string ((rdText ((rdId rq2).2) 200).1))]] Tryz.sizeOf9 rfl rfl rfl rfl rfl rfl rfl ?_)
   intro w171 hg172 H173
   refine O_nil (Then_n (W_seq (W_seq ?_)))
   refine W_rgM (fun c => c = b7) (fun i => if i == 1 then 1 else 0) [(0, .q 2), (1, .c 1), (2, .q 2), (3, .q 2), (4, .q 1), (5, .q 0), (6, .q 2), (7, .q 2)] (by kernel_rfl) ?_
   refine Lx_mv (v := (.pointer (some ⟨b7, 0, none⟩))) rfl rfl rfl ?_
   refine Lx_c rfl rfl (fun w176 hw177 => ?_)
   have H178 := H173.ext hw177
   refine (R_callL (vs := [(.pointer (some ⟨b7, 0, none⟩))]) cF49 rfl rfl ((Reader_Done b7 r165 S9 ((rdText ((rdId rq2).2) 200).2) w176 ((H178.pick (B' := [boxR b7 132 (rdCh r165)]) (I' := [slI S9 encB 1 r165.bh r165.b]) [3] (by decide) rfl (List.forall_mem_cons.2 ⟨List.mem_of_getElem? (i := 1) rfl, fun _ h => (nomatch h)⟩)).rdStart) hr169).ret ?_))
   rintro _ w180 ⟨r179, rfl, hg181, hQ182, hr183⟩
   have H184 := H178.rdUpd (r := r165) 3 1 rfl rfl hg181 hQ182
   refine ⟨hg181, ?_⟩
   refine Lx_q rfl rfl _ (fun v185 hv186 => R_not rfl qk) (Lx_mv (v := (.bool (!(rdDone ((rdText ((rdId rq2).2) 200).2))))) rfl rfl rfl (Lx_qf rfl rfl rfl rfl rfl _ (fun hA v189 hv190 => R_loadA (cs := [[(slV hp pacc)], [(.int .i64 (((rdNum rq 1099511627776).1) : Int))], [(.int .i64 (((rdNum ((rdNum rq 1099511627776).2) 65536).1) : Int))], [(slV ho oacc)], (idCells ((rdId rq2).1)), [(.string ((rdText ((rdId rq2).2) 200).1))]]) Tryz.isAgg47 Tryz.sizeOf47 rfl rfl ((boxR_at (H184.ownGr 2 3 (by decide) rfl rfl hv190 (fun _ h => congrArg some h.symm))).chunks 0 6 0 0 _ rfl rfl rfl) qk) (Lx_qf rfl rfl rfl rfl rfl (.bool (changeOk ({ parents := pacc, ph := hp, time := (((rdNum rq 1099511627776).1) : Int), r := (((rdNum ((rdNum rq 1099511627776).2) 65536).1) : Int), ops := oacc, oh := ho, tree := (rdId rq2).1, msg := (rdText ((rdId rq2).2) 200).1 } : ChangeS))) (fun hA v191 hv192 => R_callL (vs := [(aggOf [[(slV hp pacc)], [(.int .i64 (((rdNum rq 1099511627776).1) : Int))], [(.int .i64 (((rdNum ((rdNum rq 1099511627776).2) 65536).1) : Int))], [(slV ho oacc)], (idCells ((rdId rq2).1)), [(.string ((rdText ((rdId rq2).2) 200).1))]])]) cF58 rfl (lst1 (gv_t hA)) (obj_rightChange ({ parents := pacc, ph := hp, time := (((rdNum rq 1099511627776).1) : Int), r := (((rdNum ((rdNum rq 1099511627776).2) 65536).1) : Int), ops := oacc, oh := ho, tree := (rdId rq2).1, msg := (rdText ((rdId rq2).2) 200).1 } : ChangeS) v191 ((H184.ext hv192).rowSl 1 rfl (fun _ => rfl)) ((H184.ext hv192).rowSl 0 rfl (fun _ => rfl)) ((H184.ext hv192).deepOld 0 rfl))) ?_)))
   refine Lx_qf rfl rfl rfl rfl rfl _ (fun hA v193 hv194 => R_not (gv_t hA) qk) (Lx_q rfl rfl _ (fun v195 hv196 => R_pick rfl pk_or qk) ?_)
   refine Lx_nil (fun w197 hw198 => ?_)
   have H199 := H184.ext hw198
   refine Then_n ?_
   refine W_cond rfl (fun hc200 => ?_) (fun hc200 => ?_)
   ·have hc200 : ((rdDone ((rdText ((rdId rq2).2) 200).2)) = false ∨ (changeOk ({ parents := pacc, ph := hp, time := (((rdNum rq 1099511627776).1) : Int), r := (((rdNum ((rdNum rq 1099511627776).2) 65536).1) : Int), ops := oacc, oh := ho, tree := (rdId rq2).1, msg := (rdText ((rdId rq2).2) 200).1 } : ChangeS)) = false) := (Or.imp (fun h => (notT h)) (fun h => (notT h)) (orT hc200))
    refine W_seq (W_reg ?_)
    refine O_v rfl (R_buildL (vs := []) (v := aggOf [[(.slice none 0 0)], [(.int .i64 0)], [(.int .i64 0)], [(.slice none 0 0)], (idCells zeroId), [(.string ByteArray.empty)]]) rfl (fun _ => by kernel_rfl) ?_)
    refine O_u (C_storeW H199 4 rfl (sub := [[(.slice none 0 0)], [(.int .i64 0)], [(.int .i64 0)], [(.slice none 0 0)], (idCells zeroId), [(.string ByteArray.empty)]]) Tryz.sizeOf47 rfl rfl rfl rfl rfl ?_)
    intro w201 hg202 H203
    refine O_as (v := (.int .i64 20)) rfl rfl ?_
    refine O_nil (Then_n (W_ret (Then_r ?_)))
    refine ret_ct (v := (.int .i64 20)) Tryz.results25 (inMem (cs := [[(.slice none 0 0)], [(.int .i64 0)], [(.int .i64 0)], [(.slice none 0 0)], (idCells zeroId), [(.string ByteArray.empty)]]) rfl Tryz.isAgg47 Tryz.sizeOf47 rfl (boxR_at (H203.getOwn 4 rfl))) rfl ?_
    exact ⟨({ parents := [], ph := nilH, time := 0, r := 0, ops := [], oh := nilH, tree := zeroId, msg := ByteArray.empty } : ChangeS), (fun z_ => nob z_ ∨ nob z_ ∨ nob z_), 20, rfl, H203.gr, fun b hb => ⟨(hb.elim ((fun h => h.elim)) (fun h => h.elim ((fun h => h.elim)) ((fun h => h.elim)))), (hb.elim ((fun h => h.elim)) (fun h => h.elim ((fun h => h.elim)) ((fun h => h.elim))))⟩, (Sl.nil _ _ _ _), (Sl.nil _ _ _ _), (fun _ h => (nomatch h)), (change_no hc200 (change_rd (ids_end hgo (by omega)) (ops_end hgo2 (by omega))))⟩
   ·have hc200 : ((rdDone ((rdText ((rdId rq2).2) 200).2)) = true ∧ (changeOk ({ parents := pacc, ph := hp, time := (((rdNum rq 1099511627776).1) : Int), r := (((rdNum ((rdNum rq 1099511627776).2) 65536).1) : Int), ops := oacc, oh := ho, tree := (rdId rq2).1, msg := (rdText ((rdId rq2).2) 200).1 } : ChangeS)) = true) := (And.imp (fun h => (notF h)) (fun h => (notF h)) (orF hc200))
    refine W_skip (Then_n (W_seq (W_reg ?_)))
    refine O_v rfl (R_loadA (cs := [[(slV hp pacc)], [(.int .i64 (((rdNum rq 1099511627776).1) : Int))], [(.int .i64 (((rdNum ((rdNum rq 1099511627776).2) 65536).1) : Int))], [(slV ho oacc)], (idCells ((rdId rq2).1)), [(.string ((rdText ((rdId rq2).2) 200).1))]]) Tryz.isAgg47 Tryz.sizeOf47 rfl rfl (H199.bx 2 rfl 0 6 0 0 _ rfl rfl rfl) ?_)
    refine O_u (C_storeW H199 4 rfl (sub := [[(slV hp pacc)], [(.int .i64 (((rdNum rq 1099511627776).1) : Int))], [(.int .i64 (((rdNum ((rdNum rq 1099511627776).2) 65536).1) : Int))], [(slV ho oacc)], (idCells ((rdId rq2).1)), [(.string ((rdText ((rdId rq2).2) 200).1))]]) Tryz.sizeOf47 rfl rfl rfl rfl rfl ?_)
    intro w204 hg205 H206
    refine O_as (v := (.int .i64 0)) rfl rfl ?_
    refine O_nil (Then_n (W_ret ?_))
    refine ret_ct (v := (.int .i64 0)) Tryz.results25 (inMem (cs := [[(slV hp pacc)], [(.int .i64 (((rdNum rq 1099511627776).1) : Int))], [(.int .i64 (((rdNum ((rdNum rq 1099511627776).2) 65536).1) : Int))], [(slV ho oacc)], (idCells ((rdId rq2).1)), [(.string ((rdText ((rdId rq2).2) 200).1))]]) rfl Tryz.isAgg47 Tryz.sizeOf47 rfl (boxR_at (H206.getOwn 4 rfl))) rfl ?_
    have hn207 := H206.newRow 1 rfl
    have H208 := H206.freeze 1 rfl (fun _ => rfl)
    have hn209 := H208.newRow 0 rfl
    have H210 := H208.freeze 0 rfl (fun _ => rfl)
    exact ⟨({ parents := pacc, ph := hp, time := (((rdNum rq 1099511627776).1) : Int), r := (((rdNum ((rdNum rq 1099511627776).2) 65536).1) : Int), ops := oacc, oh := ho, tree := (rdId rq2).1, msg := (rdText ((rdId rq2).2) 200).1 } : ChangeS), (fun z_ => (fun z_ => (slV hp pacc).ownBlock = some z_) z_ ∨ (fun z_ => (slV ho oacc).ownBlock = some z_) z_ ∨ S z_), 0, rfl, H210.gr, fun b hb => ⟨(hb.elim (hn207 b) (fun h => h.elim (hn209 b) (hS b))), (hb.elim ((H210.imm _ (List.mem_of_getElem? (i := 1) rfl)).2 b) (fun h => h.elim ((H210.imm _ (List.mem_of_getElem? (i := 0) rfl)).2 b) ((H210.imm _ (List.mem_of_getElem? (i := 2) rfl)).2 b)))⟩, ((H210.sl 1 rfl).mono (fun _ h => .inl h)), ((H210.sl 0 rfl).mono (fun _ h => .inr (.inl h))), (fun o ho => ((H210.getImm 2 rfl) o ho).mono (fun _ h => .inr (.inr h))), (change_yes hc200 (change_rd (ids_end hgo (by omega)) (ops_end hgo2 (by omega))))⟩
end Go.Proofs.YthjdhfoeckfmbaaGreat
namespace Go.Proofs.YthjdhfoeckfmbaaGreat
open Go
set_option maxRecDepth 100000
set_option linter.unusedVariables false
set_option linter.unusedSimpArgs false
set_option linter.unusedSectionVars false
variable [DD]
set_option maxHeartbeats 1000000 in
theorem obj_getAt (br : Nat) (r : RdS) (Sr : Nat → Prop) (q : List UInt8 × Bool) (w : World) (Qr : RdQ 132 br Sr r w) (Er : r.st = q) :
    Calls Tryz.prog 89 #[(.pointer (some ⟨br, 0, none⟩))] w (Ret fun v w' => ∃ (r' : RdS), v = (aggOf (stampCh ((rdAt q).1))) ∧ Gr (fun c => c = br) w w' ∧ RdQ 132 br Sr r' w' ∧ r'.st = (rdAt q).2) := by
 refine calls_W Tryz.func89 rfl Tryz.ntmps89 rfl ?_
 have H0 := Qr
 refine W_seq (W_reg ?_)
 refine O_v rfl (C_alloc H0 [[(.int .i64 0)], [(.int .i64 0)]] Tryz.zeroValue69 ?_)
 intro b1 w2 hb3 hx4 H5
 refine O_nil (Then_n (W_seq (W_reg ?_)))
 refine O_mv (v := (.pointer (some ⟨br, 0, none⟩))) rfl rfl ?_
 refine O_v rfl (R_callL (vs := [(.pointer (some ⟨br, 0, none⟩)), (.int .i64 1099511627776)]) cF46 rfl rfl ((Reader_Num br r Sr q 1099511627776 w2 ((H5.pick (B' := [boxR br 132 (rdCh r)]) (I' := [slI Sr encB 1 r.bh r.b]) [1] (by decide) rfl (List.forall_mem_cons.2 ⟨List.mem_of_getElem? (i := 0) rfl, fun _ h => (nomatch h)⟩)).rdStart) Er).ret ?_))
 rintro _ w7 ⟨r6, rfl, hg8, hQ9, hr10⟩
 have H11 := H5.rdUpd (r := r) 1 0 rfl rfl hg8 hQ9
 refine O_as (v := (.int .i64 (((rdNum q 1099511627776).1) : Int))) rfl rfl ?_
 refine O_nil (Then_n (W_seq (W_reg ?_)))
 refine O_mv (v := (.int .i64 (((rdNum q 1099511627776).1) : Int))) rfl rfl (O_mv (v := (.pointer (some ⟨br, 0, none⟩))) rfl rfl ?_)
 refine O_v rfl (R_callL (vs := [(.pointer (some ⟨br, 0, none⟩)), (.int .i64 65536)]) cF46 rfl rfl ((Reader_Num br r6 Sr ((rdNum q 1099511627776).2) 65536 w7 ((H11.pick (B' := [boxR br 132 (rdCh r6)]) (I' := [slI Sr encB 1 r6.bh r6.b]) [1] (by decide) rfl (List.forall_mem_cons.2 ⟨List.mem_of_getElem? (i := 0) rfl, fun _ h => (nomatch h)⟩)).rdStart) hr10).ret ?_))
 rintro _ w13 ⟨r12, rfl, hg14, hQ15, hr16⟩
 have H17 := H11.rdUpd (r := r6) 1 0 rfl rfl hg14 hQ15
 refine O_v rfl (R_buildL (vs := [(0, (.int .i64 (((rdNum q 1099511627776).1) : Int))), (1, (.int .i64 (((rdNum ((rdNum q 1099511627776).2) 65536).1) : Int)))]) (v := aggOf [[(.int .i64 (((rdNum q 1099511627776).1) : Int))], [(.int .i64 (((rdNum ((rdNum q 1099511627776).2) 65536).1) : Int))]]) rfl (fun _ => by kernel_rfl) ?_)
 refine O_u (C_storeW H17 0 rfl (sub := [[(.int .i64 (((rdNum q 1099511627776).1) : Int))], [(.int .i64 (((rdNum ((rdNum q 1099511627776).2) 65536).1) : Int))]]) Tryz.sizeOf69 rfl rfl rfl rfl rfl ?_)
 intro w18 hg19 H20
 refine O_nil (Then_n (W_ret ?_))
 refine ret_c Tryz.results89 (inMem (cs := [[(.int .i64 (((rdNum q 1099511627776).1) : Int))], [(.int .i64 (((rdNum ((rdNum q 1099511627776).2) 65536).1) : Int))]]) rfl Tryz.isAgg69 Tryz.sizeOf69 rfl (boxR_at (H20.getOwn 0 rfl))) ?_
 have HQ := ((H20.pick (B' := [boxR br 132 (rdCh r12)]) (I' := [slI Sr encB 1 r12.bh r12.b]) [1] (by decide) rfl (List.forall_mem_cons.2 ⟨List.mem_of_getElem? (i := 0) rfl, fun _ h => (nomatch h)⟩)).rdStart)
 exact ⟨r12, rfl, H20.gr, HQ, (hr16)⟩
theorem cF89 : callable Tryz.prog 89 = true := by kernel_rfl
set_option maxHeartbeats 2000000 in
theorem obj_getItem (br : Nat) (r : RdS) (Sr : Nat → Prop) (q : List UInt8 × Bool) (w : World) (Qr : RdQ 132 br Sr r w) (Er : r.st = q) :
    Calls Tryz.prog 47 #[(.pointer (some ⟨br, 0, none⟩))] w (Ret fun v w' => ∃ (r' : RdS) (X : ItemS), v = itemV X ∧ Gr (fun c => c = br) w w' ∧ RdQ 132 br Sr r' w' ∧ r'.st = (rdItem q).2 ∧ OwnS w.heap.size 84 34 headCh X.hh X.heads w' ∧ (X.core = (rdItem q).1)) := by
 refine calls_W Tryz.func47 rfl Tryz.ntmps47 rfl ?_
 have H0 := Qr
 refine W_seq (W_reg ?_)
 refine O_v rfl (C_alloc H0 [[(.int .i64 0)], [(.int .i64 0)], [(.int .i64 0)], [(.int .i64 0)], [(.string ByteArray.empty)], (idCells zeroId), [(.slice none 0 0)]] Tryz.zeroValue77 ?_)
 intro b1 w2 hb3 hx4 H5
 refine O_nil (Then_n (W_seq (W_reg ?_)))
 refine O_mv (v := (.pointer (some ⟨br, 0, none⟩))) rfl rfl ?_
 refine O_v rfl (R_callL (vs := [(.pointer (some ⟨br, 0, none⟩))]) cF89 rfl rfl ((obj_getAt br r Sr q w2 ((H5.pick (B' := [boxR br 132 (rdCh r)]) (I' := [slI Sr encB 1 r.bh r.b]) [1] (by decide) rfl (List.forall_mem_cons.2 ⟨List.mem_of_getElem? (i := 0) rfl, fun _ h => (nomatch h)⟩)).rdStart) Er).ret ?_))
 rintro _ w7 ⟨r6, rfl, hg8, hQ9, hr10⟩
 have H11 := H5.rdUpd (r := r) 1 0 rfl rfl hg8 hQ9
 refine O_v rfl (R_buildL (vs := [(0, (aggOf (stampCh ((rdAt q).1))))]) (v := aggOf [[(.int .i64 (((rdAt q).1).T))], [(.int .i64 (((rdAt q).1).R))], [(.int .i64 0)], [(.int .i64 0)], [(.string ByteArray.empty)], (idCells zeroId), [(.slice none 0 0)]]) rfl (fun _ => by kernel_rfl) ?_)
 refine O_v rfl (C_alloc H11 [[(.int .i64 0)], [(.int .i64 0)], [(.int .i64 0)], [(.int .i64 0)], [(.string ByteArray.empty)], (idCells zeroId), [(.slice none 0 0)]] Tryz.zeroValue77 ?_)
 intro b12 w13 hb14 hx15 H16
 refine O_u (C_storeW H16 0 rfl (sub := [[(.int .i64 (((rdAt q).1).T))], [(.int .i64 (((rdAt q).1).R))], [(.int .i64 0)], [(.int .i64 0)], [(.string ByteArray.empty)], (idCells zeroId), [(.slice none 0 0)]]) Tryz.sizeOf77 rfl rfl rfl rfl rfl ?_)
 intro w17 hg18 H19
 refine O_nil (Then_n (W_seq (W_reg ?_)))
 refine O_mv (v := (.pointer (some ⟨br, 0, none⟩))) rfl rfl ?_
 refine O_v rfl (R_callL (vs := [(.pointer (some ⟨br, 0, none⟩))]) cF89 rfl rfl ((obj_getAt br r6 Sr ((rdAt q).2) w17 ((H19.pick (B' := [boxR br 132 (rdCh r6)]) (I' := [slI Sr encB 1 r6.bh r6.b]) [2] (by decide) rfl (List.forall_mem_cons.2 ⟨List.mem_of_getElem? (i := 0) rfl, fun _ h => (nomatch h)⟩)).rdStart) hr10).ret ?_))
 rintro _ w21 ⟨r20, rfl, hg22, hQ23, hr24⟩
 have H25 := H19.rdUpd (r := r6) 2 0 rfl rfl hg22 hQ23
 refine O_v rfl (R_fieldAddr (off := 2) (oo := 2) Tryz.underlying77 rfl rfl Tryz.sizeOf69 rfl rfl ?_)
 refine O_u (C_storeA H25 0 rfl 2 (sub := [[(.int .i64 (((rdAt ((rdAt q).2)).1).T))], [(.int .i64 (((rdAt ((rdAt q).2)).1).R))]]) [[(.int .i64 (((rdAt q).1).T))], [(.int .i64 (((rdAt q).1).R))], [(.int .i64 (((rdAt ((rdAt q).2)).1).T))], [(.int .i64 (((rdAt ((rdAt q).2)).1).R))], [(.string ByteArray.empty)], (idCells zeroId), [(.slice none 0 0)]] Tryz.sizeOf69 rfl rfl rfl rfl ⟨[[(.int .i64 0)], [(.int .i64 0)]], [[(.string ByteArray.empty)], (idCells zeroId), [(.slice none 0 0)]], rfl, rfl, rfl⟩ rfl ?_)
 intro w26 hg27 H28
 refine O_nil (Then_n (W_seq (W_reg ?_)))
 refine O_mv (v := (.pointer (some ⟨br, 0, none⟩))) rfl rfl ?_
 refine O_v rfl (R_callL (vs := [(.pointer (some ⟨br, 0, none⟩)), (.int .i64 60)]) cF65 rfl rfl ((Reader_Text br r20 Sr ((rdAt ((rdAt q).2)).2) 60 w26 ((H28.pick (B' := [boxR br 132 (rdCh r20)]) (I' := [slI Sr encB 1 r20.bh r20.b]) [2] (by decide) rfl (List.forall_mem_cons.2 ⟨List.mem_of_getElem? (i := 0) rfl, fun _ h => (nomatch h)⟩)).rdStart) hr24).ret ?_))
 rintro _ w30 ⟨r29, rfl, hg31, hQ32, hr33⟩
 have H34 := H28.rdUpd (r := r20) 2 0 rfl rfl hg31 hQ32
 refine O_v rfl (R_fieldAddr (off := 4) (oo := 4) Tryz.underlying77 rfl rfl Tryz.sizeOf9 rfl rfl ?_)
 refine O_u (C_store1 H34 0 rfl 4 (v := (.string ((rdText ((rdAt ((rdAt q).2)).2) 60).1))) [[(.int .i64 (((rdAt q).1).T))], [(.int .i64 (((rdAt q).1).R))], [(.int .i64 (((rdAt ((rdAt q).2)).1).T))], [(.int .i64 (((rdAt ((rdAt q).2)).1).R))], [(.string ((rdText ((rdAt ((rdAt q).2)).2) 60).1))], (idCells zeroId), [(.slice none 0 0)]] Tryz.sizeOf9 rfl rfl rfl rfl rfl rfl rfl ?_)
 intro w35 hg36 H37
 refine O_nil (Then_n (W_seq (W_reg ?_)))
 refine O_mv (v := (.pointer (some ⟨br, 0, none⟩))) rfl rfl ?_
 refine O_v rfl (R_callL (vs := [(.pointer (some ⟨br, 0, none⟩))]) cF63 rfl rfl ((Reader_Id br r29 Sr ((rdText ((rdAt ((rdAt q).2)).2) 60).2) w35 ((H37.pick (B' := [boxR br 132 (rdCh r29)]) (I' := [slI Sr encB 1 r29.bh r29.b]) [2] (by decide) rfl (List.forall_mem_cons.2 ⟨List.mem_of_getElem? (i := 0) rfl, fun _ h => (nomatch h)⟩)).rdStart) hr33).ret ?_))
 rintro _ w39 ⟨r38, rfl, hg40, hQ41, hr42⟩
 have H43 := H37.rdUpd (r := r29) 2 0 rfl rfl hg40 hQ41
 refine O_v rfl (R_fieldAddr (off := 5) (oo := 5) Tryz.underlying77 rfl rfl Tryz.sizeOf45 rfl rfl ?_)
 refine O_u (C_storeA H43 0 rfl 5 (sub := [(idCells ((rdId ((rdText ((rdAt ((rdAt q).2)).2) 60).2)).1))]) [[(.int .i64 (((rdAt q).1).T))], [(.int .i64 (((rdAt q).1).R))], [(.int .i64 (((rdAt ((rdAt q).2)).1).T))], [(.int .i64 (((rdAt ((rdAt q).2)).1).R))], [(.string ((rdText ((rdAt ((rdAt q).2)).2) 60).1))], (idCells ((rdId ((rdText ((rdAt ((rdAt q).2)).2) 60).2)).1)), [(.slice none 0 0)]] Tryz.sizeOf45 rfl rfl rfl rfl ⟨[(idCells zeroId)], [[(.slice none 0 0)]], rfl, rfl, rfl⟩ rfl ?_)
 intro w44 hg45 H46
 refine O_nil (Then_n (W_seq (W_seq (W_reg ?_))))
 refine O_mv (v := (.pointer (some ⟨br, 0, none⟩))) rfl rfl ?_
 refine O_v rfl (R_callL (vs := [(.pointer (some ⟨br, 0, none⟩)), (.int .i64 1000)]) cF46 rfl rfl ((Reader_Num br r38 Sr ((rdId ((rdText ((rdAt ((rdAt q).2)).2) 60).2)).2) 1000 w44 ((H46.pick (B' := [boxR br 132 (rdCh r38)]) (I' := [slI Sr encB 1 r38.bh r38.b]) [2] (by decide) rfl (List.forall_mem_cons.2 ⟨List.mem_of_getElem? (i := 0) rfl, fun _ h => (nomatch h)⟩)).rdStart) hr42).ret ?_))
 rintro _ w48 ⟨r47, rfl, hg49, hQ50, hr51⟩
 have H52 := H46.rdUpd (r := r38) 2 0 rfl rfl hg49 hQ50
 refine O_mv (v := (.int .i64 0)) rfl rfl ?_
 refine O_nil (Then_n (W_block ?_))
 have H53 := H52.addNil 84 34 headCh
 refine W_loop (fun m54 e55 w56 => ∃ (k : Nat), ∃ (acc : List Head), ∃ (rr : RdS), ∃ (rq : List UInt8 × Bool), ∃ (ho : SlH), m54 = (rdNum (rdId (rdText (rdAt (rdAt q).2).2 60).2).2 1000).1 - k ∧ (k ≤ (rdNum (rdId (rdText (rdAt (rdAt q).2).2 60).2).2 1000).1) ∧ ((rdNum (rdId (rdText (rdAt (rdAt q).2).2 60).2).2 1000).1 ≤ 1000) ∧ (acc.length ≤ k) ∧ (rr.st = rq) ∧ (rdHeads ((rdNum (rdId (rdText (rdAt (rdAt q).2).2 60).2).2 1000).1 - k) acc rq = rdHeads (rdNum (rdId (rdText (rdAt (rdAt q).2).2 60).2).2 1000).1 [] (rdNum (rdId (rdText (rdAt (rdAt q).2).2 60).2).2 1000).2) ∧ ∃ eb57, e55 = envL [(0, (.pointer (some ⟨br, 0, none⟩))), (2, (.pointer (some ⟨b1, 0, none⟩))), (3, (.pointer (some ⟨b12, 0, none⟩))), (18, (.int .i64 (((rdNum ((rdId ((rdText ((rdAt ((rdAt q).2)).2) 60).2)).2) 1000).1) : Int))), (19, (.int .i64 (k : Int)))] eb57 ∧ Ctx w (fun c => c = br) w56 [rowR 84 34 headCh ho acc, boxR b12 77 [[(.int .i64 (((rdAt q).1).T))], [(.int .i64 (((rdAt q).1).R))], [(.int .i64 (((rdAt ((rdAt q).2)).1).T))], [(.int .i64 (((rdAt ((rdAt q).2)).1).R))], [(.string ((rdText ((rdAt ((rdAt q).2)).2) 60).1))], (idCells ((rdId ((rdText ((rdAt ((rdAt q).2)).2) 60).2)).1)), [(slV ho acc)]], boxR b1 77 [[(.int .i64 0)], [(.int .i64 0)], [(.int .i64 0)], [(.int .i64 0)], [(.string ByteArray.empty)], (idCells zeroId), [(.slice none 0 0)]], boxR br 132 [[(slV rr.bh rr.b)], [(.bool rr.bad)]]] [slI Sr encB 1 rr.bh rr.b]) _ ⟨0, [], r47, ((rdNum (rdId (rdText (rdAt (rdAt q).2).2 60).2).2 1000).2), nilH, rfl, (by omega), (rdNum_le _ (by decide)), (by simp), hr51, rfl, _, envL_self ⟨rfl, rfl, rfl, rfl, rfl, trivial⟩, H53⟩ ?_
 rintro m54 _ w56 ⟨k, acc, rr, rq, ho, rfl, hk, hm, hal, hrr, hgo, eb57, rfl, H58⟩
 refine W_seq (W_reg ?_)
 refine O_v rfl (R_cmp (a := (k : Int)) (b := (((rdNum ((rdId ((rdText ((rdAt ((rdAt q).2)).2) 60).2)).2) 1000).1) : Int)) (r := (decide ((k : Int) < (((rdNum ((rdId ((rdText ((rdAt ((rdAt q).2)).2) 60).2)).2) 1000).1) : Int)))) rfl rfl rfl ?_)
 refine O_nil (Then_n (W_seq ?_))
 refine W_cond rfl (fun hc59 => ?_) (fun hc59 => ?_)
 ·have hc59 := (of_decide_eq_true hc59)
  refine W_skip (Then_n (W_seq (W_block (W_seq (W_reg ?_)))))
  refine O_mv (v := (.pointer (some ⟨br, 0, none⟩))) rfl rfl ?_
  refine O_v rfl (R_callL (vs := [(.pointer (some ⟨br, 0, none⟩))]) cF89 rfl rfl ((obj_getAt br rr Sr rq w56 ((H58.pick (B' := [boxR br 132 (rdCh rr)]) (I' := [slI Sr encB 1 rr.bh rr.b]) [3] (by decide) rfl (List.forall_mem_cons.2 ⟨List.mem_of_getElem? (i := 0) rfl, fun _ h => (nomatch h)⟩)).rdStart) hrr).ret ?_))
  rintro _ w61 ⟨r60, rfl, hg62, hQ63, hr64⟩
  have H65 := H58.rdUpd (r := rr) 3 0 rfl rfl hg62 hQ63
  refine O_v rfl (R_buildL (vs := [(0, (aggOf (stampCh ((rdAt rq).1))))]) (v := aggOf [[(.int .i64 (((rdAt rq).1).T))], [(.int .i64 (((rdAt rq).1).R))], (idCells zeroId)]) rfl (fun _ => by kernel_rfl) ?_)
  refine O_v rfl (C_alloc H65 [[(.int .i64 0)], [(.int .i64 0)], (idCells zeroId)] Tryz.zeroValue84 ?_)
  intro b66 w67 hb68 hx69 H70
  refine O_u (C_storeW H70 0 rfl (sub := [[(.int .i64 (((rdAt rq).1).T))], [(.int .i64 (((rdAt rq).1).R))], (idCells zeroId)]) Tryz.sizeOf84 rfl rfl rfl rfl rfl ?_)
  intro w71 hg72 H73
  refine O_nil (Then_n (W_seq (W_reg ?_)))
  refine O_mv (v := (.pointer (some ⟨br, 0, none⟩))) rfl rfl ?_
  refine O_v rfl (R_callL (vs := [(.pointer (some ⟨br, 0, none⟩))]) cF63 rfl rfl ((Reader_Id br r60 Sr ((rdAt rq).2) w71 ((H73.pick (B' := [boxR br 132 (rdCh r60)]) (I' := [slI Sr encB 1 r60.bh r60.b]) [4] (by decide) rfl (List.forall_mem_cons.2 ⟨List.mem_of_getElem? (i := 0) rfl, fun _ h => (nomatch h)⟩)).rdStart) hr64).ret ?_))
  rintro _ w75 ⟨r74, rfl, hg76, hQ77, hr78⟩
  have H79 := H73.rdUpd (r := r60) 4 0 rfl rfl hg76 hQ77
  refine O_v rfl (R_fieldAddr (off := 2) (oo := 2) Tryz.underlying84 rfl rfl Tryz.sizeOf45 rfl rfl ?_)
  refine O_u (C_storeA H79 0 rfl 2 (sub := [(idCells ((rdId ((rdAt rq).2)).1))]) [[(.int .i64 (((rdAt rq).1).T))], [(.int .i64 (((rdAt rq).1).R))], (idCells ((rdId ((rdAt rq).2)).1))] Tryz.sizeOf45 rfl rfl rfl rfl ⟨[(idCells zeroId)], [], rfl, rfl, rfl⟩ rfl ?_)
  intro w80 hg81 H82
  refine O_nil (Then_n (W_seq (W_reg ?_)))
  refine O_v rfl (R_fieldAddr (off := 37) (oo := 37) Tryz.underlying77 rfl rfl Tryz.sizeOf75 rfl rfl ?_)
  refine O_v rfl (R_load1 (v := (slV ho acc)) Tryz.isAgg75 rfl (H82.bx 2 rfl 6 1 37 37 _ rfl rfl rfl) ?_)
  refine O_v rfl (R_loadA (cs := [[(.int .i64 (((rdAt rq).1).T))], [(.int .i64 (((rdAt rq).1).R))], (idCells ((rdId ((rdAt rq).2)).1))]) Tryz.isAgg84 Tryz.sizeOf84 rfl rfl (H82.bx 0 rfl 0 3 0 0 _ rfl rfl rfl) ?_)
  refine O_v rfl (C_buildSliceL H82 (enc := headCh) (val := headV) ([({ tm := ((rdAt rq).1), data := (rdId ((rdAt rq).2)).1 } : Head)] : List Head) Tryz.underlying75 Tryz.sizeOf84 Tryz.zeroValue84 rfl (by decide) (fun _ => rfl) (fun _ => rfl) rfl rfl (by decide) ?_)
  intro b83 w84 hb85 hx86 H87
  refine O_v rfl (C_append H87 2 rfl (bytes := 48) (l := acc) (ys := ([({ tm := ((rdAt rq).1), data := (rdId ((rdAt rq).2)).1 } : Head)] : List Head)) Tryz.underlying75 rfl rfl rfl rfl rfl (by decide) rfl rfl (OwnS.sl (H87.getOwn 0 rfl) (fun _ => rfl)) (fun _ => rfl) (fun _ => rfl) (by simp only [List.length_append, List.length_cons, List.length_nil]; omega) (by decide) ?_)
  intro h88 w89 hg90 H91
  refine O_v rfl (R_fieldAddr (off := 37) (oo := 37) Tryz.underlying77 rfl rfl Tryz.sizeOf75 rfl rfl ?_)
  refine O_u (C_store1 H91 3 rfl 6 (v := (slV h88 (acc ++ ([({ tm := ((rdAt rq).1), data := (rdId ((rdAt rq).2)).1 } : Head)] : List Head)))) [[(.int .i64 (((rdAt q).1).T))], [(.int .i64 (((rdAt q).1).R))], [(.int .i64 (((rdAt ((rdAt q).2)).1).T))], [(.int .i64 (((rdAt ((rdAt q).2)).1).R))], [(.string ((rdText ((rdAt ((rdAt q).2)).2) 60).1))], (idCells ((rdId ((rdText ((rdAt ((rdAt q).2)).2) 60).2)).1)), [(slV h88 (acc ++ ([({ tm := ((rdAt rq).1), data := (rdId ((rdAt rq).2)).1 } : Head)] : List Head)))]] Tryz.sizeOf75 rfl rfl rfl rfl rfl rfl rfl ?_)
  intro w92 hg93 H94
  refine O_nil (Then_n (W_seq (W_reg ?_)))
  refine O_mv (v := (.pointer (some ⟨br, 0, none⟩))) rfl rfl ?_
  refine O_v rfl (R_callL (vs := [(.pointer (some ⟨br, 0, none⟩))]) cF48 rfl rfl ((Reader_Good br r74 Sr ((rdId ((rdAt rq).2)).2) w92 ((H94.pick (B' := [boxR br 132 (rdCh r74)]) (I' := [slI Sr encB 1 r74.bh r74.b]) [5] (by decide) rfl (List.forall_mem_cons.2 ⟨List.mem_of_getElem? (i := 0) rfl, fun _ h => (nomatch h)⟩)).rdStart) hr78).ret ?_))
  rintro _ w96 ⟨r95, rfl, hg97, hQ98, hr99⟩
  have H100 := H94.rdUpd (r := r74) 5 0 rfl rfl hg97 hQ98
  refine O_v rfl (R_not rfl ?_)
  refine O_nil (Then_n ?_)
  refine W_cond rfl (fun hc101 => ?_) (fun hc101 => ?_)
  ·have hc101 : (((rdId ((rdAt rq).2)).2).2) = true := (notF (notT hc101))
   refine W_exit ?_
   refine Blk_o rfl ?_
   refine Then_x (Then_x (Blk_x (Then_n (W_seq (W_reg ?_)))))
   refine O_v rfl (R_loadA (cs := [[(.int .i64 (((rdAt q).1).T))], [(.int .i64 (((rdAt q).1).R))], [(.int .i64 (((rdAt ((rdAt q).2)).1).T))], [(.int .i64 (((rdAt ((rdAt q).2)).1).R))], [(.string ((rdText ((rdAt ((rdAt q).2)).2) 60).1))], (idCells ((rdId ((rdText ((rdAt ((rdAt q).2)).2) 60).2)).1)), [(slV h88 (acc ++ ([({ tm := ((rdAt rq).1), data := (rdId ((rdAt rq).2)).1 } : Head)] : List Head)))]]) Tryz.isAgg77 Tryz.sizeOf77 rfl rfl (H100.bx 3 rfl 0 7 0 0 _ rfl rfl rfl) ?_)
   refine O_u (C_storeW H100 4 rfl (sub := [[(.int .i64 (((rdAt q).1).T))], [(.int .i64 (((rdAt q).1).R))], [(.int .i64 (((rdAt ((rdAt q).2)).1).T))], [(.int .i64 (((rdAt ((rdAt q).2)).1).R))], [(.string ((rdText ((rdAt ((rdAt q).2)).2) 60).1))], (idCells ((rdId ((rdText ((rdAt ((rdAt q).2)).2) 60).2)).1)), [(slV h88 (acc ++ ([({ tm := ((rdAt rq).1), data := (rdId ((rdAt rq).2)).1 } : Head)] : List Head)))]]) Tryz.sizeOf77 rfl rfl rfl rfl rfl ?_)
   intro w102 hg103 H104
   refine O_nil (Then_n (W_ret ?_))
   refine ret_c Tryz.results47 (inMem (cs := [[(.int .i64 (((rdAt q).1).T))], [(.int .i64 (((rdAt q).1).R))], [(.int .i64 (((rdAt ((rdAt q).2)).1).T))], [(.int .i64 (((rdAt ((rdAt q).2)).1).R))], [(.string ((rdText ((rdAt ((rdAt q).2)).2) 60).1))], (idCells ((rdId ((rdText ((rdAt ((rdAt q).2)).2) 60).2)).1)), [(slV h88 (acc ++ ([({ tm := ((rdAt rq).1), data := (rdId ((rdAt rq).2)).1 } : Head)] : List Head)))]]) rfl Tryz.isAgg77 Tryz.sizeOf77 rfl (boxR_at (H104.getOwn 4 rfl))) ?_
   have HQ := ((H104.pick (B' := [boxR br 132 (rdCh r95)]) (I' := [slI Sr encB 1 r95.bh r95.b]) [5] (by decide) rfl (List.forall_mem_cons.2 ⟨List.mem_of_getElem? (i := 0) rfl, fun _ h => (nomatch h)⟩)).rdStart)
   exact ⟨r95, ({ node := ((rdAt q).1), tm := ((rdAt ((rdAt q).2)).1), name := (rdText ((rdAt ((rdAt q).2)).2) 60).1, sub := (rdId ((rdText ((rdAt ((rdAt q).2)).2) 60).2)).1, heads := acc ++ ([({ tm := ((rdAt rq).1), data := (rdId ((rdAt rq).2)).1 } : Head)] : List Head), hh := h88 } : ItemS), rfl, H104.gr, HQ, (hr99.trans (congrArg Prod.snd (heads_brk hgo (by omega) hc101))), H104.retRowM 5 2 (by decide) rfl rfl, (congrArg (ItemC.mk _ _ _ _) (congrArg Prod.fst (heads_brk hgo (by omega) hc101)))⟩
  ·have hc101 : (((rdId ((rdAt rq).2)).2).2) = false := (notT (notF hc101))
   refine W_skip (Blk_n (Then_n (W_reg ?_)))
   refine O_v rfl (R_arith (a := (k : Int)) (b := 1) (r0 := (k : Int) + 1) (r := ((k + 1 : Nat) : Int)) rfl rfl rfl (wrapN _ (by omega)) ?_)
   refine O_mv (v := (.int .i64 ((k + 1 : Nat) : Int))) rfl rfl ?_
   refine O_nil (Then_n ?_)
   have H105 := H100.sub (List.Sublist.cons _ (List.Sublist.cons _ (List.Sublist.cons_cons _ (List.Sublist.cons_cons _ (List.Sublist.cons_cons _ (List.Sublist.cons_cons _ List.Sublist.slnil)))))) (List.forall_mem_cons.2 ⟨List.mem_of_getElem? (i := 0) rfl, memN⟩)
   refine ⟨_, ?_, (k + 1), (acc ++ ([({ tm := ((rdAt rq).1), data := (rdId ((rdAt rq).2)).1 } : Head)] : List Head)), r95, ((rdHead rq).2), h88, rfl, (by omega), hm, (by simp only [List.length_append, List.length_cons, List.length_nil]; omega), hr99, (heads_next hgo (by omega) hc101), _, envL_self ⟨rfl, rfl, rfl, rfl, rfl, trivial⟩, H105⟩
   omega
 ·have hc59 := (of_decide_eq_false hc59)
  refine W_exit (Then_x (Then_x (Blk_x (Then_n (W_seq (W_reg ?_))))))
  refine O_v rfl (R_loadA (cs := [[(.int .i64 (((rdAt q).1).T))], [(.int .i64 (((rdAt q).1).R))], [(.int .i64 (((rdAt ((rdAt q).2)).1).T))], [(.int .i64 (((rdAt ((rdAt q).2)).1).R))], [(.string ((rdText ((rdAt ((rdAt q).2)).2) 60).1))], (idCells ((rdId ((rdText ((rdAt ((rdAt q).2)).2) 60).2)).1)), [(slV ho acc)]]) Tryz.isAgg77 Tryz.sizeOf77 rfl rfl (H58.bx 1 rfl 0 7 0 0 _ rfl rfl rfl) ?_)
  refine O_u (C_storeW H58 2 rfl (sub := [[(.int .i64 (((rdAt q).1).T))], [(.int .i64 (((rdAt q).1).R))], [(.int .i64 (((rdAt ((rdAt q).2)).1).T))], [(.int .i64 (((rdAt ((rdAt q).2)).1).R))], [(.string ((rdText ((rdAt ((rdAt q).2)).2) 60).1))], (idCells ((rdId ((rdText ((rdAt ((rdAt q).2)).2) 60).2)).1)), [(slV ho acc)]]) Tryz.sizeOf77 rfl rfl rfl rfl rfl ?_)
  intro w106 hg107 H108
  refine O_nil (Then_n (W_ret ?_))
  refine ret_c Tryz.results47 (inMem (cs := [[(.int .i64 (((rdAt q).1).T))], [(.int .i64 (((rdAt q).1).R))], [(.int .i64 (((rdAt ((rdAt q).2)).1).T))], [(.int .i64 (((rdAt ((rdAt q).2)).1).R))], [(.string ((rdText ((rdAt ((rdAt q).2)).2) 60).1))], (idCells ((rdId ((rdText ((rdAt ((rdAt q).2)).2) 60).2)).1)), [(slV ho acc)]]) rfl Tryz.isAgg77 Tryz.sizeOf77 rfl (boxR_at (H108.getOwn 2 rfl))) ?_
  have HQ := ((H108.pick (B' := [boxR br 132 (rdCh rr)]) (I' := [slI Sr encB 1 rr.bh rr.b]) [3] (by decide) rfl (List.forall_mem_cons.2 ⟨List.mem_of_getElem? (i := 0) rfl, fun _ h => (nomatch h)⟩)).rdStart)
  exact ⟨rr, ({ node := ((rdAt q).1), tm := ((rdAt ((rdAt q).2)).1), name := (rdText ((rdAt ((rdAt q).2)).2) 60).1, sub := (rdId ((rdText ((rdAt ((rdAt q).2)).2) 60).2)).1, heads := acc, hh := ho } : ItemS), rfl, H108.gr, HQ, (hrr.trans (congrArg Prod.snd (heads_end hgo (by omega)))), H108.retRowM 3 0 (by decide) rfl rfl, (congrArg (ItemC.mk _ _ _ _) (congrArg Prod.fst (heads_end hgo (by omega))))⟩
set_option maxHeartbeats 1000000 in
theorem IndexFunc_Item (ha : SlH) (a : List ItemS) (kfn : FuncId) (cfn : Array Value) (f : ItemS → Bool) (w : World) (Sa : Sl (Old w) itemCh 38 ha a w) (Kfn : callable Tryz.prog kfn = true) (Cfn : ∀ x ∈ a, ∀ w1, Ext w w1 → Calls Tryz.prog kfn (#[itemV x] ++ cfn) w1 (Ret fun v w2 => v = .bool (f x) ∧ Ext w1 w2)) :
    Calls Tryz.prog 111 #[(slV ha a), (.func (.func kfn) #[] cfn)] w (Ret fun v w' => v = (.int .i64 (idxBy f a)) ∧ Ext w w') := by
 refine calls_W Tryz.func111 rfl Tryz.ntmps111 rfl ?_
 have H0 := Ctx.start w nob
 have H1 := H0.addSl _ Sa (fun b hb => ⟨hb, fun _ ho => (nomatch ho)⟩)
 have LSa := Sa.len
 refine W_seq (W_reg ?_)
 refine O_as (v := (.int .i64 0)) rfl rfl ?_
 refine O_nil (Then_n (W_seq (W_seq (W_reg ?_))))
 refine O_mv (v := (slV ha a)) rfl rfl ?_
 refine O_v rfl (R_len_slice (a := ha.a) (n := a.length) (c := ha.c) Tryz.underlying31 rfl ?_)
 refine O_mv (v := (.int .i64 0)) rfl rfl ?_
 refine O_nil (Then_n (W_block ?_))
 refine W_loop (fun m2 e3 w4 => ∃ (k : Nat), m2 = a.length - k ∧ (k ≤ a.length) ∧ (∀ i, i < k → f (nth a i) = false) ∧ ∃ eb5, e3 = envL [(0, (slV ha a)), (1, (.func (.func kfn) #[] cfn)), (7, (.int .i64 (a.length : Int))), (8, (.int .i64 (k : Int)))] eb5 ∧ Ctx w nob w4 [] [slI (Old w) itemCh 38 ha a]) _ ⟨0, rfl, (by omega), (all_zero _), _, envL_self ⟨rfl, rfl, rfl, rfl, trivial⟩, H1⟩ ?_
 rintro m2 _ w4 ⟨k, rfl, hk, hn, eb5, rfl, H6⟩
 refine W_seq (W_reg ?_)
 refine O_v rfl (R_cmp (a := (k : Int)) (b := (a.length : Int)) (r := (decide ((k : Int) < (a.length : Int)))) rfl rfl rfl ?_)
 refine O_nil (Then_n (W_seq ?_))
 refine W_cond rfl (fun hc7 => ?_) (fun hc7 => ?_)
 ·have hc7 := (of_decide_eq_true hc7)
  refine W_skip (Then_n (W_seq (W_block (W_seq (W_reg ?_)))))
  refine O_mv (v := (.int .i64 (k : Int))) rfl rfl (O_as (v := (.int .i64 (k : Int))) rfl rfl ?_)
  refine O_nil (Then_n (W_seq (W_reg ?_)))
  refine O_mv (v := (.func (.func kfn) #[] cfn)) rfl rfl (O_mv (v := (slV ha a)) rfl rfl (O_mv (v := (.int .i64 (k : Int))) rfl rfl ?_))
  refine O_v rfl (R_index_pure (H6.sl 0 rfl) (n := a.length) rfl (j := (k : Int)) (oo := (ha.o + k * 38)) Tryz.underlying31 Tryz.sizeOf77 rfl rfl (by omega) (by omega) rfl ?_)
  refine O_v rfl (R_loadA (cs := [[(.int .i64 (((nth a k).node).T))], [(.int .i64 (((nth a k).node).R))], [(.int .i64 (((nth a k).tm).T))], [(.int .i64 (((nth a k).tm).R))], [(.string ((nth a k).name))], (idCells ((nth a k).sub)), [(slV ((nth a k).hh) ((nth a k).heads))]]) Tryz.isAgg77 Tryz.sizeOf77 rfl rfl ((Sl.elem (H6.sl 0 rfl) (i := k) (by omega) rfl).chunks 0 7 0 (ha.o + k * 38) _ rfl rfl rfl) ?_)
  refine O_v rfl (R_callV (vs := [(aggOf (itemCh (nth a k)))]) Kfn rfl rfl ((Cfn _ (nth_mem (by omega)) w4 H6.gr).ret ?_))
  rintro _ w8 ⟨rfl, hx9⟩
  have H10 := H6.ext hx9
  refine O_nil (Then_n ?_)
  refine W_cond rfl (fun hc11 => ?_) (fun hc11 => ?_)
  ·have hc11 : (f (nth a k)) = true := hc11
   refine W_seq (W_reg ?_)
   refine O_mv (v := (.int .i64 (k : Int))) rfl rfl (O_as (v := (.int .i64 (k : Int))) rfl rfl ?_)
   refine O_nil (Then_n (W_ret (Blk_r (Then_r (Then_r (Blk_r (Then_r ?_)))))))
   refine ret_1 (v := (.int .i64 (k : Int))) Tryz.results111 rfl ?_
   exact ⟨(by rw [idxBy_at hn (by omega) (by assumption)]), H10.gr⟩
  ·have hc11 : (f (nth a k)) = false := hc11
   refine W_skip (Blk_n (Then_n (W_reg ?_)))
   refine O_v rfl (R_arith (a := (k : Int)) (b := 1) (r0 := (k : Int) + 1) (r := ((k + 1 : Nat) : Int)) rfl rfl rfl (wrapN _ (by omega)) ?_)
   refine O_mv (v := (.int .i64 ((k + 1 : Nat) : Int))) rfl rfl ?_
   refine O_nil (Then_n ?_)
   refine ⟨_, ?_, (k + 1), rfl, (by omega), (all_succ hn (by assumption)), _, envL_self ⟨rfl, rfl, rfl, rfl, trivial⟩, H10⟩
   omega
 ·have hc7 := (of_decide_eq_false hc7)
  refine W_exit (Then_x (Then_x (Blk_x (Then_n (W_seq (W_reg ?_))))))
  refine O_as (v := (.int .i64 (-1))) rfl rfl ?_
  refine O_nil (Then_n (W_ret ?_))
  refine ret_1 (v := (.int .i64 (-1))) Tryz.results111 rfl ?_
  exact ⟨(by rw [idxBy_none (by rwa [show a.length = k from by omega])]), H6.gr⟩
theorem cF111 : callable Tryz.prog 111 = true := by kernel_rfl
set_option maxHeartbeats 1000000 in
theorem ContainsFunc_Item (ha : SlH) (a : List ItemS) (kfn : FuncId) (cfn : Array Value) (f : ItemS → Bool) (w : World) (Sa : Sl (Old w) itemCh 38 ha a w) (Kfn : callable Tryz.prog kfn = true) (Cfn : ∀ x ∈ a, ∀ w1, Ext w w1 → Calls Tryz.prog kfn (#[itemV x] ++ cfn) w1 (Ret fun v w2 => v = .bool (f x) ∧ Ext w1 w2)) :
    Calls Tryz.prog 79 #[(slV ha a), (.func (.func kfn) #[] cfn)] w (Ret fun v w' => v = (.bool (a.any f)) ∧ Ext w w') := by
 refine calls_W Tryz.func79 rfl Tryz.ntmps79 rfl ?_
 have H0 := Ctx.start w nob
 have H1 := H0.addSl _ Sa (fun b hb => ⟨hb, fun _ ho => (nomatch ho)⟩)
 have LSa := Sa.len
 refine W_seq (W_reg ?_)
 refine O_as (v := (.bool false)) rfl rfl ?_
 refine O_nil (Then_n (W_seq (W_reg ?_)))
 refine O_mv (v := (slV ha a)) rfl rfl (O_mv (v := (.func (.func kfn) #[] cfn)) rfl rfl ?_)
 refine O_v rfl (R_callL (vs := [(slV ha a), (.func (.func kfn) #[] cfn)]) cF111 rfl rfl ((IndexFunc_Item ha a kfn cfn f w (H1.slOld 0 rfl) Kfn (fun x hx w1 he => Cfn x hx w1 (H1.gr.trans he))).ret ?_))
 rintro _ w2 ⟨rfl, hx3⟩
 have H4 := H1.ext hx3
 refine O_v rfl (R_cmp (a := idxBy f a) (b := 0) (r := (decide (0 ≤ idxBy f a))) rfl rfl rfl ?_)
 refine O_as (v := (.bool (decide (0 ≤ idxBy f a)))) rfl rfl ?_
 refine O_nil (Then_n (W_ret ?_))
 refine ret_1 (v := (.bool (decide (0 ≤ idxBy f a)))) Tryz.results79 rfl ?_
 exact ⟨(boolIdx f a), H4.gr⟩
set_option maxHeartbeats 1000000 in
theorem rightItem_1 (a : Head) (b : Head) (w : World) :
    Calls Tryz.prog 113 #[(aggOf (headCh a)), (aggOf (headCh b))] w (Ret fun v w' => v = (.int .i64 (cmpSt a.tm b.tm)) ∧ Ext w w') := by
 refine calls_W Tryz.func113 rfl Tryz.ntmps113 rfl ?_
 have H0 := Ctx.start w nob
 refine W_seq (W_reg ?_)
 refine O_v rfl (C_box H0 [[(.int .i64 a.tm.T)], [(.int .i64 a.tm.R)], (idCells a.data)] rfl ?_)
 intro b1 w2 hb3 hx4 H5
 refine O_v rfl (C_box H5 [[(.int .i64 b.tm.T)], [(.int .i64 b.tm.R)], (idCells b.data)] rfl ?_)
 intro b6 w7 hb8 hx9 H10
 refine O_as (v := (.int .i64 0)) rfl rfl ?_
 refine O_nil (Then_n (W_seq (W_reg ?_)))
 refine O_v rfl (R_fieldAddr (off := 0) (oo := 0) Tryz.underlying84 rfl rfl Tryz.sizeOf69 rfl rfl ?_)
 refine O_v rfl (R_loadA (cs := [[(.int .i64 a.tm.T)], [(.int .i64 a.tm.R)]]) Tryz.isAgg69 Tryz.sizeOf69 rfl rfl (H10.bx 1 rfl 0 2 0 0 _ rfl rfl rfl) ?_)
 refine O_v rfl (R_fieldAddr (off := 0) (oo := 0) Tryz.underlying84 rfl rfl Tryz.sizeOf69 rfl rfl ?_)
 refine O_v rfl (R_loadA (cs := [[(.int .i64 b.tm.T)], [(.int .i64 b.tm.R)]]) Tryz.isAgg69 Tryz.sizeOf69 rfl rfl (H10.bx 0 rfl 0 2 0 0 _ rfl rfl rfl) ?_)
 refine O_v rfl (R_callL (vs := [(aggOf (stampCh a.tm)), (aggOf (stampCh b.tm))]) cF84 rfl rfl ((stamp_Cmp a.tm b.tm w7 ).ret ?_))
 rintro _ w11 ⟨rfl, hx12⟩
 have H13 := H10.ext hx12
 refine O_as (v := (.int .i64 (cmpSt a.tm b.tm))) rfl rfl ?_
 refine O_nil (Then_n (W_ret ?_))
 refine ret_1 (v := (.int .i64 (cmpSt a.tm b.tm))) Tryz.results113 rfl ?_
 exact ⟨rfl, H13.gr⟩
set_option maxHeartbeats 1000000 in
theorem rise_Head (ha : SlH) (a : List Head) (kcmp : FuncId) (ccmp : Array Value) (f : Head → Head → Int) (w : World) (Sa : Sl (Old w) headCh 34 ha a w) (Kcmp : callable Tryz.prog kcmp = true) (Ccmp : ∀ x ∈ a, ∀ y ∈ a, ∀ w1, Ext w w1 → Calls Tryz.prog kcmp (#[headV x, headV y] ++ ccmp) w1 (Ret fun v w2 => v = .int .i64 (f x y) ∧ Ext w1 w2)) :
    Calls Tryz.prog 112 #[(slV ha a), (.func (.func kcmp) #[] ccmp)] w (Ret fun v w' => v = (.bool (riseBy f a)) ∧ Ext w w') := by
 refine calls_W Tryz.func112 rfl Tryz.ntmps112 rfl ?_
 have H0 := Ctx.start w nob
 have H1 := H0.addSl _ Sa (fun b hb => ⟨hb, fun _ ho => (nomatch ho)⟩)
 have LSa := Sa.len
 refine W_seq (W_reg ?_)
 refine O_as (v := (.bool false)) rfl rfl ?_
 refine O_nil (Then_n (W_seq (W_seq (W_reg ?_))))
 refine O_as (v := (.int .i64 1)) rfl rfl ?_
 refine O_nil (Then_n (W_block ?_))
 refine W_loop (fun m2 e3 w4 => ∃ (k : Nat), m2 = a.length - k ∧ (1 ≤ k) ∧ (k ≤ max a.length 1) ∧ (∀ i, i < k → 1 ≤ i → f (nth a (i - 1)) (nth a i) < 0) ∧ ∃ eb5, e3 = envL [(0, (slV ha a)), (1, (.func (.func kcmp) #[] ccmp)), (5, (.int .i64 (k : Int)))] eb5 ∧ Ctx w nob w4 [] [slI (Old w) headCh 34 ha a]) _ ⟨1, rfl, (by omega), (by omega), (fun i h1 h2 => by omega), _, envL_self ⟨rfl, rfl, rfl, trivial⟩, H1⟩ ?_
 rintro m2 _ w4 ⟨k, rfl, h1, hk, hn, eb5, rfl, H6⟩
 refine W_seq (W_seq (W_reg ?_))
 refine O_mv (v := (.int .i64 (k : Int))) rfl rfl (O_mv (v := (slV ha a)) rfl rfl ?_)
 refine O_v rfl (R_len_slice (a := ha.a) (n := a.length) (c := ha.c) Tryz.underlying75 rfl ?_)
 refine O_v rfl (R_cmp (a := (k : Int)) (b := (a.length : Int)) (r := (decide ((k : Int) < (a.length : Int)))) rfl rfl rfl ?_)
 refine O_nil (Then_n ?_)
 refine W_cond rfl (fun hc7 => ?_) (fun hc7 => ?_)
 ·have hc7 := (of_decide_eq_true hc7)
  refine W_skip (Then_n (W_seq (W_block (W_seq ?_))))
  refine W_rgd TryzMixed [(0, .q 0), (1, .q 0), (2, .q 0), (3, .q 0), (4, .q 0), (5, .q 0), (6, .q 0), (7, .q 0), (8, .q 0), (9, .q 0), (10, .q 0), (11, .q 0)] (by kernel_rfl) ?_
  refine Lx_mv (v := (.func (.func kcmp) #[] ccmp)) rfl rfl rfl (Lx_mv (v := (slV ha a)) rfl rfl rfl (Lx_mv (v := (.int .i64 (k : Int))) rfl rfl rfl (Lx_q rfl rfl _ (fun v14 hv15 => R_arith (a := (k : Int)) (b := 1) (r0 := (k : Int) - 1) (r := ((k - 1 : Nat) : Int)) rfl rfl rfl (wrapP _ (by omega) (by omega)) qk) ?_)))
  refine Lx_q rfl rfl _ (fun v16 hv17 => R_index_pure (H6.sl 0 rfl) (n := a.length) rfl (j := ((k - 1 : Nat) : Int)) (oo := (ha.o + (k - 1) * 34)) Tryz.underlying75 Tryz.sizeOf84 rfl rfl (by omega) (by omega) rfl qk) (Lx_q rfl rfl _ (fun v18 hv19 => R_loadA (cs := [[(.int .i64 (((nth a (k - 1)).tm).T))], [(.int .i64 (((nth a (k - 1)).tm).R))], (idCells ((nth a (k - 1)).data))]) Tryz.isAgg84 Tryz.sizeOf84 rfl rfl ((Sl.elem ((H6.ext hv19).sl 0 rfl) (i := (k - 1)) (by omega) rfl).chunks 0 3 0 (ha.o + (k - 1) * 34) _ rfl rfl rfl) qk) (Lx_mv (v := (slV ha a)) rfl rfl rfl (Lx_mv (v := (.int .i64 (k : Int))) rfl rfl rfl ?_)))
  refine Lx_q rfl rfl _ (fun v24 hv25 => R_index_pure (H6.sl 0 rfl) (n := a.length) rfl (j := (k : Int)) (oo := (ha.o + k * 34)) Tryz.underlying75 Tryz.sizeOf84 rfl rfl (by omega) (by omega) rfl qk) (Lx_q rfl rfl _ (fun v26 hv27 => R_loadA (cs := [[(.int .i64 (((nth a k).tm).T))], [(.int .i64 (((nth a k).tm).R))], (idCells ((nth a k).data))]) Tryz.isAgg84 Tryz.sizeOf84 rfl rfl ((Sl.elem ((H6.ext hv27).sl 0 rfl) (i := k) (by omega) rfl).chunks 0 3 0 (ha.o + k * 34) _ rfl rfl rfl) qk) (Lx_q rfl rfl (.int .i64 (f (nth a (k - 1)) (nth a k))) (fun v28 hv29 => R_callV (vs := [(aggOf (headCh (nth a (k - 1)))), (aggOf (headCh (nth a k)))]) Kcmp rfl rfl (Ccmp _ (nth_mem (by omega)) _ (nth_mem (by omega)) v28 (H6.ext hv29).gr)) (Lx_q rfl rfl _ (fun v30 hv31 => R_cmp (a := f (nth a (k - 1)) (nth a k)) (b := 0) (r := (decide (0 ≤ f (nth a (k - 1)) (nth a k)))) rfl rfl rfl qk) ?_)))
  refine Lx_nil (fun w32 hw33 => ?_)
  have H34 := H6.ext hw33
  refine Then_n ?_
  refine W_cond rfl (fun hc35 => ?_) (fun hc35 => ?_)
  ·have hc35 := (of_decide_eq_true hc35)
   refine W_seq (W_reg ?_)
   refine O_as (v := (.bool false)) rfl rfl ?_
   refine O_nil (Then_n (W_ret (Blk_r (Then_r (Then_r (Blk_r (Then_r ?_)))))))
   refine ret_1 (v := (.bool false)) Tryz.results112 rfl ?_
   exact ⟨(boolF (fun h => by have := h k (by omega) (by omega); omega)), H34.gr⟩
  ·have hc35 := (of_decide_eq_false hc35)
   refine W_skip (Blk_n (Then_n (W_reg ?_)))
   refine O_mv (v := (.int .i64 (k : Int))) rfl rfl ?_
   refine O_v rfl (R_arith (a := (k : Int)) (b := 1) (r0 := (k : Int) + 1) (r := ((k + 1 : Nat) : Int)) rfl rfl rfl (wrapN _ (by omega)) ?_)
   refine O_as (v := (.int .i64 ((k + 1 : Nat) : Int))) rfl rfl ?_
   refine O_nil (Then_n ?_)
   refine ⟨_, ?_, (k + 1), rfl, (by omega), (by omega), (rise_succ hn (by omega)), _, envL_self ⟨rfl, rfl, rfl, trivial⟩, H34⟩
   omega
 ·have hc7 := (of_decide_eq_false hc7)
  refine W_exit (Then_x (Then_x (Blk_x (Then_n (W_seq (W_reg ?_))))))
  refine O_as (v := (.bool true)) rfl rfl ?_
  refine O_nil (Then_n (W_ret ?_))
  refine ret_1 (v := (.bool true)) Tryz.results112 rfl ?_
  exact ⟨(boolT (fun i h1 h2 => hn i (by omega) h2)), H6.gr⟩
end Go.Proofs.YthjdhfoeckfmbaaGreat
namespace Go.Proofs.YthjdhfoeckfmbaaGreat
open Go
set_option maxRecDepth 100000
set_option linter.unusedVariables false
set_option linter.unusedSimpArgs false
set_option linter.unusedSectionVars false
theorem cF112 : callable Tryz.prog 112 = true := by kernel_rfl
theorem cF113 : callable Tryz.prog 113 = true := by kernel_rfl
set_option maxHeartbeats 2000000 in
theorem obj_rightItem (x : ItemS) (w : World) (Sx_heads : Sl (Old w) headCh 34 x.hh x.heads w) :
    Calls Tryz.prog 81 #[(aggOf (itemCh x))] w (Ret fun v w' => v = (.bool (itemOkS x)) ∧ Ext w w') := by
 refine calls_W Tryz.func81 rfl Tryz.ntmps81 rfl ?_
 have H0 := Ctx.start w nob
 have H1 := H0.addSl _ Sx_heads (fun b hb => ⟨hb, fun _ ho => (nomatch ho)⟩)
 have LSx_heads := Sx_heads.len
 refine W_seq (W_reg ?_)
 refine O_v rfl (C_box H1 [[(.int .i64 x.node.T)], [(.int .i64 x.node.R)], [(.int .i64 x.tm.T)], [(.int .i64 x.tm.R)], [(.string x.name)], (idCells x.sub), [(slV x.hh x.heads)]] rfl ?_)
 intro b2 w3 hb4 hx5 H6
 refine O_as (v := (.bool false)) rfl rfl ?_
 refine O_nil (Then_n (W_seq (W_seq ?_)))
 refine W_rg [(0, .q 0), (1, .q 0), (2, .q 0), (3, .q 0), (4, .q 0), (5, .q 0), (6, .q 0), (7, .q 0), (8, .q 0), (9, .q 0), (10, .q 0), (11, .q 0), (12, .q 0), (13, .q 0), (14, .q 0), (15, .q 0), (16, .q 0), (17, .q 0), (18, .q 0), (19, .q 0), (20, .q 0), (21, .q 0), (22, .q 0), (23, .q 0), (24, .q 0), (25, .q 0), (26, .q 0), (27, .q 0), (28, .q 0), (29, .q 0)] (by kernel_rfl) ?_
 refine Lx_q rfl rfl _ (fun v7 hv8 => R_fieldAddr (off := 0) (oo := 0) Tryz.underlying77 rfl rfl Tryz.sizeOf69 rfl rfl qk) (Lx_q rfl rfl _ (fun v9 hv10 => R_loadA (cs := [[(.int .i64 x.node.T)], [(.int .i64 x.node.R)]]) Tryz.isAgg69 Tryz.sizeOf69 rfl rfl ((H6.ext hv10).bx 0 rfl 0 2 0 0 _ rfl rfl rfl) qk) (Lx_q rfl rfl (.bool (stRight x.node)) (fun v11 hv12 => R_callL (vs := [(aggOf (stampCh x.node))]) cF100 rfl rfl (stamp_Right x.node v11 )) (Lx_q rfl rfl _ (fun v13 hv14 => R_not rfl qk) ?_)))
 refine Lx_mv (v := (.bool (!(stRight x.node)))) rfl rfl rfl (Lx_qf rfl rfl rfl rfl rfl _ (fun hA v17 hv18 => R_fieldAddr (off := 2) (oo := 2) Tryz.underlying77 rfl rfl Tryz.sizeOf69 rfl rfl qk) (Lx_qf rfl rfl rfl rfl rfl _ (fun hA v19 hv20 => R_loadA (cs := [[(.int .i64 x.tm.T)], [(.int .i64 x.tm.R)]]) Tryz.isAgg69 Tryz.sizeOf69 rfl (gv_t hA) ((H6.ext hv20).bx 0 rfl 2 2 2 2 _ rfl rfl rfl) qk) (Lx_qf rfl rfl rfl rfl rfl (.bool (stRight x.tm)) (fun hA v21 hv22 => R_callL (vs := [(aggOf (stampCh x.tm))]) cF100 rfl (lst1 (gv_t hA)) (stamp_Right x.tm v21 )) ?_)))
 refine Lx_qf rfl rfl rfl rfl rfl _ (fun hA v23 hv24 => R_not (gv_t hA) qk) (Lx_q rfl rfl _ (fun v25 hv26 => R_pick rfl pk_or qk) (Lx_mv (v := (.bool ((!(stRight x.node)) || (!(stRight x.tm))))) rfl rfl rfl (Lx_qf rfl rfl rfl rfl rfl _ (fun hA v29 hv30 => R_fieldAddr (off := 2) (oo := 2) Tryz.underlying77 rfl rfl Tryz.sizeOf69 rfl rfl qk) ?_)))
 refine Lx_qf rfl rfl rfl rfl rfl _ (fun hA v31 hv32 => R_loadA (cs := [[(.int .i64 x.tm.T)], [(.int .i64 x.tm.R)]]) Tryz.isAgg69 Tryz.sizeOf69 rfl (gv_t hA) ((H6.ext hv32).bx 0 rfl 2 2 2 2 _ rfl rfl rfl) qk) (Lx_qf rfl rfl rfl rfl rfl _ (fun hA v33 hv34 => R_fieldAddr (off := 0) (oo := 0) Tryz.underlying77 rfl rfl Tryz.sizeOf69 rfl rfl qk) (Lx_qf rfl rfl rfl rfl rfl _ (fun hA v35 hv36 => R_loadA (cs := [[(.int .i64 x.node.T)], [(.int .i64 x.node.R)]]) Tryz.isAgg69 Tryz.sizeOf69 rfl (gv_t hA) ((H6.ext hv36).bx 0 rfl 0 2 0 0 _ rfl rfl rfl) qk) (Lx_qf rfl rfl rfl rfl rfl (.int .i64 (cmpSt x.tm x.node)) (fun hA v37 hv38 => R_callL (vs := [(aggOf (stampCh x.tm)), (aggOf (stampCh x.node))]) cF84 rfl (lst2 (gv_t hA) (gv_t hA)) (stamp_Cmp x.tm x.node v37 )) ?_)))
 refine Lx_qf rfl rfl rfl rfl rfl _ (fun hA v39 hv40 => R_cmp (a := cmpSt x.tm x.node) (b := 0) (r := (decide (cmpSt x.tm x.node < 0))) (gv_t hA) rfl rfl qk) (Lx_q rfl rfl _ (fun v41 hv42 => R_pick rfl pk_or qk) (Lx_mv (v := (.bool (((!(stRight x.node)) || (!(stRight x.tm))) || (decide (cmpSt x.tm x.node < 0))))) rfl rfl rfl (Lx_qf rfl rfl rfl rfl rfl _ (fun hA v45 hv46 => R_fieldAddr (off := 4) (oo := 4) Tryz.underlying77 rfl rfl Tryz.sizeOf9 rfl rfl qk) ?_)))
 refine Lx_qf rfl rfl rfl rfl rfl _ (fun hA v47 hv48 => R_load1 (v := (.string x.name)) Tryz.isAgg9 (gv_t hA) ((H6.ext hv48).bx 0 rfl 4 1 4 4 _ rfl rfl rfl) qk) (Lx_qf rfl rfl rfl rfl rfl (.bool (nameOk x.name)) (fun hA v49 hv50 => R_callL (vs := [(.string x.name)]) cF108 rfl (lst1 (gv_t hA)) (stamp_Name x.name v49 )) (Lx_qf rfl rfl rfl rfl rfl _ (fun hA v51 hv52 => R_not (gv_t hA) qk) (Lx_q rfl rfl _ (fun v53 hv54 => R_pick rfl pk_or qk) ?_)))
 refine Lx_mv (v := (.bool ((((!(stRight x.node)) || (!(stRight x.tm))) || (decide (cmpSt x.tm x.node < 0))) || (!(nameOk x.name))))) rfl rfl rfl (Lx_qf rfl rfl rfl rfl rfl _ (fun hA v57 hv58 => R_fieldAddr (off := 37) (oo := 37) Tryz.underlying77 rfl rfl Tryz.sizeOf75 rfl rfl qk) (Lx_qf rfl rfl rfl rfl rfl _ (fun hA v59 hv60 => R_load1 (v := (slV x.hh x.heads)) Tryz.isAgg75 (gv_t hA) ((H6.ext hv60).bx 0 rfl 6 1 37 37 _ rfl rfl rfl) qk) (Lx_qf rfl rfl rfl rfl rfl _ (fun hA v61 hv62 => R_len_slice (a := x.hh.a) (n := x.heads.length) (c := x.hh.c) Tryz.underlying75 (gv_t hA) qk) ?_)))
 refine Lx_qf rfl rfl rfl rfl rfl _ (fun hA v63 hv64 => R_cmp (a := (x.heads.length : Int)) (b := 1000) (r := (decide (1000 < (x.heads.length : Int)))) (gv_t hA) rfl rfl qk) (Lx_q rfl rfl _ (fun v65 hv66 => R_pick rfl pk_or qk) ?_)
 refine Lx_nil (fun w67 hw68 => ?_)
 have H69 := H6.ext hw68
 refine Then_n ?_
 refine W_cond rfl (fun hc70 => ?_) (fun hc70 => ?_)
 ·have hc70 : (((((stRight x.node) = false ∨ (stRight x.tm) = false) ∨ (cmpSt x.tm x.node < 0)) ∨ (nameOk x.name) = false) ∨ (1000 < (x.heads.length : Int))) := (Or.imp (fun h => (Or.imp (fun h => (Or.imp (fun h => (Or.imp (fun h => (notT h)) (fun h => (notT h)) (orT h))) (fun h => (of_decide_eq_true h)) (orT h))) (fun h => (notT h)) (orT h))) (fun h => (of_decide_eq_true h)) (orT hc70))
  refine W_seq (W_reg ?_)
  refine O_as (v := (.bool false)) rfl rfl ?_
  refine O_nil (Then_n (W_ret (Then_r ?_)))
  refine ret_1 (v := (.bool false)) Tryz.results81 rfl ?_
  exact ⟨(itemOk_f1 (by assumption)), H69.gr⟩
 ·have hc70 : (((((stRight x.node) = true ∧ (stRight x.tm) = true) ∧ ¬ (cmpSt x.tm x.node < 0)) ∧ (nameOk x.name) = true) ∧ ¬ (1000 < (x.heads.length : Int))) := (And.imp (fun h => (And.imp (fun h => (And.imp (fun h => (And.imp (fun h => (notF h)) (fun h => (notF h)) (orF h))) (fun h => (of_decide_eq_false h)) (orF h))) (fun h => (notF h)) (orF h))) (fun h => (of_decide_eq_false h)) (orF hc70))
  refine W_skip (Then_n (W_seq (W_seq (W_reg ?_))))
  refine O_v rfl (R_fieldAddr (off := 37) (oo := 37) Tryz.underlying77 rfl rfl Tryz.sizeOf75 rfl rfl ?_)
  refine O_v rfl (R_load1 (v := (slV x.hh x.heads)) Tryz.isAgg75 rfl (H69.bx 0 rfl 6 1 37 37 _ rfl rfl rfl) ?_)
  refine O_v rfl (R_len_slice (a := x.hh.a) (n := x.heads.length) (c := x.hh.c) Tryz.underlying75 rfl ?_)
  refine O_mv (v := (.int .i64 0)) rfl rfl ?_
  refine O_nil (Then_n (W_block ?_))
  refine W_loop (fun m71 e72 w73 => ∃ (k : Nat), m71 = x.heads.length - k ∧ (k ≤ x.heads.length) ∧ (∀ i, i < k → itemHead1 x.node x.heads i) ∧ ∃ eb74, e72 = envL [(1, (.pointer (some ⟨b2, 0, none⟩))), (36, (slV x.hh x.heads)), (37, (.int .i64 (x.heads.length : Int))), (38, (.int .i64 (k : Int)))] eb74 ∧ Ctx w nob w73 [boxR b2 77 [[(.int .i64 x.node.T)], [(.int .i64 x.node.R)], [(.int .i64 x.tm.T)], [(.int .i64 x.tm.R)], [(.string x.name)], (idCells x.sub), [(slV x.hh x.heads)]]] [slI (Old w) headCh 34 x.hh x.heads]) _ ⟨0, rfl, (by omega), (all_zero _), _, envL_self ⟨rfl, rfl, rfl, rfl, trivial⟩, H69⟩ ?_
  rintro m71 _ w73 ⟨k, rfl, hk, hn, eb74, rfl, H75⟩
  refine W_seq (W_reg ?_)
  refine O_v rfl (R_cmp (a := (k : Int)) (b := (x.heads.length : Int)) (r := (decide ((k : Int) < (x.heads.length : Int)))) rfl rfl rfl ?_)
  refine O_nil (Then_n (W_seq ?_))
  refine W_cond rfl (fun hc76 => ?_) (fun hc76 => ?_)
  ·have hc76 := (of_decide_eq_true hc76)
   refine W_skip (Then_n (W_seq (W_block (W_seq (W_reg ?_)))))
   refine O_v rfl (R_index_pure (H75.sl 0 rfl) (n := x.heads.length) rfl (j := (k : Int)) (oo := (x.hh.o + k * 34)) Tryz.underlying75 Tryz.sizeOf84 rfl rfl (by omega) (by omega) rfl ?_)
   refine O_v rfl (R_loadA (cs := [[(.int .i64 (((nth x.heads k).tm).T))], [(.int .i64 (((nth x.heads k).tm).R))], (idCells ((nth x.heads k).data))]) Tryz.isAgg84 Tryz.sizeOf84 rfl rfl ((Sl.elem (H75.sl 0 rfl) (i := k) (by omega) rfl).chunks 0 3 0 (x.hh.o + k * 34) _ rfl rfl rfl) ?_)
   refine O_v rfl (C_alloc H75 [[(.int .i64 0)], [(.int .i64 0)], (idCells zeroId)] Tryz.zeroValue84 ?_)
   intro b77 w78 hb79 hx80 H81
   refine O_u (C_storeW H81 0 rfl (sub := [[(.int .i64 (((nth x.heads k).tm).T))], [(.int .i64 (((nth x.heads k).tm).R))], (idCells ((nth x.heads k).data))]) Tryz.sizeOf84 rfl rfl rfl rfl rfl ?_)
   intro w82 hg83 H84
   refine O_nil (Then_n (W_seq ?_))
   refine W_rg [(0, .q 0), (1, .q 0), (2, .q 0), (3, .q 0), (4, .q 0), (5, .q 0), (6, .q 0), (7, .q 0), (8, .q 0), (9, .q 0), (10, .q 0), (11, .q 0), (12, .q 0), (13, .q 0), (14, .q 0), (15, .q 0), (16, .q 0), (17, .q 0)] (by kernel_rfl) ?_
   refine Lx_q rfl rfl _ (fun v85 hv86 => R_fieldAddr (off := 0) (oo := 0) Tryz.underlying84 rfl rfl Tryz.sizeOf69 rfl rfl qk) (Lx_q rfl rfl _ (fun v87 hv88 => R_loadA (cs := [[(.int .i64 (((nth x.heads k).tm).T))], [(.int .i64 (((nth x.heads k).tm).R))]]) Tryz.isAgg69 Tryz.sizeOf69 rfl rfl ((H84.ext hv88).bx 0 rfl 0 2 0 0 _ rfl rfl rfl) qk) (Lx_q rfl rfl (.bool (stRight ((nth x.heads k).tm))) (fun v89 hv90 => R_callL (vs := [(aggOf (stampCh ((nth x.heads k).tm)))]) cF100 rfl rfl (stamp_Right ((nth x.heads k).tm) v89 )) (Lx_q rfl rfl _ (fun v91 hv92 => R_not rfl qk) ?_)))
   refine Lx_mv (v := (.bool (!(stRight ((nth x.heads k).tm))))) rfl rfl rfl (Lx_qf rfl rfl rfl rfl rfl _ (fun hA v95 hv96 => R_fieldAddr (off := 0) (oo := 0) Tryz.underlying84 rfl rfl Tryz.sizeOf69 rfl rfl qk) (Lx_qf rfl rfl rfl rfl rfl _ (fun hA v97 hv98 => R_loadA (cs := [[(.int .i64 (((nth x.heads k).tm).T))], [(.int .i64 (((nth x.heads k).tm).R))]]) Tryz.isAgg69 Tryz.sizeOf69 rfl (gv_t hA) ((H84.ext hv98).bx 0 rfl 0 2 0 0 _ rfl rfl rfl) qk) (Lx_qf rfl rfl rfl rfl rfl _ (fun hA v99 hv100 => R_fieldAddr (off := 0) (oo := 0) Tryz.underlying77 rfl rfl Tryz.sizeOf69 rfl rfl qk) ?_)))
   refine Lx_qf rfl rfl rfl rfl rfl _ (fun hA v101 hv102 => R_loadA (cs := [[(.int .i64 x.node.T)], [(.int .i64 x.node.R)]]) Tryz.isAgg69 Tryz.sizeOf69 rfl (gv_t hA) ((H84.ext hv102).bx 1 rfl 0 2 0 0 _ rfl rfl rfl) qk) (Lx_qf rfl rfl rfl rfl rfl (.int .i64 (cmpSt ((nth x.heads k).tm) x.node)) (fun hA v103 hv104 => R_callL (vs := [(aggOf (stampCh ((nth x.heads k).tm))), (aggOf (stampCh x.node))]) cF84 rfl (lst2 (gv_t hA) (gv_t hA)) (stamp_Cmp ((nth x.heads k).tm) x.node v103 )) (Lx_qf rfl rfl rfl rfl rfl _ (fun hA v105 hv106 => R_cmp (a := cmpSt ((nth x.heads k).tm) x.node) (b := 0) (r := (decide (cmpSt ((nth x.heads k).tm) x.node ≤ 0))) (gv_t hA) rfl rfl qk) (Lx_q rfl rfl _ (fun v107 hv108 => R_pick rfl pk_or qk) ?_)))
   refine Lx_mv (v := (.bool ((!(stRight ((nth x.heads k).tm))) || (decide (cmpSt ((nth x.heads k).tm) x.node ≤ 0))))) rfl rfl rfl (Lx_qf rfl rfl rfl rfl rfl _ (fun hA v111 hv112 => R_fieldAddr (off := 2) (oo := 2) Tryz.underlying84 rfl rfl Tryz.sizeOf45 rfl rfl qk) (Lx_qf rfl rfl rfl rfl rfl _ (fun hA v113 hv114 => R_loadA (cs := [(idCells ((nth x.heads k).data))]) Tryz.isAgg45 Tryz.sizeOf45 rfl (gv_t hA) ((H84.ext hv114).bx 0 rfl 2 1 2 2 _ rfl rfl rfl) qk) (Lx_qf rfl rfl rfl rfl rfl _ (fun hA v115 hv116 => R_buildL (vs := []) (v := aggOf [(idCells zeroId)]) rfl (fun _ => by kernel_rfl) qk) ?_)))
   refine Lx_qf rfl rfl rfl rfl rfl _ (fun hA v117 hv118 => R_eqv (a := (nth x.heads k).data) (b := zeroId) eqv_ID45 rfl Tryz.eqGuardType45 (gv_t hA) (gv_t hA) qk) (Lx_q rfl rfl _ (fun v119 hv120 => R_pick rfl pk_or qk) ?_)
   refine Lx_nil (fun w121 hw122 => ?_)
   have H123 := H84.ext hw122
   refine Then_n ?_
   refine W_cond rfl (fun hc124 => ?_) (fun hc124 => ?_)
   ·have hc124 : (((stRight ((nth x.heads k).tm)) = false ∨ (cmpSt ((nth x.heads k).tm) x.node ≤ 0)) ∨ ((nth x.heads k).data = zeroId)) := (Or.imp (fun h => (Or.imp (fun h => (notT h)) (fun h => (of_decide_eq_true h)) (orT h))) (fun h => (of_decide_eq_true h)) (orT hc124))
    refine W_seq (W_reg ?_)
    refine O_as (v := (.bool false)) rfl rfl ?_
    refine O_nil (Then_n (W_ret (Blk_r (Then_r (Then_r (Blk_r (Then_r ?_)))))))
    refine ret_1 (v := (.bool false)) Tryz.results81 rfl ?_
    exact ⟨(itemOk_f3 (k := k) (by omega) (by assumption)), H123.gr⟩
   ·have hc124 : (((stRight ((nth x.heads k).tm)) = true ∧ ¬ (cmpSt ((nth x.heads k).tm) x.node ≤ 0)) ∧ ¬ ((nth x.heads k).data = zeroId)) := (And.imp (fun h => (And.imp (fun h => (notF h)) (fun h => (of_decide_eq_false h)) (orF h))) (fun h => (of_decide_eq_false h)) (orF hc124))
    refine W_skip (Blk_n (Then_n (W_reg ?_)))
    refine O_v rfl (R_arith (a := (k : Int)) (b := 1) (r0 := (k : Int) + 1) (r := ((k + 1 : Nat) : Int)) rfl rfl rfl (wrapN _ (by omega)) ?_)
    refine O_mv (v := (.int .i64 ((k + 1 : Nat) : Int))) rfl rfl ?_
    refine O_nil (Then_n ?_)
    have H125 := H123.sub (List.Sublist.cons _ (List.Sublist.cons_cons _ List.Sublist.slnil)) (List.forall_mem_cons.2 ⟨List.mem_of_getElem? (i := 0) rfl, memN⟩)
    refine ⟨_, ?_, (k + 1), rfl, (by omega), (all_succ hn (itemHead1_t (by assumption))), _, envL_self ⟨rfl, rfl, rfl, rfl, trivial⟩, H125⟩
    omega
  ·have hc76 := (of_decide_eq_false hc76)
   refine W_exit (Then_x (Then_x (Blk_x (Then_n (W_seq (W_reg ?_))))))
   refine O_v rfl (R_fieldAddr (off := 37) (oo := 37) Tryz.underlying77 rfl rfl Tryz.sizeOf75 rfl rfl ?_)
   refine O_v rfl (R_load1 (v := (slV x.hh x.heads)) Tryz.isAgg75 rfl (H75.bx 0 rfl 6 1 37 37 _ rfl rfl rfl) ?_)
   refine O_v rfl (R_callL (vs := [(slV x.hh x.heads), (.func (.func 113) #[] #[])]) cF112 rfl rfl ((rise_Head x.hh x.heads 113 #[] (fun (a b : Head) => cmpSt a.tm b.tm) w73 (H75.slOld 0 rfl) cF113 (fun x _ y _ w1 _ => callsCap0 (rightItem_1 x y w1))).ret ?_))
   rintro _ w126 ⟨rfl, hx127⟩
   have H128 := H75.ext hx127
   refine O_as (v := (.bool (riseBy (fun (a b : Head) => cmpSt a.tm b.tm) x.heads))) rfl rfl ?_
   refine O_nil (Then_n (W_ret ?_))
   refine ret_1 (v := (.bool (riseBy (fun (a b : Head) => cmpSt a.tm b.tm) x.heads))) Tryz.results81 rfl ?_
   exact ⟨(itemOk_e (by assumption) (by rwa [show x.heads.length = k from by omega])), H128.gr⟩
theorem cF81 : callable Tryz.prog 81 = true := by kernel_rfl
set_option maxHeartbeats 1000000 in
theorem rightDir_1 (x : ItemS) (w : World) (Sx_heads : Sl (Old w) headCh 34 x.hh x.heads w) :
    Calls Tryz.prog 80 #[(aggOf (itemCh x))] w (Ret fun v w' => v = (.bool (!(itemOkS x))) ∧ Ext w w') := by
 refine calls_W Tryz.func80 rfl Tryz.ntmps80 rfl ?_
 have H0 := Ctx.start w nob
 have H1 := H0.addSl _ Sx_heads (fun b hb => ⟨hb, fun _ ho => (nomatch ho)⟩)
 have LSx_heads := Sx_heads.len
 refine W_seq (W_reg ?_)
 refine O_v rfl (C_box H1 [[(.int .i64 x.node.T)], [(.int .i64 x.node.R)], [(.int .i64 x.tm.T)], [(.int .i64 x.tm.R)], [(.string x.name)], (idCells x.sub), [(slV x.hh x.heads)]] rfl ?_)
 intro b2 w3 hb4 hx5 H6
 refine O_as (v := (.bool false)) rfl rfl ?_
 refine O_nil (Then_n (W_seq (W_reg ?_)))
 refine O_v rfl (R_loadA (cs := [[(.int .i64 x.node.T)], [(.int .i64 x.node.R)], [(.int .i64 x.tm.T)], [(.int .i64 x.tm.R)], [(.string x.name)], (idCells x.sub), [(slV x.hh x.heads)]]) Tryz.isAgg77 Tryz.sizeOf77 rfl rfl (H6.bx 0 rfl 0 7 0 0 _ rfl rfl rfl) ?_)
 refine O_v rfl (R_callL (vs := [(aggOf (itemCh x))]) cF81 rfl rfl ((obj_rightItem x w3 (H6.slOld 0 rfl)).ret ?_))
 rintro _ w7 ⟨rfl, hx8⟩
 have H9 := H6.ext hx8
 refine O_v rfl (R_not rfl ?_)
 refine O_as (v := (.bool (!(itemOkS x)))) rfl rfl ?_
 refine O_nil (Then_n (W_ret ?_))
 refine ret_1 (v := (.bool (!(itemOkS x)))) Tryz.results80 rfl ?_
 exact ⟨rfl, H9.gr⟩
end Go.Proofs.YthjdhfoeckfmbaaGreat
namespace Go.Proofs.YthjdhfoeckfmbaaGreat
open Go
set_option maxRecDepth 100000
set_option linter.unusedVariables false
set_option linter.unusedSimpArgs false
set_option linter.unusedSectionVars false
variable [DD]
set_option maxHeartbeats 1000000 in
theorem rightDir_2 (a : ItemS) (b : ItemS) (w : World) (Sa_heads : Sl (Old w) headCh 34 a.hh a.heads w) (Sb_heads : Sl (Old w) headCh 34 b.hh b.heads w) :
    Calls Tryz.prog 83 #[(aggOf (itemCh a)), (aggOf (itemCh b))] w (Ret fun v w' => v = (.int .i64 (cmpSt a.node b.node)) ∧ Ext w w') := by
 refine calls_W Tryz.func83 rfl Tryz.ntmps83 rfl ?_
 have H0 := Ctx.start w nob
 have H1 := H0.addSl _ Sa_heads (fun b hb => ⟨hb, fun _ ho => (nomatch ho)⟩)
 have LSa_heads := Sa_heads.len
 have H2 := H1.addSl _ Sb_heads (fun b hb => ⟨hb, fun _ ho => (nomatch ho)⟩)
 have LSb_heads := Sb_heads.len
 refine W_seq (W_reg ?_)
 refine O_v rfl (C_box H2 [[(.int .i64 a.node.T)], [(.int .i64 a.node.R)], [(.int .i64 a.tm.T)], [(.int .i64 a.tm.R)], [(.string a.name)], (idCells a.sub), [(slV a.hh a.heads)]] rfl ?_)
 intro b3 w4 hb5 hx6 H7
 refine O_v rfl (C_box H7 [[(.int .i64 b.node.T)], [(.int .i64 b.node.R)], [(.int .i64 b.tm.T)], [(.int .i64 b.tm.R)], [(.string b.name)], (idCells b.sub), [(slV b.hh b.heads)]] rfl ?_)
 intro b8 w9 hb10 hx11 H12
 refine O_as (v := (.int .i64 0)) rfl rfl ?_
 refine O_nil (Then_n (W_seq (W_reg ?_)))
 refine O_v rfl (R_fieldAddr (off := 0) (oo := 0) Tryz.underlying77 rfl rfl Tryz.sizeOf69 rfl rfl ?_)
 refine O_v rfl (R_loadA (cs := [[(.int .i64 a.node.T)], [(.int .i64 a.node.R)]]) Tryz.isAgg69 Tryz.sizeOf69 rfl rfl (H12.bx 1 rfl 0 2 0 0 _ rfl rfl rfl) ?_)
 refine O_v rfl (R_fieldAddr (off := 0) (oo := 0) Tryz.underlying77 rfl rfl Tryz.sizeOf69 rfl rfl ?_)
 refine O_v rfl (R_loadA (cs := [[(.int .i64 b.node.T)], [(.int .i64 b.node.R)]]) Tryz.isAgg69 Tryz.sizeOf69 rfl rfl (H12.bx 0 rfl 0 2 0 0 _ rfl rfl rfl) ?_)
 refine O_v rfl (R_callL (vs := [(aggOf (stampCh a.node)), (aggOf (stampCh b.node))]) cF84 rfl rfl ((stamp_Cmp a.node b.node w9 ).ret ?_))
 rintro _ w13 ⟨rfl, hx14⟩
 have H15 := H12.ext hx14
 refine O_as (v := (.int .i64 (cmpSt a.node b.node))) rfl rfl ?_
 refine O_nil (Then_n (W_ret ?_))
 refine ret_1 (v := (.int .i64 (cmpSt a.node b.node))) Tryz.results83 rfl ?_
 exact ⟨rfl, H15.gr⟩
set_option maxHeartbeats 1000000 in
theorem rise_Item (ha : SlH) (a : List ItemS) (kcmp : FuncId) (ccmp : Array Value) (f : ItemS → ItemS → Int) (w : World) (Sa : Sl (Old w) itemCh 38 ha a w) (Kcmp : callable Tryz.prog kcmp = true) (Ccmp : ∀ x ∈ a, ∀ y ∈ a, ∀ w1, Ext w w1 → Calls Tryz.prog kcmp (#[itemV x, itemV y] ++ ccmp) w1 (Ret fun v w2 => v = .int .i64 (f x y) ∧ Ext w1 w2)) :
    Calls Tryz.prog 82 #[(slV ha a), (.func (.func kcmp) #[] ccmp)] w (Ret fun v w' => v = (.bool (riseBy f a)) ∧ Ext w w') := by
 refine calls_W Tryz.func82 rfl Tryz.ntmps82 rfl ?_
 have H0 := Ctx.start w nob
 have H1 := H0.addSl _ Sa (fun b hb => ⟨hb, fun _ ho => (nomatch ho)⟩)
 have LSa := Sa.len
 refine W_seq (W_reg ?_)
 refine O_as (v := (.bool false)) rfl rfl ?_
 refine O_nil (Then_n (W_seq (W_seq (W_reg ?_))))
 refine O_as (v := (.int .i64 1)) rfl rfl ?_
 refine O_nil (Then_n (W_block ?_))
 refine W_loop (fun m2 e3 w4 => ∃ (k : Nat), m2 = a.length - k ∧ (1 ≤ k) ∧ (k ≤ max a.length 1) ∧ (∀ i, i < k → 1 ≤ i → f (nth a (i - 1)) (nth a i) < 0) ∧ ∃ eb5, e3 = envL [(0, (slV ha a)), (1, (.func (.func kcmp) #[] ccmp)), (5, (.int .i64 (k : Int)))] eb5 ∧ Ctx w nob w4 [] [slI (Old w) itemCh 38 ha a]) _ ⟨1, rfl, (by omega), (by omega), (fun i h1 h2 => by omega), _, envL_self ⟨rfl, rfl, rfl, trivial⟩, H1⟩ ?_
 rintro m2 _ w4 ⟨k, rfl, h1, hk, hn, eb5, rfl, H6⟩
 refine W_seq (W_seq (W_reg ?_))
 refine O_mv (v := (.int .i64 (k : Int))) rfl rfl (O_mv (v := (slV ha a)) rfl rfl ?_)
 refine O_v rfl (R_len_slice (a := ha.a) (n := a.length) (c := ha.c) Tryz.underlying31 rfl ?_)
 refine O_v rfl (R_cmp (a := (k : Int)) (b := (a.length : Int)) (r := (decide ((k : Int) < (a.length : Int)))) rfl rfl rfl ?_)
 refine O_nil (Then_n ?_)
 refine W_cond rfl (fun hc7 => ?_) (fun hc7 => ?_)
 ·have hc7 := (of_decide_eq_true hc7)
  refine W_skip (Then_n (W_seq (W_block (W_seq ?_))))
  refine W_rgd TryzMixed [(0, .q 0), (1, .q 0), (2, .q 0), (3, .q 0), (4, .q 0), (5, .q 0), (6, .q 0), (7, .q 0), (8, .q 0), (9, .q 0), (10, .q 0), (11, .q 0)] (by kernel_rfl) ?_
  refine Lx_mv (v := (.func (.func kcmp) #[] ccmp)) rfl rfl rfl (Lx_mv (v := (slV ha a)) rfl rfl rfl (Lx_mv (v := (.int .i64 (k : Int))) rfl rfl rfl (Lx_q rfl rfl _ (fun v14 hv15 => R_arith (a := (k : Int)) (b := 1) (r0 := (k : Int) - 1) (r := ((k - 1 : Nat) : Int)) rfl rfl rfl (wrapP _ (by omega) (by omega)) qk) ?_)))
  refine Lx_q rfl rfl _ (fun v16 hv17 => R_index_pure (H6.sl 0 rfl) (n := a.length) rfl (j := ((k - 1 : Nat) : Int)) (oo := (ha.o + (k - 1) * 38)) Tryz.underlying31 Tryz.sizeOf77 rfl rfl (by omega) (by omega) rfl qk) (Lx_q rfl rfl _ (fun v18 hv19 => R_loadA (cs := [[(.int .i64 (((nth a (k - 1)).node).T))], [(.int .i64 (((nth a (k - 1)).node).R))], [(.int .i64 (((nth a (k - 1)).tm).T))], [(.int .i64 (((nth a (k - 1)).tm).R))], [(.string ((nth a (k - 1)).name))], (idCells ((nth a (k - 1)).sub)), [(slV ((nth a (k - 1)).hh) ((nth a (k - 1)).heads))]]) Tryz.isAgg77 Tryz.sizeOf77 rfl rfl ((Sl.elem ((H6.ext hv19).sl 0 rfl) (i := (k - 1)) (by omega) rfl).chunks 0 7 0 (ha.o + (k - 1) * 38) _ rfl rfl rfl) qk) (Lx_mv (v := (slV ha a)) rfl rfl rfl (Lx_mv (v := (.int .i64 (k : Int))) rfl rfl rfl ?_)))
  refine Lx_q rfl rfl _ (fun v24 hv25 => R_index_pure (H6.sl 0 rfl) (n := a.length) rfl (j := (k : Int)) (oo := (ha.o + k * 38)) Tryz.underlying31 Tryz.sizeOf77 rfl rfl (by omega) (by omega) rfl qk) (Lx_q rfl rfl _ (fun v26 hv27 => R_loadA (cs := [[(.int .i64 (((nth a k).node).T))], [(.int .i64 (((nth a k).node).R))], [(.int .i64 (((nth a k).tm).T))], [(.int .i64 (((nth a k).tm).R))], [(.string ((nth a k).name))], (idCells ((nth a k).sub)), [(slV ((nth a k).hh) ((nth a k).heads))]]) Tryz.isAgg77 Tryz.sizeOf77 rfl rfl ((Sl.elem ((H6.ext hv27).sl 0 rfl) (i := k) (by omega) rfl).chunks 0 7 0 (ha.o + k * 38) _ rfl rfl rfl) qk) (Lx_q rfl rfl (.int .i64 (f (nth a (k - 1)) (nth a k))) (fun v28 hv29 => R_callV (vs := [(aggOf (itemCh (nth a (k - 1)))), (aggOf (itemCh (nth a k)))]) Kcmp rfl rfl (Ccmp _ (nth_mem (by omega)) _ (nth_mem (by omega)) v28 (H6.ext hv29).gr)) (Lx_q rfl rfl _ (fun v30 hv31 => R_cmp (a := f (nth a (k - 1)) (nth a k)) (b := 0) (r := (decide (0 ≤ f (nth a (k - 1)) (nth a k)))) rfl rfl rfl qk) ?_)))
  refine Lx_nil (fun w32 hw33 => ?_)
  have H34 := H6.ext hw33
  refine Then_n ?_
  refine W_cond rfl (fun hc35 => ?_) (fun hc35 => ?_)
  ·have hc35 := (of_decide_eq_true hc35)
   refine W_seq (W_reg ?_)
   refine O_as (v := (.bool false)) rfl rfl ?_
   refine O_nil (Then_n (W_ret (Blk_r (Then_r (Then_r (Blk_r (Then_r ?_)))))))
   refine ret_1 (v := (.bool false)) Tryz.results82 rfl ?_
   exact ⟨(boolF (fun h => by have := h k (by omega) (by omega); omega)), H34.gr⟩
  ·have hc35 := (of_decide_eq_false hc35)
   refine W_skip (Blk_n (Then_n (W_reg ?_)))
   refine O_mv (v := (.int .i64 (k : Int))) rfl rfl ?_
   refine O_v rfl (R_arith (a := (k : Int)) (b := 1) (r0 := (k : Int) + 1) (r := ((k + 1 : Nat) : Int)) rfl rfl rfl (wrapN _ (by omega)) ?_)
   refine O_as (v := (.int .i64 ((k + 1 : Nat) : Int))) rfl rfl ?_
   refine O_nil (Then_n ?_)
   refine ⟨_, ?_, (k + 1), rfl, (by omega), (by omega), (rise_succ hn (by omega)), _, envL_self ⟨rfl, rfl, rfl, trivial⟩, H34⟩
   omega
 ·have hc7 := (of_decide_eq_false hc7)
  refine W_exit (Then_x (Then_x (Blk_x (Then_n (W_seq (W_reg ?_))))))
  refine O_as (v := (.bool true)) rfl rfl ?_
  refine O_nil (Then_n (W_ret ?_))
  refine ret_1 (v := (.bool true)) Tryz.results82 rfl ?_
  exact ⟨(boolT (fun i h1 h2 => hn i (by omega) h2)), H6.gr⟩
end Go.Proofs.YthjdhfoeckfmbaaGreat
namespace Go.Proofs.YthjdhfoeckfmbaaGreat
open Go
set_option maxRecDepth 100000
set_option linter.unusedVariables false
set_option linter.unusedSimpArgs false
set_option linter.unusedSectionVars false
theorem cF79 : callable Tryz.prog 79 = true := by kernel_rfl
theorem cF80 : callable Tryz.prog 80 = true := by kernel_rfl
theorem cF82 : callable Tryz.prog 82 = true := by kernel_rfl
theorem cF83 : callable Tryz.prog 83 = true := by kernel_rfl
set_option maxHeartbeats 1000000 in
theorem obj_rightDir (hitems : SlH) (items : List ItemS) (w : World) (Sitems : Sl (Old w) itemCh 38 hitems items w) (Ditems_heads : ∀ x ∈ items, Sl (Old w) headCh 34 x.hh x.heads w) :
    Calls Tryz.prog 38 #[(slV hitems items)] w (Ret fun v w' => v = (.bool (dirOk items)) ∧ Ext w w') := by
 refine calls_W Tryz.func38 rfl Tryz.ntmps38 rfl ?_
 have H0 := Ctx.start w nob
 have H1 := H0.addSl _ Sitems (fun b hb => ⟨hb, fun _ ho => (nomatch ho)⟩)
 have LSitems := Sitems.len
 have H2 := H1.addImm' (deepI (Old w) headCh 34 (fun x : ItemS => x.hh) (fun x : ItemS => x.heads) items) Ditems_heads (fun b hb => ⟨hb, fun _ ho => (nomatch ho)⟩)
 refine W_seq (W_reg ?_)
 refine O_as (v := (.bool false)) rfl rfl ?_
 refine O_nil (Then_n (W_seq ?_))
 refine W_rg [(0, .q 0), (1, .q 0), (2, .q 0), (3, .q 0), (4, .q 0), (5, .q 0), (6, .q 0), (7, .q 0), (8, .q 0), (9, .q 0), (10, .q 0), (11, .q 0), (12, .q 0)] (by kernel_rfl) ?_
 refine Lx_mv (v := (slV hitems items)) rfl rfl rfl (Lx_q rfl rfl _ (fun v5 hv6 => R_len_slice (a := hitems.a) (n := items.length) (c := hitems.c) Tryz.underlying31 rfl qk) (Lx_q rfl rfl _ (fun v7 hv8 => R_cmp (a := (items.length : Int)) (b := 1000) (r := (decide ((items.length : Int) ≤ 1000))) rfl rfl rfl qk) (Lx_mv (v := (.bool (decide ((items.length : Int) ≤ 1000)))) rfl rfl rfl ?_)))
 refine Lx_qt rfl rfl rfl rfl rfl _ (fun hA v11 hv12 => R_move (v := (slV hitems items)) rfl qk) (Lx_qt rfl rfl rfl rfl rfl (.bool (items.any (fun (x : ItemS) => !itemOkS x))) (fun hA v13 hv14 => R_callL (vs := [(slV hitems items), (.func (.func 80) #[] #[])]) cF79 rfl (lst2 (gv_t hA) rfl) (ContainsFunc_Item hitems items 80 #[] (fun (x : ItemS) => !itemOkS x) v13 ((H2.ext hv14).slOld 1 rfl) cF80 (fun x hx w1 he => callsCap0 (rightDir_1 x w1 (((H2.ext hv14).deepOld 0 rfl _ hx).ext he))))) (Lx_qt rfl rfl rfl rfl rfl _ (fun hA v15 hv16 => R_not (gv_t hA) qk) (Lx_q rfl rfl _ (fun v17 hv18 => R_pick rfl pk_and qk) ?_)))
 refine Lx_mv (v := (.bool ((decide ((items.length : Int) ≤ 1000)) && (!(items.any (fun (x : ItemS) => !itemOkS x)))))) rfl rfl rfl (Lx_qt rfl rfl rfl rfl rfl _ (fun hA v21 hv22 => R_move (v := (slV hitems items)) rfl qk) (Lx_qt rfl rfl rfl rfl rfl (.bool (riseBy (fun (a b : ItemS) => cmpSt a.node b.node) items)) (fun hA v23 hv24 => R_callL (vs := [(slV hitems items), (.func (.func 83) #[] #[])]) cF82 rfl (lst2 (gv_t hA) rfl) (rise_Item hitems items 83 #[] (fun (a b : ItemS) => cmpSt a.node b.node) v23 ((H2.ext hv24).slOld 1 rfl) cF83 (fun x hx y hy w1 he => callsCap0 (rightDir_2 x y w1 (((H2.ext hv24).deepOld 0 rfl _ hx).ext he) (((H2.ext hv24).deepOld 0 rfl _ hy).ext he))))) (Lx_q rfl rfl _ (fun v25 hv26 => R_pick rfl pk_and qk) ?_)))
 refine Lx_q rfl rfl _ (fun v27 hv28 => R_assign (v := (.bool (((decide ((items.length : Int) ≤ 1000)) && (!(items.any (fun (x : ItemS) => !itemOkS x)))) && (riseBy (fun (a b : ItemS) => cmpSt a.node b.node) items)))) rfl qk) ?_
 refine Lx_nil (fun w29 hw30 => ?_)
 have H31 := H2.ext hw30
 refine Then_n (W_ret ?_)
 refine ret_1 (v := (.bool (((decide ((items.length : Int) ≤ 1000)) && (!(items.any (fun (x : ItemS) => !itemOkS x)))) && (riseBy (fun (a b : ItemS) => cmpSt a.node b.node) items)))) Tryz.results38 rfl ?_
 exact ⟨dirOk_e, H31.gr⟩
theorem cF38 : callable Tryz.prog 38 = true := by kernel_rfl
theorem cF47 : callable Tryz.prog 47 = true := by kernel_rfl
set_option maxHeartbeats 2000000 in
theorem obj_Dir (hb : SlH) (b : List UInt8) (w : World) (Sb : Sl (Old w) encB 1 hb b w) (hl : b.length ≤ 140737488355328) :
    Calls Tryz.prog 17 #[(slV hb b)] w (Ret fun v w' => ∃ (h : SlH) (l : List ItemS) (S : Nat → Prop) (e : Int), v = .tuple #[slV h l, (.int .i64 e)] ∧ Ext w w' ∧ OwnS w.heap.size 77 38 itemCh h l w' ∧ (∀ b, S b → w.heap.size ≤ b ∧ b < w'.heap.size ∧ (slV h l).ownBlock ≠ some b) ∧ (∀ x ∈ l, Sl S headCh 34 x.hh x.heads w') ∧ ((l.map ItemS.core, e) = dirOf b)) := by
 refine calls_W Tryz.func17 rfl Tryz.ntmps17 rfl ?_
 have H0 := Ctx.start w nob
 have H1 := H0.addSl _ Sb (fun b hb => ⟨hb, fun _ ho => (nomatch ho)⟩)
 have LSb := Sb.len
 refine W_seq (W_reg ?_)
 refine O_as (v := (.slice none 0 0)) rfl rfl (O_as (v := (.int .i64 0)) rfl rfl ?_)
 refine O_nil (Then_n (W_seq (W_reg ?_)))
 refine O_mv (v := (slV hb b)) rfl rfl ?_
 refine O_v rfl (R_callL (vs := [(slV hb b), (.int .u8 2)]) cF45 rfl rfl ((obj_open hb b 2 w (H1.slOld 0 rfl) (by omega)).ret ?_))
 rintro _ w5 ⟨b2, r3, S4, rfl, hx6, hb7, hS8, hQ9, hr10⟩
 have H11 := H1.addRd hx6 hb7 hS8 hQ9
 refine O_as (v := (.pointer (some ⟨b2, 0, none⟩))) rfl rfl ?_
 refine O_nil (Then_n (W_seq (W_reg ?_)))
 refine O_as (v := (.slice none 0 0)) rfl rfl ?_
 refine O_nil (Then_n (W_seq (W_seq (W_reg ?_))))
 refine O_mv (v := (.pointer (some ⟨b2, 0, none⟩))) rfl rfl ?_
 refine O_v rfl (R_callL (vs := [(.pointer (some ⟨b2, 0, none⟩)), (.int .i64 1000)]) cF46 rfl rfl ((Reader_Num b2 r3 S4 (openSt b 2) 1000 w5 ((H11.pick (B' := [boxR b2 132 (rdCh r3)]) (I' := [slI S4 encB 1 r3.bh r3.b]) [0] (by decide) rfl (List.forall_mem_cons.2 ⟨List.mem_of_getElem? (i := 0) rfl, fun _ h => (nomatch h)⟩)).rdStart) hr10).ret ?_))
 rintro _ w13 ⟨r12, rfl, hg14, hQ15, hr16⟩
 have H17 := H11.rdUpd (r := r3) 0 0 rfl rfl hg14 hQ15
 refine O_mv (v := (.int .i64 0)) rfl rfl ?_
 refine O_nil (Then_n (W_block ?_))
 have H18 := H17.addNil 77 38 itemCh
 have H19 := H18.deepNil headCh 34 (fun x : ItemS => x.hh) (fun x : ItemS => x.heads)
 refine W_loop (fun m21 e22 w23 => ∃ (k : Nat), ∃ (acc : List ItemS), ∃ (S : Nat → Prop), ∃ (rr : RdS), ∃ (rq : List UInt8 × Bool), ∃ (h20 : SlH), m21 = (rdNum (openSt b 2) 1000).1 - k ∧ (k ≤ (rdNum (openSt b 2) 1000).1) ∧ ((rdNum (openSt b 2) 1000).1 ≤ 1000) ∧ (acc.length ≤ k) ∧ (∀ b, S b → w.heap.size ≤ b) ∧ (rr.st = rq) ∧ (rdItems ((rdNum (openSt b 2) 1000).1 - k) (acc.map ItemS.core) rq = rdItems (rdNum (openSt b 2) 1000).1 [] (rdNum (openSt b 2) 1000).2) ∧ ∃ eb24, e22 = envL [(2, (.slice none 0 0)), (3, (.int .i64 0)), (4, (.pointer (some ⟨b2, 0, none⟩))), (5, (slV h20 acc)), (9, (.int .i64 (((rdNum (openSt b 2) 1000).1) : Int))), (10, (.int .i64 (k : Int)))] eb24 ∧ Ctx w nob w23 [rowR 77 38 itemCh h20 acc, boxR b2 132 [[(slV rr.bh rr.b)], [(.bool rr.bad)]]] [deepI S headCh 34 (fun x : ItemS => x.hh) (fun x : ItemS => x.heads) acc, slI S4 encB 1 rr.bh rr.b, slI (Old w) encB 1 hb b]) _ ⟨0, [], nob, r12, ((rdNum (openSt b 2) 1000).2), nilH, rfl, (by omega), (rdNum_le _ (by decide)), (by simp), (fun _ h => h.elim), hr16, rfl, _, envL_self ⟨rfl, rfl, rfl, rfl, rfl, rfl, trivial⟩, H19⟩ ?_
 rintro m21 _ w23 ⟨k, acc, S, rr, rq, h20, rfl, hk, hm, hal, hS, hrr, hgo, eb24, rfl, H25⟩
 refine W_seq (W_reg ?_)
 refine O_v rfl (R_cmp (a := (k : Int)) (b := (((rdNum (openSt b 2) 1000).1) : Int)) (r := (decide ((k : Int) < (((rdNum (openSt b 2) 1000).1) : Int)))) rfl rfl rfl ?_)
 refine O_nil (Then_n (W_seq ?_))
 refine W_cond rfl (fun hc26 => ?_) (fun hc26 => ?_)
 ·have hc26 := (of_decide_eq_true hc26)
  refine W_skip (Then_n (W_seq (W_block (W_seq (W_reg ?_)))))
  refine O_mv (v := (slV h20 acc)) rfl rfl (O_mv (v := (.pointer (some ⟨b2, 0, none⟩))) rfl rfl ?_)
  refine O_v rfl (R_callL (vs := [(.pointer (some ⟨b2, 0, none⟩))]) cF47 rfl rfl ((obj_getItem b2 rr S4 rq w23 ((H25.pick (B' := [boxR b2 132 (rdCh rr)]) (I' := [slI S4 encB 1 rr.bh rr.b]) [1] (by decide) rfl (List.forall_mem_cons.2 ⟨List.mem_of_getElem? (i := 1) rfl, fun _ h => (nomatch h)⟩)).rdStart) hrr).ret ?_))
  rintro _ w28 ⟨r27, x33, rfl, hg29, hQ30, hr31, ho34, hx35⟩
  have H32 := H25.rdRow (r := rr) 1 1 rfl rfl hg29 hQ30 ho34
  refine O_v rfl (C_buildSliceL H32 (enc := itemCh) (val := itemV) ([x33] : List ItemS) Tryz.underlying31 Tryz.sizeOf77 Tryz.zeroValue77 rfl (by decide) (fun _ => rfl) (fun _ => rfl) rfl rfl (by decide) ?_)
  intro b36 w37 hb38 hx39 H40
  refine O_v rfl (C_append H40 2 rfl (bytes := 104) (l := acc) (ys := ([x33] : List ItemS)) Tryz.underlying31 rfl rfl rfl rfl rfl (by decide) rfl rfl (OwnS.sl (H40.getOwn 0 rfl) (fun _ => rfl)) (fun _ => rfl) (fun _ => rfl) (by simp only [List.length_append, List.length_cons, List.length_nil]; omega) (by decide) ?_)
  intro h41 w42 hg43 H44
  refine O_as (v := (slV h41 (acc ++ ([x33] : List ItemS)))) rfl rfl ?_
  refine O_nil (Then_n (W_seq (W_reg ?_)))
  refine O_mv (v := (.pointer (some ⟨b2, 0, none⟩))) rfl rfl ?_
  refine O_v rfl (R_callL (vs := [(.pointer (some ⟨b2, 0, none⟩))]) cF48 rfl rfl ((Reader_Good b2 r27 S4 ((rdItem rq).2) w42 ((H44.pick (B' := [boxR b2 132 (rdCh r27)]) (I' := [slI S4 encB 1 r27.bh r27.b]) [3] (by decide) rfl (List.forall_mem_cons.2 ⟨List.mem_of_getElem? (i := 1) rfl, fun _ h => (nomatch h)⟩)).rdStart) hr31).ret ?_))
  rintro _ w46 ⟨r45, rfl, hg47, hQ48, hr49⟩
  have H50 := H44.rdUpd (r := r27) 3 1 rfl rfl hg47 hQ48
  refine O_v rfl (R_not rfl ?_)
  refine O_nil (Then_n ?_)
  refine W_cond rfl (fun hc51 => ?_) (fun hc51 => ?_)
  ·have hc51 : (((rdItem rq).2).2) = true := (notF (notT hc51))
   have H52 := H50.freeze 1 rfl (fun _ => rfl)
   have H53 := H52.deepSnoc 1 rfl 0 rfl (x33) rfl rfl
   refine W_exit ?_
   refine Blk_o rfl ?_
   refine Then_x (Then_x (Blk_x (Then_n (W_seq (W_seq ?_)))))
   refine W_rgM (fun c => c = b2) (fun i => if i == 1 then 1 else 0) [(0, .q 2), (1, .c 1), (2, .q 2), (3, .q 2), (4, .q 2), (5, .q 0), (6, .q 2), (7, .q 2)] (by kernel_rfl) ?_
   refine Lx_mv (v := (.pointer (some ⟨b2, 0, none⟩))) rfl rfl rfl ?_
   refine Lx_c rfl rfl (fun w56 hw57 => ?_)
   have H58 := H53.ext hw57
   refine (R_callL (vs := [(.pointer (some ⟨b2, 0, none⟩))]) cF49 rfl rfl ((Reader_Done b2 r45 S4 ((rdItem rq).2) w56 ((H58.pick (B' := [boxR b2 132 (rdCh r45)]) (I' := [slI S4 encB 1 r45.bh r45.b]) [2] (by decide) rfl (List.forall_mem_cons.2 ⟨List.mem_of_getElem? (i := 3) rfl, fun _ h => (nomatch h)⟩)).rdStart) hr49).ret ?_))
   rintro _ w60 ⟨r59, rfl, hg61, hQ62, hr63⟩
   have H64 := H58.rdUpd (r := r45) 2 3 rfl rfl hg61 hQ62
   refine ⟨hg61, ?_⟩
   refine Lx_q rfl rfl _ (fun v65 hv66 => R_not rfl qk) (Lx_mv (v := (.bool (!(rdDone ((rdItem rq).2))))) rfl rfl rfl (Lx_qf rfl rfl rfl rfl rfl _ (fun hA v69 hv70 => R_move (v := (slV h41 (acc ++ ([x33] : List ItemS)))) rfl qk) (Lx_qf rfl rfl rfl rfl rfl (.bool (dirOk (acc ++ ([x33] : List ItemS)))) (fun hA v71 hv72 => R_callL (vs := [(slV h41 (acc ++ ([x33] : List ItemS)))]) cF38 rfl (lst1 (gv_t hA)) (obj_rightDir h41 (acc ++ ([x33] : List ItemS)) v71 ((H64.ext hv72).rowSl 1 rfl (fun _ => rfl)) ((H64.ext hv72).deepOld 0 rfl))) ?_)))
   refine Lx_qf rfl rfl rfl rfl rfl _ (fun hA v73 hv74 => R_not (gv_t hA) qk) (Lx_q rfl rfl _ (fun v75 hv76 => R_pick rfl pk_or qk) ?_)
   refine Lx_nil (fun w77 hw78 => ?_)
   have H79 := H64.ext hw78
   refine Then_n ?_
   refine W_cond rfl (fun hc80 => ?_) (fun hc80 => ?_)
   ·have hc80 : ((rdDone ((rdItem rq).2)) = false ∨ (dirOk (acc ++ ([x33] : List ItemS))) = false) := (Or.imp (fun h => (notT h)) (fun h => (notT h)) (orT hc80))
    refine W_seq (W_reg ?_)
    refine O_as (v := (.slice none 0 0)) rfl rfl (O_as (v := (.int .i64 20)) rfl rfl ?_)
    refine O_nil (Then_n (W_ret (Then_r ?_)))
    refine ret_2 (v := (.slice none 0 0)) (v' := (.int .i64 20)) Tryz.results17 rfl rfl ?_
    have H81 := H79.addNil 77 38 itemCh
    have H82 := H81.deepNil headCh 34 (fun x : ItemS => x.hh) (fun x : ItemS => x.heads)
    exact ⟨nilH, ([] : List ItemS), nob, 20, rfl, H82.gr, H82.retRow 0 rfl, H82.retDeep 0 rfl 0 rfl (fun _ h => h.elim), H82.getImm 0 rfl, (dir_no (items_brk hgo (by omega) hx35 hc51) hc80)⟩
   ·have hc80 : ((rdDone ((rdItem rq).2)) = true ∧ (dirOk (acc ++ ([x33] : List ItemS))) = true) := (And.imp (fun h => (notF h)) (fun h => (notF h)) (orF hc80))
    refine W_skip (Then_n (W_seq (W_reg ?_)))
    refine O_mv (v := (slV h41 (acc ++ ([x33] : List ItemS)))) rfl rfl (O_as (v := (slV h41 (acc ++ ([x33] : List ItemS)))) rfl rfl (O_as (v := (.int .i64 0)) rfl rfl ?_))
    refine O_nil (Then_n (W_ret ?_))
    refine ret_2 (v := (slV h41 (acc ++ ([x33] : List ItemS)))) (v' := (.int .i64 0)) Tryz.results17 rfl rfl ?_
    exact ⟨h41, acc ++ ([x33] : List ItemS), (fun b => S b ∨ (fun z_ => (slV x33.hh x33.heads).ownBlock = some z_) b), 0, rfl, H79.gr, H79.retRow 1 rfl, H79.retDeep 1 rfl 0 rfl (fun b hb => hb.elim (hS b) (H50.newRow 1 rfl b)), H79.getImm 0 rfl, (dir_yes (items_brk hgo (by omega) hx35 hc51) hc80)⟩
  ·have hc51 : (((rdItem rq).2).2) = false := (notT (notF hc51))
   refine W_skip (Blk_n (Then_n (W_reg ?_)))
   refine O_v rfl (R_arith (a := (k : Int)) (b := 1) (r0 := (k : Int) + 1) (r := ((k + 1 : Nat) : Int)) rfl rfl rfl (wrapN _ (by omega)) ?_)
   refine O_mv (v := (.int .i64 ((k + 1 : Nat) : Int))) rfl rfl ?_
   refine O_nil (Then_n ?_)
   have H83 := H50.freeze 1 rfl (fun _ => rfl)
   have H84 := H83.deepSnoc 1 rfl 0 rfl (x33) rfl rfl
   have H85 := H84.sub (List.Sublist.cons _ (List.Sublist.cons_cons _ (List.Sublist.cons_cons _ List.Sublist.slnil))) (List.forall_mem_cons.2 ⟨List.mem_of_getElem? (i := 0) rfl, List.forall_mem_cons.2 ⟨List.mem_of_getElem? (i := 3) rfl, List.forall_mem_cons.2 ⟨List.mem_of_getElem? (i := 4) rfl, memN⟩⟩⟩)
   refine ⟨_, ?_, (k + 1), (acc ++ ([x33] : List ItemS)), (fun b => S b ∨ (fun z_ => (slV x33.hh x33.heads).ownBlock = some z_) b), r45, ((rdItem rq).2), h41, rfl, (by omega), hm, (by simp only [List.length_append, List.length_cons, List.length_nil]; omega), (fun b hb => hb.elim (hS b) (H50.newRow 1 rfl b)), hr49, (items_next hgo (by omega) hx35 hc51), _, envL_self ⟨rfl, rfl, rfl, rfl, rfl, rfl, trivial⟩, H85⟩
   omega
 ·have hc26 := (of_decide_eq_false hc26)
  refine W_exit (Then_x (Then_x (Blk_x (Then_n (W_seq (W_seq ?_))))))
  refine W_rgM (fun c => c = b2) (fun i => if i == 1 then 1 else 0) [(0, .q 2), (1, .c 1), (2, .q 2), (3, .q 2), (4, .q 2), (5, .q 0), (6, .q 2), (7, .q 2)] (by kernel_rfl) ?_
  refine Lx_mv (v := (.pointer (some ⟨b2, 0, none⟩))) rfl rfl rfl ?_
  refine Lx_c rfl rfl (fun w88 hw89 => ?_)
  have H90 := H25.ext hw89
  refine (R_callL (vs := [(.pointer (some ⟨b2, 0, none⟩))]) cF49 rfl rfl ((Reader_Done b2 rr S4 rq w88 ((H90.pick (B' := [boxR b2 132 (rdCh rr)]) (I' := [slI S4 encB 1 rr.bh rr.b]) [1] (by decide) rfl (List.forall_mem_cons.2 ⟨List.mem_of_getElem? (i := 1) rfl, fun _ h => (nomatch h)⟩)).rdStart) hrr).ret ?_))
  rintro _ w92 ⟨r91, rfl, hg93, hQ94, hr95⟩
  have H96 := H90.rdUpd (r := rr) 1 1 rfl rfl hg93 hQ94
  refine ⟨hg93, ?_⟩
  refine Lx_q rfl rfl _ (fun v97 hv98 => R_not rfl qk) (Lx_mv (v := (.bool (!(rdDone rq)))) rfl rfl rfl (Lx_qf rfl rfl rfl rfl rfl _ (fun hA v101 hv102 => R_move (v := (slV h20 acc)) rfl qk) (Lx_qf rfl rfl rfl rfl rfl (.bool (dirOk acc)) (fun hA v103 hv104 => R_callL (vs := [(slV h20 acc)]) cF38 rfl (lst1 (gv_t hA)) (obj_rightDir h20 acc v103 ((H96.ext hv104).rowSl 0 rfl (fun _ => rfl)) ((H96.ext hv104).deepOld 0 rfl))) ?_)))
  refine Lx_qf rfl rfl rfl rfl rfl _ (fun hA v105 hv106 => R_not (gv_t hA) qk) (Lx_q rfl rfl _ (fun v107 hv108 => R_pick rfl pk_or qk) ?_)
  refine Lx_nil (fun w109 hw110 => ?_)
  have H111 := H96.ext hw110
  refine Then_n ?_
  refine W_cond rfl (fun hc112 => ?_) (fun hc112 => ?_)
  ·have hc112 : ((rdDone rq) = false ∨ (dirOk acc) = false) := (Or.imp (fun h => (notT h)) (fun h => (notT h)) (orT hc112))
   refine W_seq (W_reg ?_)
   refine O_as (v := (.slice none 0 0)) rfl rfl (O_as (v := (.int .i64 20)) rfl rfl ?_)
   refine O_nil (Then_n (W_ret (Then_r ?_)))
   refine ret_2 (v := (.slice none 0 0)) (v' := (.int .i64 20)) Tryz.results17 rfl rfl ?_
   have H113 := H111.addNil 77 38 itemCh
   have H114 := H113.deepNil headCh 34 (fun x : ItemS => x.hh) (fun x : ItemS => x.heads)
   exact ⟨nilH, ([] : List ItemS), nob, 20, rfl, H114.gr, H114.retRow 0 rfl, H114.retDeep 0 rfl 0 rfl (fun _ h => h.elim), H114.getImm 0 rfl, (dir_no (items_end hgo (by omega)) hc112)⟩
  ·have hc112 : ((rdDone rq) = true ∧ (dirOk acc) = true) := (And.imp (fun h => (notF h)) (fun h => (notF h)) (orF hc112))
   refine W_skip (Then_n (W_seq (W_reg ?_)))
   refine O_mv (v := (slV h20 acc)) rfl rfl (O_as (v := (slV h20 acc)) rfl rfl (O_as (v := (.int .i64 0)) rfl rfl ?_))
   refine O_nil (Then_n (W_ret ?_))
   refine ret_2 (v := (slV h20 acc)) (v' := (.int .i64 0)) Tryz.results17 rfl rfl ?_
   exact ⟨h20, acc, S, 0, rfl, H111.gr, H111.retRow 0 rfl, H111.retDeep 0 rfl 0 rfl hS, H111.getImm 0 rfl, (dir_yes (items_end hgo (by omega)) hc112)⟩
set_option maxHeartbeats 1000000 in
theorem obj_rightLabel (l : Label) (w : World) :
    Calls Tryz.prog 70 #[(aggOf (labelCh l))] w (Ret fun v w' => v = (.bool (labelOk l)) ∧ Ext w w') := by
 refine calls_W Tryz.func70 rfl Tryz.ntmps70 rfl ?_
 have H0 := Ctx.start w nob
 refine W_seq (W_reg ?_)
 refine O_v rfl (C_box H0 [(idCells l.target), [(.string l.name)], [(.string l.msg)]] rfl ?_)
 intro b1 w2 hb3 hx4 H5
 refine O_as (v := (.bool false)) rfl rfl ?_
 refine O_nil (Then_n (W_seq ?_))
 refine W_rg [(0, .q 0), (1, .q 0), (2, .q 0), (3, .q 0), (4, .q 0), (5, .q 0), (6, .q 0), (7, .q 0), (8, .q 0), (9, .q 0), (10, .q 0), (11, .q 0), (12, .q 0), (13, .q 0), (14, .q 0), (15, .q 0)] (by kernel_rfl) ?_
 refine Lx_q rfl rfl _ (fun v6 hv7 => R_fieldAddr (off := 0) (oo := 0) Tryz.underlying55 rfl rfl Tryz.sizeOf45 rfl rfl qk) (Lx_q rfl rfl _ (fun v8 hv9 => R_loadA (cs := [(idCells l.target)]) Tryz.isAgg45 Tryz.sizeOf45 rfl rfl ((H5.ext hv9).bx 0 rfl 0 1 0 0 _ rfl rfl rfl) qk) (Lx_q rfl rfl _ (fun v10 hv11 => R_buildL (vs := []) (v := aggOf [(idCells zeroId)]) rfl (fun _ => by kernel_rfl) qk) (Lx_q rfl rfl _ (fun v12 hv13 => R_nev (a := l.target) (b := zeroId) eqv_ID45 rfl Tryz.eqGuardType45 rfl rfl qk) ?_)))
 refine Lx_mv (v := (.bool (!(decide (l.target = zeroId))))) rfl rfl rfl (Lx_qt rfl rfl rfl rfl rfl _ (fun hA v16 hv17 => R_fieldAddr (off := 32) (oo := 32) Tryz.underlying55 rfl rfl Tryz.sizeOf9 rfl rfl qk) (Lx_qt rfl rfl rfl rfl rfl _ (fun hA v18 hv19 => R_load1 (v := (.string l.name)) Tryz.isAgg9 (gv_t hA) ((H5.ext hv19).bx 0 rfl 1 1 32 32 _ rfl rfl rfl) qk) (Lx_qt rfl rfl rfl rfl rfl (.bool (nameOk l.name)) (fun hA v20 hv21 => R_callL (vs := [(.string l.name)]) cF108 rfl (lst1 (gv_t hA)) (stamp_Name l.name v20 )) ?_)))
 refine Lx_q rfl rfl _ (fun v22 hv23 => R_pick rfl pk_and qk) (Lx_mv (v := (.bool ((!(decide (l.target = zeroId))) && (nameOk l.name)))) rfl rfl rfl (Lx_qt rfl rfl rfl rfl rfl _ (fun hA v26 hv27 => R_fieldAddr (off := 33) (oo := 33) Tryz.underlying55 rfl rfl Tryz.sizeOf9 rfl rfl qk) (Lx_qt rfl rfl rfl rfl rfl _ (fun hA v28 hv29 => R_load1 (v := (.string l.msg)) Tryz.isAgg9 (gv_t hA) ((H5.ext hv29).bx 0 rfl 2 1 33 33 _ rfl rfl rfl) qk) ?_)))
 refine Lx_qt rfl rfl rfl rfl rfl _ (fun hA v30 hv31 => R_len_string Tryz.underlying9 (gv_t hA) qk) (Lx_qt rfl rfl rfl rfl rfl _ (fun hA v32 hv33 => R_cmp (a := (l.msg.size : Int)) (b := 200) (r := (decide ((l.msg.size : Int) ≤ 200))) (gv_t hA) rfl rfl qk) (Lx_q rfl rfl _ (fun v34 hv35 => R_pick rfl pk_and qk) (Lx_q rfl rfl _ (fun v36 hv37 => R_assign (v := (.bool (((!(decide (l.target = zeroId))) && (nameOk l.name)) && (decide ((l.msg.size : Int) ≤ 200))))) rfl qk) ?_)))
 refine Lx_nil (fun w38 hw39 => ?_)
 have H40 := H5.ext hw39
 refine Then_n (W_ret ?_)
 refine ret_1 (v := (.bool (((!(decide (l.target = zeroId))) && (nameOk l.name)) && (decide ((l.msg.size : Int) ≤ 200))))) Tryz.results70 rfl ?_
 exact ⟨label_eq, H40.gr⟩
theorem cF70 : callable Tryz.prog 70 = true := by kernel_rfl
set_option maxHeartbeats 1000000 in
theorem obj_Label (hb : SlH) (b : List UInt8) (w : World) (Sb : Sl (Old w) encB 1 hb b w) (hl : b.length ≤ 140737488355328) :
    Calls Tryz.prog 30 #[(slV hb b)] w (Ret fun v w' => v = .tuple #[(aggOf (labelCh ((labelOf b).1))), (.int .i64 ((labelOf b).2))] ∧ Ext w w') := by
 refine calls_W Tryz.func30 rfl Tryz.ntmps30 rfl ?_
 have H0 := Ctx.start w nob
 have H1 := H0.addSl _ Sb (fun b hb => ⟨hb, fun _ ho => (nomatch ho)⟩)
 have LSb := Sb.len
 refine W_seq (W_reg ?_)
 refine O_v rfl (C_alloc H1 [(idCells zeroId), [(.string ByteArray.empty)], [(.string ByteArray.empty)]] Tryz.zeroValue55 ?_)
 intro b2 w3 hb4 hx5 H6
 refine O_as (v := (.int .i64 0)) rfl rfl ?_
 refine O_nil (Then_n (W_seq (W_reg ?_)))
 refine O_mv (v := (slV hb b)) rfl rfl ?_
 refine O_v rfl (R_callL (vs := [(slV hb b), (.int .u8 4)]) cF45 rfl rfl ((obj_open hb b 4 w3 (H6.slOld 0 rfl) (by omega)).ret ?_))
 rintro _ w10 ⟨b7, r8, S9, rfl, hx11, hb12, hS13, hQ14, hr15⟩
 have H16 := H6.addRd hx11 hb12 hS13 hQ14
 refine O_as (v := (.pointer (some ⟨b7, 0, none⟩))) rfl rfl ?_
 refine O_nil (Then_n (W_seq (W_reg ?_)))
 refine O_mv (v := (.pointer (some ⟨b7, 0, none⟩))) rfl rfl ?_
 refine O_v rfl (R_callL (vs := [(.pointer (some ⟨b7, 0, none⟩))]) cF63 rfl rfl ((Reader_Id b7 r8 S9 (openSt b 4) w10 ((H16.pick (B' := [boxR b7 132 (rdCh r8)]) (I' := [slI S9 encB 1 r8.bh r8.b]) [0] (by decide) rfl (List.forall_mem_cons.2 ⟨List.mem_of_getElem? (i := 0) rfl, fun _ h => (nomatch h)⟩)).rdStart) hr15).ret ?_))
 rintro _ w18 ⟨r17, rfl, hg19, hQ20, hr21⟩
 have H22 := H16.rdUpd (r := r8) 0 0 rfl rfl hg19 hQ20
 refine O_v rfl (R_buildL (vs := [(0, (aggOf (idCh ((rdId (openSt b 4)).1))))]) (v := aggOf [(idCells ((rdId (openSt b 4)).1)), [(.string ByteArray.empty)], [(.string ByteArray.empty)]]) rfl (fun _ => by kernel_rfl) ?_)
 refine O_v rfl (C_alloc H22 [(idCells zeroId), [(.string ByteArray.empty)], [(.string ByteArray.empty)]] Tryz.zeroValue55 ?_)
 intro b23 w24 hb25 hx26 H27
 refine O_u (C_storeW H27 0 rfl (sub := [(idCells ((rdId (openSt b 4)).1)), [(.string ByteArray.empty)], [(.string ByteArray.empty)]]) Tryz.sizeOf55 rfl rfl rfl rfl rfl ?_)
 intro w28 hg29 H30
 refine O_nil (Then_n (W_seq (W_reg ?_)))
 refine O_mv (v := (.pointer (some ⟨b7, 0, none⟩))) rfl rfl ?_
 refine O_v rfl (R_callL (vs := [(.pointer (some ⟨b7, 0, none⟩)), (.int .i64 60)]) cF65 rfl rfl ((Reader_Text b7 r17 S9 ((rdId (openSt b 4)).2) 60 w28 ((H30.pick (B' := [boxR b7 132 (rdCh r17)]) (I' := [slI S9 encB 1 r17.bh r17.b]) [1] (by decide) rfl (List.forall_mem_cons.2 ⟨List.mem_of_getElem? (i := 0) rfl, fun _ h => (nomatch h)⟩)).rdStart) hr21).ret ?_))
 rintro _ w32 ⟨r31, rfl, hg33, hQ34, hr35⟩
 have H36 := H30.rdUpd (r := r17) 1 0 rfl rfl hg33 hQ34
 refine O_v rfl (R_fieldAddr (off := 32) (oo := 32) Tryz.underlying55 rfl rfl Tryz.sizeOf9 rfl rfl ?_)
 refine O_u (C_store1 H36 0 rfl 1 (v := (.string ((rdText ((rdId (openSt b 4)).2) 60).1))) [(idCells ((rdId (openSt b 4)).1)), [(.string ((rdText ((rdId (openSt b 4)).2) 60).1))], [(.string ByteArray.empty)]] Tryz.sizeOf9 rfl rfl rfl rfl rfl rfl rfl ?_)
 intro w37 hg38 H39
 refine O_nil (Then_n (W_seq (W_reg ?_)))
 refine O_mv (v := (.pointer (some ⟨b7, 0, none⟩))) rfl rfl ?_
 refine O_v rfl (R_callL (vs := [(.pointer (some ⟨b7, 0, none⟩)), (.int .i64 200)]) cF65 rfl rfl ((Reader_Text b7 r31 S9 ((rdText ((rdId (openSt b 4)).2) 60).2) 200 w37 ((H39.pick (B' := [boxR b7 132 (rdCh r31)]) (I' := [slI S9 encB 1 r31.bh r31.b]) [1] (by decide) rfl (List.forall_mem_cons.2 ⟨List.mem_of_getElem? (i := 0) rfl, fun _ h => (nomatch h)⟩)).rdStart) hr35).ret ?_))
 rintro _ w41 ⟨r40, rfl, hg42, hQ43, hr44⟩
 have H45 := H39.rdUpd (r := r31) 1 0 rfl rfl hg42 hQ43
 refine O_v rfl (R_fieldAddr (off := 33) (oo := 33) Tryz.underlying55 rfl rfl Tryz.sizeOf9 rfl rfl ?_)
 refine O_u (C_store1 H45 0 rfl 2 (v := (.string ((rdText ((rdText ((rdId (openSt b 4)).2) 60).2) 200).1))) [(idCells ((rdId (openSt b 4)).1)), [(.string ((rdText ((rdId (openSt b 4)).2) 60).1))], [(.string ((rdText ((rdText ((rdId (openSt b 4)).2) 60).2) 200).1))]] Tryz.sizeOf9 rfl rfl rfl rfl rfl rfl rfl ?_)
 intro w46 hg47 H48
 refine O_nil (Then_n (W_seq (W_seq ?_)))
 refine W_rgM (fun c => c = b7) (fun i => if i == 1 then 1 else 0) [(0, .q 2), (1, .c 1), (2, .q 2), (3, .q 2), (4, .q 1), (5, .q 0), (6, .q 2), (7, .q 2)] (by kernel_rfl) ?_
 refine Lx_mv (v := (.pointer (some ⟨b7, 0, none⟩))) rfl rfl rfl ?_
 refine Lx_c rfl rfl (fun w51 hw52 => ?_)
 have H53 := H48.ext hw52
 refine (R_callL (vs := [(.pointer (some ⟨b7, 0, none⟩))]) cF49 rfl rfl ((Reader_Done b7 r40 S9 ((rdText ((rdText ((rdId (openSt b 4)).2) 60).2) 200).2) w51 ((H53.pick (B' := [boxR b7 132 (rdCh r40)]) (I' := [slI S9 encB 1 r40.bh r40.b]) [1] (by decide) rfl (List.forall_mem_cons.2 ⟨List.mem_of_getElem? (i := 0) rfl, fun _ h => (nomatch h)⟩)).rdStart) hr44).ret ?_))
 rintro _ w55 ⟨r54, rfl, hg56, hQ57, hr58⟩
 have H59 := H53.rdUpd (r := r40) 1 0 rfl rfl hg56 hQ57
 refine ⟨hg56, ?_⟩
 refine Lx_q rfl rfl _ (fun v60 hv61 => R_not rfl qk) (Lx_mv (v := (.bool (!(rdDone ((rdText ((rdText ((rdId (openSt b 4)).2) 60).2) 200).2))))) rfl rfl rfl (Lx_qf rfl rfl rfl rfl rfl _ (fun hA v64 hv65 => R_loadA (cs := [(idCells ((rdId (openSt b 4)).1)), [(.string ((rdText ((rdId (openSt b 4)).2) 60).1))], [(.string ((rdText ((rdText ((rdId (openSt b 4)).2) 60).2) 200).1))]]) Tryz.isAgg55 Tryz.sizeOf55 rfl rfl ((boxR_at (H59.ownGr 0 1 (by decide) rfl rfl hv65 (fun _ h => congrArg some h.symm))).chunks 0 3 0 0 _ rfl rfl rfl) qk) (Lx_qf rfl rfl rfl rfl rfl (.bool (labelOk ({ target := (rdId (openSt b 4)).1, name := (rdText ((rdId (openSt b 4)).2) 60).1, msg := (rdText ((rdText ((rdId (openSt b 4)).2) 60).2) 200).1 } : Label))) (fun hA v66 hv67 => R_callL (vs := [(aggOf [(idCells ((rdId (openSt b 4)).1)), [(.string ((rdText ((rdId (openSt b 4)).2) 60).1))], [(.string ((rdText ((rdText ((rdId (openSt b 4)).2) 60).2) 200).1))]])]) cF70 rfl (lst1 (gv_t hA)) (obj_rightLabel ({ target := (rdId (openSt b 4)).1, name := (rdText ((rdId (openSt b 4)).2) 60).1, msg := (rdText ((rdText ((rdId (openSt b 4)).2) 60).2) 200).1 } : Label) v66 )) ?_)))
 refine Lx_qf rfl rfl rfl rfl rfl _ (fun hA v68 hv69 => R_not (gv_t hA) qk) (Lx_q rfl rfl _ (fun v70 hv71 => R_pick rfl pk_or qk) ?_)
 refine Lx_nil (fun w72 hw73 => ?_)
 have H74 := H59.ext hw73
 refine Then_n ?_
 refine W_cond rfl (fun hc75 => ?_) (fun hc75 => ?_)
 ·have hc75 : ((rdDone ((rdText ((rdText ((rdId (openSt b 4)).2) 60).2) 200).2)) = false ∨ (labelOk ({ target := (rdId (openSt b 4)).1, name := (rdText ((rdId (openSt b 4)).2) 60).1, msg := (rdText ((rdText ((rdId (openSt b 4)).2) 60).2) 200).1 } : Label)) = false) := (Or.imp (fun h => (notT h)) (fun h => (notT h)) (orT hc75))
  refine W_seq (W_reg ?_)
  refine O_v rfl (R_buildL (vs := []) (v := aggOf [(idCells zeroId), [(.string ByteArray.empty)], [(.string ByteArray.empty)]]) rfl (fun _ => by kernel_rfl) ?_)
  refine O_u (C_storeW H74 2 rfl (sub := [(idCells zeroId), [(.string ByteArray.empty)], [(.string ByteArray.empty)]]) Tryz.sizeOf55 rfl rfl rfl rfl rfl ?_)
  intro w76 hg77 H78
  refine O_as (v := (.int .i64 20)) rfl rfl ?_
  refine O_nil (Then_n (W_ret (Then_r ?_)))
  refine ret_ct (v := (.int .i64 20)) Tryz.results30 (inMem (cs := [(idCells zeroId), [(.string ByteArray.empty)], [(.string ByteArray.empty)]]) rfl Tryz.isAgg55 Tryz.sizeOf55 rfl (boxR_at (H78.getOwn 2 rfl))) rfl ?_
  exact ⟨(labelOf_f (by assumption)), H78.gr⟩
 ·have hc75 : ((rdDone ((rdText ((rdText ((rdId (openSt b 4)).2) 60).2) 200).2)) = true ∧ (labelOk ({ target := (rdId (openSt b 4)).1, name := (rdText ((rdId (openSt b 4)).2) 60).1, msg := (rdText ((rdText ((rdId (openSt b 4)).2) 60).2) 200).1 } : Label)) = true) := (And.imp (fun h => (notF h)) (fun h => (notF h)) (orF hc75))
  refine W_skip (Then_n (W_seq (W_reg ?_)))
  refine O_v rfl (R_loadA (cs := [(idCells ((rdId (openSt b 4)).1)), [(.string ((rdText ((rdId (openSt b 4)).2) 60).1))], [(.string ((rdText ((rdText ((rdId (openSt b 4)).2) 60).2) 200).1))]]) Tryz.isAgg55 Tryz.sizeOf55 rfl rfl (H74.bx 0 rfl 0 3 0 0 _ rfl rfl rfl) ?_)
  refine O_u (C_storeW H74 2 rfl (sub := [(idCells ((rdId (openSt b 4)).1)), [(.string ((rdText ((rdId (openSt b 4)).2) 60).1))], [(.string ((rdText ((rdText ((rdId (openSt b 4)).2) 60).2) 200).1))]]) Tryz.sizeOf55 rfl rfl rfl rfl rfl ?_)
  intro w79 hg80 H81
  refine O_as (v := (.int .i64 0)) rfl rfl ?_
  refine O_nil (Then_n (W_ret ?_))
  refine ret_ct (v := (.int .i64 0)) Tryz.results30 (inMem (cs := [(idCells ((rdId (openSt b 4)).1)), [(.string ((rdText ((rdId (openSt b 4)).2) 60).1))], [(.string ((rdText ((rdText ((rdId (openSt b 4)).2) 60).2) 200).1))]]) rfl Tryz.isAgg55 Tryz.sizeOf55 rfl (boxR_at (H81.getOwn 2 rfl))) rfl ?_
  exact ⟨(labelOf_t (by assumption)), H81.gr⟩
theorem cF11 : callable Tryz.prog 11 = true := by kernel_rfl
theorem cF17 : callable Tryz.prog 17 = true := by kernel_rfl
theorem cF25 : callable Tryz.prog 25 = true := by kernel_rfl
theorem cF30 : callable Tryz.prog 30 = true := by kernel_rfl
set_option maxHeartbeats 2000000 in
theorem obj_Kind (hb : SlH) (b : List UInt8) (w : World) (Sb : Sl (Old w) encB 1 hb b w) (hl : b.length ≤ 140737488355328) :
    Calls Tryz.prog 14 #[(slV hb b)] w (Ret fun v w' => v = (.int .i64 (kindOf b)) ∧ Ext w w') := by
 refine calls_W Tryz.func14 rfl Tryz.ntmps14 rfl ?_
 have H0 := Ctx.start w nob
 have H1 := H0.addSl _ Sb (fun b hb => ⟨hb, fun _ ho => (nomatch ho)⟩)
 have LSb := Sb.len
 refine W_seq (W_reg ?_)
 refine O_as (v := (.int .i64 0)) rfl rfl ?_
 refine O_nil (Then_n (W_seq (W_seq (W_reg ?_))))
 refine O_mv (v := (slV hb b)) rfl rfl ?_
 refine O_v rfl (R_len_slice (a := hb.a) (n := b.length) (c := hb.c) Tryz.underlying22 rfl ?_)
 refine O_v rfl (R_cmp (a := (b.length : Int)) (b := 0) (r := (decide ((b.length : Int) = 0))) rfl rfl rfl ?_)
 refine O_nil (Then_n ?_)
 refine W_cond rfl (fun hc2 => ?_) (fun hc2 => ?_)
 ·have hc2 := (of_decide_eq_true hc2)
  refine W_seq (W_reg ?_)
  refine O_as (v := (.int .i64 0)) rfl rfl ?_
  refine O_nil (Then_n (W_ret (Then_r ?_)))
  refine ret_1 (v := (.int .i64 0)) Tryz.results14 rfl ?_
  exact ⟨(by rw [kind_0 (by assumption)]), H1.gr⟩
 ·have hc2 := (of_decide_eq_false hc2)
  refine W_skip (Then_n (W_seq (W_reg ?_)))
  refine O_as (v := (.int .i64 20)) rfl rfl ?_
  refine O_nil (Then_n (W_seq (W_seq (W_reg ?_))))
  refine O_mv (v := (slV hb b)) rfl rfl ?_
  refine O_v rfl (R_index_pure (H1.sl 0 rfl) (n := b.length) rfl (j := 0) (oo := (hb.o + 0 * 1)) Tryz.underlying22 Tryz.sizeOf5 rfl rfl (by omega) (by omega) rfl ?_)
  refine O_v rfl (R_load1 (v := (.int .u8 ((nth b 0).toNat : Int))) Tryz.isAgg5 rfl ((Sl.elem (H1.sl 0 rfl) (i := 0) (by omega) rfl).chunks 0 1 0 (hb.o + 0 * 1) _ rfl rfl rfl) ?_)
  refine O_nil (Then_n (W_block (W_seq (W_reg ?_))))
  refine O_v rfl (R_cmp (a := ((nth b 0).toNat : Int)) (b := 1) (r := (decide (((nth b 0).toNat : Int) = 1))) rfl rfl rfl ?_)
  refine O_as (v := (.bool (decide (((nth b 0).toNat : Int) = 1)))) rfl rfl ?_
  refine O_nil (Then_n ?_)
  refine W_cond rfl (fun hc3 => ?_) (fun hc3 => ?_)
  ·have hc3 := (of_decide_eq_true hc3)
   refine W_reg ?_
   refine O_mv (v := (slV hb b)) rfl rfl ?_
   refine O_v rfl (R_callL (vs := [(slV hb b)]) cF11 rfl rfl ((obj_Blob hb b w (H1.slOld 0 rfl)).ret ?_))
   rintro _ w5 ⟨h4, rfl, hx6, ho7⟩
   have H8 := H1.addRow hx6 ho7
   refine O_mv (v := (.tuple #[(slV h4 (blobB b)), (.int .i64 (blobE b))])) rfl rfl (O_ex (v := (slV h4 (blobB b))) rfl rfl rfl (O_ex (v := (.int .i64 (blobE b))) rfl rfl rfl (O_as (v := (.int .i64 (blobE b))) rfl rfl ?_)))
   refine O_nil (Blk_n (Then_n (W_seq (W_seq (W_reg ?_)))))
   refine O_mv (v := (.int .i64 (blobE b))) rfl rfl ?_
   refine O_v rfl (R_cmp (a := blobE b) (b := 0) (r := (!(decide (blobE b = 0)))) rfl rfl rfl ?_)
   refine O_nil (Then_n ?_)
   refine W_cond rfl (fun hc9 => ?_) (fun hc9 => ?_)
   ·have hc9 : ¬ (blobE b = 0) := (of_decide_eq_false (notT hc9))
    refine W_seq (W_reg ?_)
    refine O_as (v := (.int .i64 0)) rfl rfl ?_
    refine O_nil (Then_n (W_ret (Then_r ?_)))
    refine ret_1 (v := (.int .i64 0)) Tryz.results14 rfl ?_
    exact ⟨(by rw [(kind_1 (by assumption) (by assumption)), if_neg (fun e0 => hc9 (e0))]), H8.gr⟩
   ·have hc9 : (blobE b = 0) := (of_decide_eq_true (notF hc9))
    refine W_skip (Then_n (W_seq (W_reg ?_)))
    refine O_mv (v := (slV hb b)) rfl rfl ?_
    refine O_v rfl (R_index_pure (H8.sl 0 rfl) (n := b.length) rfl (j := 0) (oo := (hb.o + 0 * 1)) Tryz.underlying22 Tryz.sizeOf5 rfl rfl (by omega) (by omega) rfl ?_)
    refine O_v rfl (R_load1 (v := (.int .u8 ((nth b 0).toNat : Int))) Tryz.isAgg5 rfl ((Sl.elem (H8.sl 0 rfl) (i := 0) (by omega) rfl).chunks 0 1 0 (hb.o + 0 * 1) _ rfl rfl rfl) ?_)
    refine O_v rfl (R_conv_int (a := ((nth b 0).toNat : Int)) (r := ((nth b 0).toNat : Int)) Tryz.underlying5 Tryz.underlying3 rfl (w64 _ (by have := u8_lt (nth b 0); omega)) ?_)
    refine O_as (v := (.int .i64 ((nth b 0).toNat : Int))) rfl rfl ?_
    refine O_nil (Then_n (W_ret ?_))
    refine ret_1 (v := (.int .i64 ((nth b 0).toNat : Int))) Tryz.results14 rfl ?_
    exact ⟨(by rw [(kind_1 (by assumption) (by assumption)), if_pos (hc9)]; exact congrArg (Value.int .i64) (by omega)), H8.gr⟩
  ·have hc3 := (of_decide_eq_false hc3)
   refine W_seq (W_reg ?_)
   refine O_v rfl (R_cmp (a := ((nth b 0).toNat : Int)) (b := 2) (r := (decide (((nth b 0).toNat : Int) = 2))) rfl rfl rfl ?_)
   refine O_as (v := (.bool (decide (((nth b 0).toNat : Int) = 2)))) rfl rfl ?_
   refine O_nil (Then_n ?_)
   refine W_cond rfl (fun hc10 => ?_) (fun hc10 => ?_)
   ·have hc10 := (of_decide_eq_true hc10)
    refine W_reg ?_
    refine O_mv (v := (slV hb b)) rfl rfl ?_
    refine O_v rfl (R_callL (vs := [(slV hb b)]) cF17 rfl rfl ((obj_Dir hb b w (H1.slOld 0 rfl) (by omega)).ret ?_))
    rintro _ w14 ⟨h11, l12, S13, e21, rfl, hx15, ho16, hS17, hd18, hr19⟩
    have H20 := H1.addRowDeep (h := fun x : ItemS => x.hh) (f := fun x : ItemS => x.heads) hx15 ho16 hS17 hd18
    refine O_mv (v := (.tuple #[(slV h11 l12), (.int .i64 e21)])) rfl rfl (O_ex (v := (slV h11 l12)) rfl rfl rfl (O_ex (v := (.int .i64 e21)) rfl rfl rfl (O_as (v := (.int .i64 e21)) rfl rfl ?_)))
    refine O_nil (Blk_n (Then_n (W_seq (W_seq (W_reg ?_)))))
    refine O_mv (v := (.int .i64 e21)) rfl rfl ?_
    refine O_v rfl (R_cmp (a := e21) (b := 0) (r := (!(decide (e21 = 0)))) rfl rfl rfl ?_)
    refine O_nil (Then_n ?_)
    refine W_cond rfl (fun hc22 => ?_) (fun hc22 => ?_)
    ·have hc22 : ¬ (e21 = 0) := (of_decide_eq_false (notT hc22))
     refine W_seq (W_reg ?_)
     refine O_as (v := (.int .i64 0)) rfl rfl ?_
     refine O_nil (Then_n (W_ret (Then_r ?_)))
     refine ret_1 (v := (.int .i64 0)) Tryz.results14 rfl ?_
     exact ⟨(by rw [(kind_2 (by assumption) (by assumption) (by assumption)), if_neg (fun e0 => hc22 ((congrArg Prod.snd hr19).trans e0))]), H20.gr⟩
    ·have hc22 : (e21 = 0) := (of_decide_eq_true (notF hc22))
     refine W_skip (Then_n (W_seq (W_reg ?_)))
     refine O_mv (v := (slV hb b)) rfl rfl ?_
     refine O_v rfl (R_index_pure (H20.sl 1 rfl) (n := b.length) rfl (j := 0) (oo := (hb.o + 0 * 1)) Tryz.underlying22 Tryz.sizeOf5 rfl rfl (by omega) (by omega) rfl ?_)
     refine O_v rfl (R_load1 (v := (.int .u8 ((nth b 0).toNat : Int))) Tryz.isAgg5 rfl ((Sl.elem (H20.sl 1 rfl) (i := 0) (by omega) rfl).chunks 0 1 0 (hb.o + 0 * 1) _ rfl rfl rfl) ?_)
     refine O_v rfl (R_conv_int (a := ((nth b 0).toNat : Int)) (r := ((nth b 0).toNat : Int)) Tryz.underlying5 Tryz.underlying3 rfl (w64 _ (by have := u8_lt (nth b 0); omega)) ?_)
     refine O_as (v := (.int .i64 ((nth b 0).toNat : Int))) rfl rfl ?_
     refine O_nil (Then_n (W_ret ?_))
     refine ret_1 (v := (.int .i64 ((nth b 0).toNat : Int))) Tryz.results14 rfl ?_
     exact ⟨(by rw [(kind_2 (by assumption) (by assumption) (by assumption)), if_pos ((congrArg Prod.snd hr19).symm.trans hc22)]; exact congrArg (Value.int .i64) (by omega)), H20.gr⟩
   ·have hc10 := (of_decide_eq_false hc10)
    refine W_seq (W_reg ?_)
    refine O_v rfl (R_cmp (a := ((nth b 0).toNat : Int)) (b := 3) (r := (decide (((nth b 0).toNat : Int) = 3))) rfl rfl rfl ?_)
    refine O_as (v := (.bool (decide (((nth b 0).toNat : Int) = 3)))) rfl rfl ?_
    refine O_nil (Then_n ?_)
    refine W_cond rfl (fun hc23 => ?_) (fun hc23 => ?_)
    ·have hc23 := (of_decide_eq_true hc23)
     refine W_reg ?_
     refine O_mv (v := (slV hb b)) rfl rfl ?_
     refine O_v rfl (R_callL (vs := [(slV hb b)]) cF25 rfl rfl ((obj_Change hb b w (H1.slOld 0 rfl) (by omega)).ret ?_))
     rintro _ w27 ⟨x24, S25, e26, rfl, hx28, hS29, hs30, hs31, hs32, hr33⟩
     have H35 := H1.addImm hx28 (slI S25 idCh 32 x24.ph x24.parents) hs30 hS29
     have H36 := H35.immOf 0 rfl (slI S25 opCh 41 x24.oh x24.ops) (fun _ h => h) (fun _ => hs31)
     have H37 := H36.immOf 0 rfl (deepI S25 stampCh 2 (fun x : OpS => x.oh) (fun x : OpS => x.over) x24.ops) (fun _ h => h) (fun _ => hs32)
     refine O_mv (v := (.tuple #[(aggOf (changeCh x24)), (.int .i64 e26)])) rfl rfl (O_ex (v := (aggOf (changeCh x24))) rfl rfl rfl (O_ex (v := (.int .i64 e26)) rfl rfl rfl (O_as (v := (.int .i64 e26)) rfl rfl ?_)))
     refine O_nil (Blk_n (Then_n (W_seq (W_seq (W_reg ?_)))))
     refine O_mv (v := (.int .i64 e26)) rfl rfl ?_
     refine O_v rfl (R_cmp (a := e26) (b := 0) (r := (!(decide (e26 = 0)))) rfl rfl rfl ?_)
     refine O_nil (Then_n ?_)
     refine W_cond rfl (fun hc38 => ?_) (fun hc38 => ?_)
     ·have hc38 : ¬ (e26 = 0) := (of_decide_eq_false (notT hc38))
      refine W_seq (W_reg ?_)
      refine O_as (v := (.int .i64 0)) rfl rfl ?_
      refine O_nil (Then_n (W_ret (Then_r ?_)))
      refine ret_1 (v := (.int .i64 0)) Tryz.results14 rfl ?_
      exact ⟨(by rw [(kind_3 (by assumption) (by assumption) (by assumption) (by assumption)), if_neg (fun e0 => hc38 ((congrArg Prod.snd hr33).trans e0))]), H37.gr⟩
     ·have hc38 : (e26 = 0) := (of_decide_eq_true (notF hc38))
      refine W_skip (Then_n (W_seq (W_reg ?_)))
      refine O_mv (v := (slV hb b)) rfl rfl ?_
      refine O_v rfl (R_index_pure (H37.sl 3 rfl) (n := b.length) rfl (j := 0) (oo := (hb.o + 0 * 1)) Tryz.underlying22 Tryz.sizeOf5 rfl rfl (by omega) (by omega) rfl ?_)
      refine O_v rfl (R_load1 (v := (.int .u8 ((nth b 0).toNat : Int))) Tryz.isAgg5 rfl ((Sl.elem (H37.sl 3 rfl) (i := 0) (by omega) rfl).chunks 0 1 0 (hb.o + 0 * 1) _ rfl rfl rfl) ?_)
      refine O_v rfl (R_conv_int (a := ((nth b 0).toNat : Int)) (r := ((nth b 0).toNat : Int)) Tryz.underlying5 Tryz.underlying3 rfl (w64 _ (by have := u8_lt (nth b 0); omega)) ?_)
      refine O_as (v := (.int .i64 ((nth b 0).toNat : Int))) rfl rfl ?_
      refine O_nil (Then_n (W_ret ?_))
      refine ret_1 (v := (.int .i64 ((nth b 0).toNat : Int))) Tryz.results14 rfl ?_
      exact ⟨(by rw [(kind_3 (by assumption) (by assumption) (by assumption) (by assumption)), if_pos ((congrArg Prod.snd hr33).symm.trans hc38)]; exact congrArg (Value.int .i64) (by omega)), H37.gr⟩
    ·have hc23 := (of_decide_eq_false hc23)
     refine W_seq (W_reg ?_)
     refine O_v rfl (R_cmp (a := ((nth b 0).toNat : Int)) (b := 4) (r := (decide (((nth b 0).toNat : Int) = 4))) rfl rfl rfl ?_)
     refine O_as (v := (.bool (decide (((nth b 0).toNat : Int) = 4)))) rfl rfl ?_
     refine O_nil (Then_n ?_)
     refine W_cond rfl (fun hc39 => ?_) (fun hc39 => ?_)
     ·have hc39 := (of_decide_eq_true hc39)
      refine W_reg ?_
      refine O_mv (v := (slV hb b)) rfl rfl ?_
      refine O_v rfl (R_callL (vs := [(slV hb b)]) cF30 rfl rfl ((obj_Label hb b w (H1.slOld 0 rfl) (by omega)).ret ?_))
      rintro _ w40 ⟨rfl, hx41⟩
      have H42 := H1.ext hx41
      refine O_mv (v := (.tuple #[(aggOf (labelCh ((labelOf b).1))), (.int .i64 ((labelOf b).2))])) rfl rfl (O_ex (v := (aggOf (labelCh ((labelOf b).1)))) rfl rfl rfl (O_ex (v := (.int .i64 ((labelOf b).2))) rfl rfl rfl (O_as (v := (.int .i64 ((labelOf b).2))) rfl rfl ?_)))
      refine O_nil (Blk_n (Then_n (W_seq (W_seq (W_reg ?_)))))
      refine O_mv (v := (.int .i64 ((labelOf b).2))) rfl rfl ?_
      refine O_v rfl (R_cmp (a := (labelOf b).2) (b := 0) (r := (!(decide ((labelOf b).2 = 0)))) rfl rfl rfl ?_)
      refine O_nil (Then_n ?_)
      refine W_cond rfl (fun hc43 => ?_) (fun hc43 => ?_)
      ·have hc43 : ¬ ((labelOf b).2 = 0) := (of_decide_eq_false (notT hc43))
       refine W_seq (W_reg ?_)
       refine O_as (v := (.int .i64 0)) rfl rfl ?_
       refine O_nil (Then_n (W_ret (Then_r ?_)))
       refine ret_1 (v := (.int .i64 0)) Tryz.results14 rfl ?_
       exact ⟨(by rw [(kind_4 (by assumption) (by assumption) (by assumption) (by assumption) (by assumption)), if_neg (fun e0 => hc43 (e0))]), H42.gr⟩
      ·have hc43 : ((labelOf b).2 = 0) := (of_decide_eq_true (notF hc43))
       refine W_skip (Then_n (W_seq (W_reg ?_)))
       refine O_mv (v := (slV hb b)) rfl rfl ?_
       refine O_v rfl (R_index_pure (H42.sl 0 rfl) (n := b.length) rfl (j := 0) (oo := (hb.o + 0 * 1)) Tryz.underlying22 Tryz.sizeOf5 rfl rfl (by omega) (by omega) rfl ?_)
       refine O_v rfl (R_load1 (v := (.int .u8 ((nth b 0).toNat : Int))) Tryz.isAgg5 rfl ((Sl.elem (H42.sl 0 rfl) (i := 0) (by omega) rfl).chunks 0 1 0 (hb.o + 0 * 1) _ rfl rfl rfl) ?_)
       refine O_v rfl (R_conv_int (a := ((nth b 0).toNat : Int)) (r := ((nth b 0).toNat : Int)) Tryz.underlying5 Tryz.underlying3 rfl (w64 _ (by have := u8_lt (nth b 0); omega)) ?_)
       refine O_as (v := (.int .i64 ((nth b 0).toNat : Int))) rfl rfl ?_
       refine O_nil (Then_n (W_ret ?_))
       refine ret_1 (v := (.int .i64 ((nth b 0).toNat : Int))) Tryz.results14 rfl ?_
       exact ⟨(by rw [(kind_4 (by assumption) (by assumption) (by assumption) (by assumption) (by assumption)), if_pos (hc43)]; exact congrArg (Value.int .i64) (by omega)), H42.gr⟩
     ·have hc39 := (of_decide_eq_false hc39)
      refine W_skip (Blk_n (Then_n (W_seq (W_seq (W_reg ?_)))))
      refine O_mv (v := (.int .i64 20)) rfl rfl ?_
      refine O_v rfl (R_cmp (a := 20) (b := 0) (r := (!(decide ((20 : Int) = 0)))) rfl rfl rfl ?_)
      refine O_nil (Then_n ?_)
      refine W_cond rfl (fun hc44 => ?_) (fun hc44 => ?_)
      ·have hc44 : ¬ ((20 : Int) = 0) := (of_decide_eq_false (notT hc44))
       refine W_seq (W_reg ?_)
       refine O_as (v := (.int .i64 0)) rfl rfl ?_
       refine O_nil (Then_n (W_ret (Then_r ?_)))
       refine ret_1 (v := (.int .i64 0)) Tryz.results14 rfl ?_
       exact ⟨(by rw [kind_5 (by assumption) (by assumption) (by assumption) (by assumption) (by assumption)]), H1.gr⟩
      ·have hc44 : ((20 : Int) = 0) := (of_decide_eq_true (notF hc44))
       refine W_skip (Then_n (W_seq (W_reg ?_)))
       refine O_mv (v := (slV hb b)) rfl rfl ?_
       refine O_v rfl (R_index_pure (H1.sl 0 rfl) (n := b.length) rfl (j := 0) (oo := (hb.o + 0 * 1)) Tryz.underlying22 Tryz.sizeOf5 rfl rfl (by omega) (by omega) rfl ?_)
       refine O_v rfl (R_load1 (v := (.int .u8 ((nth b 0).toNat : Int))) Tryz.isAgg5 rfl ((Sl.elem (H1.sl 0 rfl) (i := 0) (by omega) rfl).chunks 0 1 0 (hb.o + 0 * 1) _ rfl rfl rfl) ?_)
       refine O_v rfl (R_conv_int (a := ((nth b 0).toNat : Int)) (r := ((nth b 0).toNat : Int)) Tryz.underlying5 Tryz.underlying3 rfl (w64 _ (by have := u8_lt (nth b 0); omega)) ?_)
       refine O_as (v := (.int .i64 ((nth b 0).toNat : Int))) rfl rfl ?_
       refine O_nil (Then_n (W_ret ?_))
       refine ret_1 (v := (.int .i64 ((nth b 0).toNat : Int))) Tryz.results14 rfl ?_
       exact ⟨(absurd (by assumption : (20 : Int) = 0) (by decide)), H1.gr⟩
end Go.Proofs.YthjdhfoeckfmbaaGreat
namespace Go.Proofs.YthjdhfoeckfmbaaGreat
open Go
set_option maxRecDepth 100000
set_option linter.unusedVariables false
set_option linter.unusedSimpArgs false
set_option linter.unusedSectionVars false
variable [DD]
set_option maxHeartbeats 1000000 in
theorem Clone_ID (hs : SlH) (s : List ID) (w : World) (Ss : Sl (Old w) idCh 32 hs s w) (hl : s.length * 32 ≤ 140737488355328) :
    Calls Tryz.prog 53 #[(slV hs s)] w (Ret fun v w' => ∃ h, v = slV h (s) ∧ Ext w w' ∧ OwnS w.heap.size 45 32 idCh h (s) w') := by
 refine calls_W Tryz.func53 rfl Tryz.ntmps53 rfl ?_
 have H0 := Ctx.start w nob
 have H1 := H0.addSl _ Ss (fun b hb => ⟨hb, fun _ ho => (nomatch ho)⟩)
 have LSs := Ss.len
 refine W_seq (W_reg ?_)
 refine O_as (v := (.slice none 0 0)) rfl rfl ?_
 refine O_nil (Then_n (W_seq (W_seq (W_reg ?_))))
 refine O_mv (v := (slV hs s)) rfl rfl ?_
 refine O_v rfl (R_slice_nil (a := hs.a) Tryz.underlying39 rfl rfl ?_)
 refine O_nil (Then_n ?_)
 refine W_cond rfl (fun hc2 => ?_) (fun hc2 => ?_)
 ·have hc2 : hs.a.isNone = true := hc2
  refine W_seq (W_reg ?_)
  refine O_as (v := (.slice none 0 0)) rfl rfl ?_
  refine O_nil (Then_n (W_ret (Then_r ?_)))
  refine ret_1 (v := (.slice none 0 0)) Tryz.results53 rfl ?_
  have H3 := H1.addNil 45 32 idCh
  have hE : [] = s := (Sl.isNil Ss (by assumption)).symm
  refine ⟨nilH, ?_, H3.gr, ?_⟩
  · exact congrArg (fun l => slV nilH l) hE
  · have hO := H3.retRow 0 rfl
    exact hE ▸ hO
 ·have hc2 : hs.a.isNone = false := hc2
  refine W_skip (Then_n (W_seq (W_reg ?_)))
  refine O_v rfl (C_buildSliceL H1 (enc := idCh) (val := idV) ([] : List ID) Tryz.underlying39 Tryz.sizeOf45 Tryz.zeroValue45 rfl (by decide) (fun _ => rfl) (fun _ => rfl) rfl rfl (by decide) ?_)
  intro b4 w5 hb6 hx7 H8
  refine O_mv (v := (slV hs s)) rfl rfl ?_
  refine O_v rfl (C_append H8 0 rfl (bytes := 32) (l := ([] : List ID)) (ys := s) Tryz.underlying39 rfl rfl rfl rfl rfl (by decide) rfl rfl (H8.sl 0 rfl) (fun _ => rfl) (fun _ => rfl) (by simpa using hl) (by decide) ?_)
  intro h9 w10 hg11 H12
  refine O_as (v := (slV h9 (([] : List ID) ++ s))) rfl rfl ?_
  refine O_nil (Then_n (W_ret ?_))
  refine ret_1 (v := (slV h9 (([] : List ID) ++ s))) Tryz.results53 rfl ?_
  have hE : ([] : List ID) ++ s = s := List.nil_append _
  refine ⟨h9, ?_, H12.gr, ?_⟩
  · exact congrArg (fun l => slV h9 l) hE
  · have hO := H12.retRow 0 rfl
    exact hE ▸ hO
end Go.Proofs.YthjdhfoeckfmbaaGreat
namespace Go.Proofs.YthjdhfoeckfmbaaGreat
open Go
set_option linter.unusedVariables false
set_option linter.unusedSimpArgs false
structure Rdr {α : Type} (f : RSt → α × RSt) : Prop where
  bad : ∀ q, q.2 = true → (f q).2.2 = true
  more : ∀ l s, (f (l, false)).2.2 = false → f (l ++ s, false) = ((f (l, false)).1, ((f (l, false)).2.1 ++ s, false))
def Wr {α : Type} (f : RSt → α × RSt) (x : α) (b : List UInt8) : Prop := ∀ s, f (b ++ s, false) = (x, (s, false))
section
variable {α β : Type} {f : RSt → α × RSt} {g : α → RSt → β × RSt}
theorem Rdr.bind (F : Rdr f) (G : ∀ a, Rdr (g a)) : Rdr (fun q => g (f q).1 (f q).2) := by
  refine ⟨fun q h => (G _).bad _ (F.bad q h), fun l s h => ?_⟩
  have h1 : (f (l, false)).2.2 = false := by
    cases hb : (f (l, false)).2.2 with
    | false => rfl
    | true => rw [(G _).bad _ hb] at h; cases h
  have e := F.more l s h1
  have e2 : (f (l, false)).2 = ((f (l, false)).2.1, false) := Prod.ext rfl h1
  show g (f (l ++ s, false)).1 (f (l ++ s, false)).2 = _
  rw [e]
  have h' : (g (f (l, false)).1 ((f (l, false)).2.1, false)).2.2 = false := by rw [← e2]; exact h
  have e3 := (G (f (l, false)).1).more _ s h'
  rw [← e2] at e3
  exact e3
theorem Rdr.pure (x : α) : Rdr (fun q => (x, q)) := ⟨fun q h => h, fun l s _ => rfl⟩
theorem Wr.bind {a : α} {y : β} {b1 b2 : List UInt8} (F : Wr f a b1) (G : Wr (g a) y b2) : Wr (fun q => g (f q).1 (f q).2) y (b1 ++ b2) := by
  intro s
  show g (f (b1 ++ b2 ++ s, false)).1 (f (b1 ++ b2 ++ s, false)).2 = _
  rw [List.append_assoc, F (b2 ++ s)]
  exact G s
theorem Wr.pure (x : α) : Wr (fun q => (x, q)) x [] := fun s => rfl
end
theorem Rdr_take (n : Nat) : Rdr (fun q => rdTake q n) := by
  refine ⟨fun q h => by simp only [rdTake, if_pos (Or.inl h)], fun l s h => ?_⟩
  simp only [rdTake] at h ⊢
  by_cases hl : l.length < n
  · rw [if_pos (Or.inr hl)] at h; cases h
  · have h1 : ¬ (false = true ∨ l.length < n) := fun hh => hh.elim (fun e => nomatch e) hl
    have h2 : ¬ (false = true ∨ (l ++ s).length < n) := fun hh => hh.elim (fun e => nomatch e) (fun e => hl (by rw [List.length_append] at e; omega))
    rw [if_neg h1, if_neg h2]
    simp only [Prod.mk.injEq, and_true]
    exact ⟨List.take_append_of_le_length (by omega), List.drop_append_of_le_length (by omega)⟩
theorem Wr_take {n : Nat} {b : List UInt8} (h : b.length = n) : Wr (fun q => rdTake q n) b b := by
  intro s
  simp only [rdTake]
  rw [if_neg (by simp only [List.length_append, Bool.false_eq_true, false_or]; omega)]
  simp only [Prod.mk.injEq, and_true]
  exact ⟨by rw [← h, List.take_left'] ; rfl, by rw [← h, List.drop_left']; rfl⟩
theorem Rdr_numGo (most : Int) : ∀ (n k u : Nat), Rdr (fun q => rdNumGo most n k u q)
  | 0, k, u => ⟨fun q h => rfl, fun l s h => by cases h⟩
  | n + 1, k, u => by
    have T := Rdr_take 1
    refine ⟨fun q h => ?_, fun l s h => ?_⟩
    · have h1 : rdTake q 1 = ([], ([], true)) := by simp only [rdTake, if_pos (Or.inl h)]
      show (rdNumGo most (n + 1) k u q).2.2 = true
      rw [rdNumGo, h1, if_pos rfl]
    · have h : (rdNumGo most (n + 1) k u (l, false)).2.2 = false := h
      show rdNumGo most (n + 1) k u (l ++ s, false) = ((rdNumGo most (n + 1) k u (l, false)).1, ((rdNumGo most (n + 1) k u (l, false)).2.1 ++ s, false))
      cases l with
      | nil =>
        have h1 : rdTake (([] : List UInt8), false) 1 = ([], ([], true)) := rfl
        rw [rdNumGo, h1, if_pos rfl] at h
        cases h
      | cons b l =>
        have e1 : rdTake (b :: l, false) 1 = ([b], (l, false)) := by simp [rdTake]
        have e2 : rdTake ((b :: l) ++ s, false) 1 = ([b], (l ++ s, false)) := by simp [rdTake]
        rw [rdNumGo, e1, if_neg (by simp)] at h
        rw [rdNumGo, e2, if_neg (by simp)]
        conv => rhs; rw [rdNumGo, e1, if_neg (by simp)]
        simp only at h ⊢
        split at h
        · rename_i hc
          rw [if_pos hc, if_pos hc]
          exact (Rdr_numGo most n (k + 1) _).more l s h
        · rename_i hc
          rw [if_neg hc, if_neg hc]
          split at h
          · cases h
          · rename_i hd
            rw [if_neg hd, if_neg hd]
theorem Rdr_num (most : Int) : Rdr (fun q => rdNum q most) := Rdr_numGo most 9 0 0
theorem Rdr_text (most : Int) : Rdr (fun q => rdText q most) :=
  (Rdr_num most).bind (g := fun (n : Nat) (q : RSt) => ((⟨(rdTake q n).1.toArray⟩ : ByteArray), (rdTake q n).2)) fun n => (Rdr_take n).bind (g := fun (b : List UInt8) (q : RSt) => ((⟨b.toArray⟩ : ByteArray), q)) fun b => Rdr.pure _
theorem Rdr_id : Rdr rdId := (Rdr_take 32).bind (g := fun (b : List UInt8) (q : RSt) => (idPut zeroId b, q)) fun b => Rdr.pure _
theorem Rdr_at : Rdr rdAt :=
  (Rdr_num 1099511627776).bind (g := fun (t : Nat) (q : RSt) => ((⟨(t : Int), ((rdNum q 65536).1 : Int)⟩ : Stamp), (rdNum q 65536).2)) fun t => (Rdr_num 65536).bind (g := fun (r : Nat) (q : RSt) => ((⟨(t : Int), (r : Int)⟩ : Stamp), q)) fun r => Rdr.pure _
theorem Rdr_ats : ∀ (n : Nat) (a : List Stamp), Rdr (rdAts n a)
  | 0, a => Rdr.pure a
  | n + 1, a => Rdr_at.bind (g := fun (x : Stamp) (q : RSt) => rdAts n (a ++ [x]) q) fun x => Rdr_ats n (a ++ [x])
theorem Rdr_ids : ∀ (n : Nat) (a : List ID), Rdr (rdIds n a)
  | 0, a => Rdr.pure a
  | n + 1, a => Rdr_id.bind (g := fun (x : ID) (q : RSt) => rdIds n (a ++ [x]) q) fun x => Rdr_ids n (a ++ [x])
def mvRest (k : Nat) (t n : Stamp) (q : RSt) : OpC × RSt := (⟨(k : Int), t, n, (rdAt q).1, (rdText (rdAt q).2 60).1, zeroId, []⟩, (rdText (rdAt q).2 60).2)
def edRest (k : Nat) (t n : Stamp) (q : RSt) : OpC × RSt :=
  (⟨(k : Int), t, n, ⟨0, 0⟩, ByteArray.empty, (rdId q).1, (rdAts (rdNum (rdId q).2 64).1 [] (rdNum (rdId q).2 64).2).1⟩, (rdAts (rdNum (rdId q).2 64).1 [] (rdNum (rdId q).2 64).2).2)
def opRest (k : Nat) (t n : Stamp) (q : RSt) : OpC × RSt := if ((k : Nat) : Int) = 1 then mvRest k t n q else edRest k t n q
def opRead' (q : RSt) : OpC × RSt := opRest (rdNum q 2).1 (rdAt (rdNum q 2).2).1 (rdAt (rdAt (rdNum q 2).2).2).1 (rdAt (rdAt (rdNum q 2).2).2).2
theorem opRead_eq (q : RSt) : opRead q = opRead' q := by
  unfold opRead opRead' opRest
  split <;> rfl
theorem Rdr_mv (k : Nat) (t n : Stamp) : Rdr (mvRest k t n) :=
  Rdr_at.bind (g := fun (p : Stamp) (q : RSt) => ((⟨(k : Int), t, n, p, (rdText q 60).1, zeroId, []⟩ : OpC), (rdText q 60).2)) fun p => (Rdr_text 60).bind (g := fun (x : ByteArray) (q : RSt) => ((⟨(k : Int), t, n, p, x, zeroId, []⟩ : OpC), q)) fun x => Rdr.pure _
theorem Rdr_ed (k : Nat) (t n : Stamp) : Rdr (edRest k t n) :=
  Rdr_id.bind (g := fun (d : ID) (q : RSt) => ((⟨(k : Int), t, n, ⟨0, 0⟩, ByteArray.empty, d, (rdAts (rdNum q 64).1 [] (rdNum q 64).2).1⟩ : OpC), (rdAts (rdNum q 64).1 [] (rdNum q 64).2).2)) fun d =>
    (Rdr_num 64).bind (g := fun (m : Nat) (q : RSt) => ((⟨(k : Int), t, n, ⟨0, 0⟩, ByteArray.empty, d, (rdAts m [] q).1⟩ : OpC), (rdAts m [] q).2)) fun m =>
      (Rdr_ats m []).bind (g := fun (l : List Stamp) (q : RSt) => ((⟨(k : Int), t, n, ⟨0, 0⟩, ByteArray.empty, d, l⟩ : OpC), q)) fun l => Rdr.pure _
theorem Rdr_rest (k : Nat) (t n : Stamp) : Rdr (opRest k t n) := by
  by_cases h : ((k : Nat) : Int) = 1
  · have e : opRest k t n = mvRest k t n := funext fun q => if_pos h
    rw [e]; exact Rdr_mv k t n
  · have e : opRest k t n = edRest k t n := funext fun q => if_neg h
    rw [e]; exact Rdr_ed k t n
theorem Rdr_read : Rdr opRead := by
  have e : opRead = opRead' := funext opRead_eq
  rw [e]
  exact (Rdr_num 2).bind (g := fun (k : Nat) (q : RSt) => opRest k (rdAt q).1 (rdAt (rdAt q).2).1 (rdAt (rdAt q).2).2) fun k => Rdr_at.bind (g := fun (t : Stamp) (q : RSt) => opRest k t (rdAt q).1 (rdAt q).2) fun t => Rdr_at.bind (g := fun (n : Stamp) (q : RSt) => opRest k t n q) fun n => Rdr_rest k t n
theorem Rdr_op : Rdr rdOp := by
  refine ⟨fun q h => ?_, fun l s h => ?_⟩
  · unfold rdOp
    rw [if_neg (by rw [Rdr_read.bad q h]; intro hh; cases hh.1)]
  · unfold rdOp at h ⊢
    by_cases hc : (opRead (l, false)).2.2 = false ∧ (opRead (l, false)).1.good = true
    · rw [if_pos hc]
      rw [Rdr_read.more l s hc.1]
      exact if_pos ⟨rfl, hc.2⟩
    · rw [if_neg hc] at h; cases h
theorem Rdr_ops : ∀ (n : Nat) (a : List OpC), Rdr (rdOps n a)
  | 0, a => Rdr.pure a
  | n + 1, a => Rdr_op.bind (g := fun (x : OpC) (q : RSt) => rdOps n (a ++ [x]) q) fun x => Rdr_ops n (a ++ [x])
def chTail (P : List ID) (t r : Nat) (O : List OpC) (q : RSt) : ChangeC × RSt := (⟨P, (t : Int), (r : Int), O, (rdId q).1, (rdText (rdId q).2 200).1⟩, (rdText (rdId q).2 200).2)
def chOps (P : List ID) (t r : Nat) (q : RSt) : ChangeC × RSt := chTail P t r (rdOps (rdNum q 64).1 [] (rdNum q 64).2).1 (rdOps (rdNum q 64).1 [] (rdNum q 64).2).2
def chRest (P : List ID) (q : RSt) : ChangeC × RSt := chOps P (rdNum q 1099511627776).1 (rdNum (rdNum q 1099511627776).2 65536).1 (rdNum (rdNum q 1099511627776).2 65536).2
def chRd (q : RSt) : ChangeC × RSt := chRest (rdIds (rdNum q 2).1 [] (rdNum q 2).2).1 (rdIds (rdNum q 2).1 [] (rdNum q 2).2).2
theorem changeRd_eq (b : List UInt8) : changeRd b = chRd (openSt b 3) := rfl
theorem Rdr_chTail (P : List ID) (t r : Nat) (O : List OpC) : Rdr (chTail P t r O) :=
  Rdr_id.bind (g := fun (d : ID) (q : RSt) => ((⟨P, (t : Int), (r : Int), O, d, (rdText q 200).1⟩ : ChangeC), (rdText q 200).2)) fun d => (Rdr_text 200).bind (g := fun (m : ByteArray) (q : RSt) => ((⟨P, (t : Int), (r : Int), O, d, m⟩ : ChangeC), q)) fun m => Rdr.pure _
theorem Rdr_chOps (P : List ID) (t r : Nat) : Rdr (chOps P t r) :=
  (Rdr_num 64).bind (g := fun (m : Nat) (q : RSt) => chTail P t r (rdOps m [] q).1 (rdOps m [] q).2) fun m => (Rdr_ops m []).bind (g := fun (O : List OpC) (q : RSt) => chTail P t r O q) fun O => Rdr_chTail P t r O
theorem Rdr_chRest (P : List ID) : Rdr (chRest P) :=
  (Rdr_num 1099511627776).bind (g := fun (t : Nat) (q : RSt) => chOps P t (rdNum q 65536).1 (rdNum q 65536).2) fun t => (Rdr_num 65536).bind (g := fun (r : Nat) (q : RSt) => chOps P t r q) fun r => Rdr_chOps P t r
theorem Rdr_ch : Rdr chRd :=
  (Rdr_num 2).bind (g := fun (m : Nat) (q : RSt) => chRest (rdIds m [] q).1 (rdIds m [] q).2) fun m => (Rdr_ids m []).bind (g := fun (P : List ID) (q : RSt) => chRest P q) fun P => Rdr_chRest P
end Go.Proofs.YthjdhfoeckfmbaaGreat
namespace Go.Proofs.YthjdhfoeckfmbaaGreat
open Go
set_option linter.unusedVariables false
set_option linter.unusedSimpArgs false
theorem or_add {acc k x : Nat} (h : acc < 2 ^ (7 * k)) : acc ||| x * 2 ^ (7 * k) = acc + x * 2 ^ (7 * k) := by
  have := Nat.two_pow_add_eq_or_of_lt h x
  rw [Nat.or_comm, Nat.mul_comm x, ← this, Nat.add_comm]
theorem byte_small {u : Nat} (h : u < 128) : (UInt8.ofNat u).toNat = u := by
  rw [UInt8.toNat_ofNat']; exact Nat.mod_eq_of_lt (by omega)
theorem and_127 (b : UInt8) : (b &&& 127).toNat = b.toNat % 128 := by
  rw [UInt8.toNat_and]
  exact Nat.and_two_pow_sub_one_eq_mod b.toNat 7
theorem byte_big (u : Nat) : 127 < (UInt8.ofNat u ||| 128).toNat ∧ (UInt8.ofNat u ||| 128).toNat % 128 = u % 128 := by
  have e : (UInt8.ofNat u ||| 128).toNat = u % 256 ||| 128 := by rw [UInt8.toNat_or, UInt8.toNat_ofNat']; rfl
  rw [e]
  refine ⟨?_, ?_⟩
  · have : 128 ≤ u % 256 ||| 128 := Nat.right_le_or
    omega
  · have := Nat.or_mod_two_pow (a := u % 256) (b := 128) (n := 7)
    have h2 : (u % 256 ||| 128) % 2 ^ 7 = u % 256 % 2 ^ 7 ||| 128 % 2 ^ 7 := this
    rw [show (128 : Nat) = 2 ^ 7 from rfl] at *
    rw [h2]
    simp
theorem rdGo {most : Int} : ∀ (f k u acc : Nat) (s : List UInt8), acc < 2 ^ (7 * k) → u < 128 ^ f → 0 < f → (0 < k → 0 < u) → ((acc + u * 2 ^ (7 * k) : Nat) : Int) ≤ most → acc + u * 2 ^ (7 * k) ≤ 4611686018427387904 →
    rdNumGo most f k acc (numGo u ++ s, false) = (acc + u * 2 ^ (7 * k), (s, false))
  | 0, _, _, _, _, _, _, h, _, _, _ => by omega
  | f + 1, k, u, acc, s, ha, hu, _, hk, hm, h62 => by
    by_cases hb : 127 < u
    · rw [numGo_big hb]
      have e1 : rdTake ((UInt8.ofNat u ||| 128) :: numGo (u / 128) ++ s, false) 1 = ([UInt8.ofNat u ||| 128], (numGo (u / 128) ++ s, false)) := by simp [rdTake]
      rw [rdNumGo, e1, if_neg (by simp)]
      have hbb := byte_big u
      have e2 : nth [UInt8.ofNat u ||| 128] 0 = UInt8.ofNat u ||| 128 := rfl
      simp only [e2]
      rw [if_pos hbb.1, and_127, hbb.2, or_add ha]
      have hx : u % 128 < 128 := Nat.mod_lt _ (by decide)
      have hd : u / 128 * 128 + u % 128 = u := by omega
      have hp : 2 ^ (7 * (k + 1)) = 128 * 2 ^ (7 * k) := by rw [show 7 * (k + 1) = 7 + 7 * k from by omega, Nat.pow_add]
      have ht : acc + u % 128 * 2 ^ (7 * k) + u / 128 * 2 ^ (7 * (k + 1)) = acc + u * 2 ^ (7 * k) := by
        rw [hp]
        conv => rhs; rw [← hd]
        rw [Nat.add_mul, Nat.mul_assoc]
        omega
      have hf : 0 < f := by
        rcases Nat.eq_zero_or_pos f with h0 | h0
        · subst h0; simp at hu; omega
        · exact h0
      have := rdGo f (k + 1) (u / 128) (acc + u % 128 * 2 ^ (7 * k)) s (by
          rw [hp]
          have : u % 128 * 2 ^ (7 * k) ≤ 127 * 2 ^ (7 * k) := Nat.mul_le_mul_right _ (by omega)
          omega) (by rw [Nat.pow_succ] at hu; exact Nat.div_lt_of_lt_mul (by omega)) hf (fun _ => by omega) (by rw [ht]; exact hm) (by rw [ht]; exact h62)
      rw [this, ht]
    · rw [numGo_small hb]
      have e1 : rdTake ([UInt8.ofNat u] ++ s, false) 1 = ([UInt8.ofNat u], (s, false)) := by simp [rdTake]
      rw [rdNumGo, e1, if_neg (by simp)]
      have e2 : nth [UInt8.ofNat u] 0 = UInt8.ofNat u := rfl
      simp only [e2]
      have h8 : (UInt8.ofNat u).toNat = u := byte_small (by omega)
      rw [and_127, h8, Nat.mod_eq_of_lt (by omega : u < 128), or_add ha, if_neg hb, if_neg]
      rintro ((h | h) | h)
      · omega
      · omega
      · have := hk h.2; omega
theorem Wr_num {most n : Int} (h0 : 0 ≤ n) (h1 : n ≤ most) (h2 : n ≤ 4611686018427387904) : Wr (fun q => rdNum q most) n.toNat (numB n) := by
  intro s
  have hc : numClamp n = n.toNat := by unfold numClamp; omega
  have := rdGo (most := most) 9 0 n.toNat 0 s (by decide) (by
    have : (4611686018427387904 : Nat) < 128 ^ 9 := by decide
    omega) (by decide) (fun h => absurd h (by decide)) (by simp; omega) (by simp; omega)
  rw [numB, hc]
  show rdNumGo most 9 0 0 _ = _
  rw [this]; simp
theorem Wr_text {most : Int} {x : ByteArray} (h : ((x.size : Nat) : Int) ≤ most) (h2 : x.size ≤ 4611686018427387904) : Wr (fun q => rdText q most) x (textB x) := by
  have h1 := (Wr_num (most := most) (n := ((x.size : Nat) : Int)) (by omega) h (by omega)).bind (g := fun (n : Nat) (q : RSt) => ((⟨(rdTake q n).1.toArray⟩ : ByteArray), (rdTake q n).2)) (y := x) (b2 := x.data.toList)
    ((Wr_take (by rw [size_data']; omega)).bind (g := fun (b : List UInt8) (q : RSt) => ((⟨b.toArray⟩ : ByteArray), q)) (y := x) (b2 := []) (by intro s; simp) |> fun h => by simpa using h)
  exact h1
theorem Wr_id (d : ID) : Wr rdId d (idList d) := by
  intro s
  have := (Wr_take (idList_len d)) s
  show (idPut zeroId (rdTake (idList d ++ s, false) 32).1, (rdTake (idList d ++ s, false) 32).2) = _
  simp only at this
  rw [this]
  have e : idPut zeroId (idList d) = d := by
    apply Vector.ext
    intro i hi
    simp [idPut, idList_eq]
  rw [e]
def stOk (s : Stamp) : Prop := 0 ≤ s.T ∧ s.T ≤ 1099511627776 ∧ 0 ≤ s.R ∧ s.R ≤ 65536
theorem Wr_at {s : Stamp} (h : stOk s) : Wr rdAt s (atB s) := by
  have e : (⟨((s.T.toNat : Nat) : Int), ((s.R.toNat : Nat) : Int)⟩ : Stamp) = s := by
    cases s; simp only [Stamp.mk.injEq]; exact ⟨Int.toNat_of_nonneg h.1, Int.toNat_of_nonneg h.2.2.1⟩
  intro x
  have h1 := Wr_num (most := 1099511627776) h.1 h.2.1 (by have := h.2.1; omega) (numB s.R ++ x)
  have h2 := Wr_num (most := 65536) h.2.2.1 h.2.2.2 (by have := h.2.2.2; omega) x
  simp only at h1 h2
  unfold rdAt atB
  rw [List.append_assoc, h1, h2]
  simp only [e]
theorem Wr_ats : ∀ (l a : List Stamp), (∀ s ∈ l, stOk s) → Wr (rdAts l.length a) (a ++ l) ((l.map atB).flatten)
  | [], a, _ => by intro s; simp [rdAts]
  | x :: l, a, h => by
    intro s
    have h1 := Wr_at (h x (by simp)) ((l.map atB).flatten ++ s)
    have h2 := Wr_ats l (a ++ [x]) (fun y hy => h y (by simp [hy])) s
    simp only [List.length_cons, rdAts, List.map_cons, List.flatten_cons, List.append_assoc]
    rw [h1]
    simpa [List.append_assoc] using h2
theorem Wr_ids : ∀ (l a : List ID), Wr (rdIds l.length a) (a ++ l) ((l.map idList).flatten)
  | [], a => by intro s; simp [rdIds]
  | x :: l, a => by
    intro s
    have h1 := Wr_id x ((l.map idList).flatten ++ s)
    have h2 := Wr_ids l (a ++ [x]) s
    simp only [List.length_cons, rdIds, List.map_cons, List.flatten_cons, List.append_assoc]
    rw [h1]
    simpa [List.append_assoc] using h2
theorem right_ok {s : Stamp} (h : stRight s = true) : stOk s := by
  simp only [stRight, decide_eq_true_eq] at h
  exact ⟨by omega, by omega, by omega, by omega⟩
theorem fixed_ok {s : Stamp} (h : fixedSt s = true) : stOk s := by
  have := of_decide_eq_true h
  exact ⟨by omega, by omega, by omega, by omega⟩
theorem Wr_op {o : OpS} (h : goodOp o = true) : Wr rdOp o.core (opB o) := by
  have hg := of_decide_eq_true h
  have ht := right_ok hg.1
  have hn := right_ok hg.2.1
  have key : Wr opRead o.core (opB o) := by
    intro s
    rw [opRead_eq]
    rcases hg.2.2 with ⟨hk, hm⟩ | ⟨hk, hm⟩
    · have hm := of_decide_eq_true hm
      obtain ⟨_, hp, hnm, hd, ho⟩ := hm
      have hp : stOk o.par := hp.elim right_ok fixed_ok
      have hs : o.name.size ≤ 60 := (of_decide_eq_true hnm).2.1
      have h1 := Wr_num (most := 2) (n := o.kind) (by omega) (by omega) (by omega) (atB o.tm ++ (atB o.node ++ (atB o.par ++ (textB o.name ++ s))))
      have h2 := Wr_at ht (atB o.node ++ (atB o.par ++ (textB o.name ++ s)))
      have h3 := Wr_at hn (atB o.par ++ (textB o.name ++ s))
      have h4 := Wr_at hp (textB o.name ++ s)
      have h5 := Wr_text (most := 60) (x := o.name) (by omega) (by omega) s
      simp only at h1 h5
      rw [opB, if_pos hk, opPre]
      simp only [List.append_assoc]
      unfold opRead' opRest mvRest
      rw [h1]
      simp only [h2, h3]
      rw [if_pos (by omega)]
      simp only [h4, h5]
      refine Prod.ext ?_ rfl
      show (⟨_, _, _, _, _, _, _⟩ : OpC) = ⟨_, _, _, _, _, _, _⟩
      simp only [OpC.mk.injEq]
      refine ⟨by omega, ?_⟩
      simp [hd, List.length_eq_zero_iff.1 ho]
    · have hm := of_decide_eq_true hm
      obtain ⟨_, hp, hnm, hd, hl, ho⟩ := hm
      have hov : ∀ x ∈ o.over, stOk x := by
        intro x hx
        obtain ⟨i, hi, rfl⟩ := List.getElem_of_mem hx
        have := (ho i hi).1
        rw [nth_eq hi] at this
        exact right_ok this
      have h1 := Wr_num (most := 2) (n := o.kind) (by omega) (by omega) (by omega) (atB o.tm ++ (atB o.node ++ (idList o.data ++ (numB ((o.over.length : Nat) : Int) ++ ((o.over.map atB).flatten ++ s)))))
      have h2 := Wr_at ht (atB o.node ++ (idList o.data ++ (numB ((o.over.length : Nat) : Int) ++ ((o.over.map atB).flatten ++ s))))
      have h3 := Wr_at hn (idList o.data ++ (numB ((o.over.length : Nat) : Int) ++ ((o.over.map atB).flatten ++ s)))
      have h4 := Wr_id o.data (numB ((o.over.length : Nat) : Int) ++ ((o.over.map atB).flatten ++ s))
      have h5 := Wr_num (most := 64) (n := ((o.over.length : Nat) : Int)) (by omega) (by omega) (by omega) ((o.over.map atB).flatten ++ s)
      have h6 := Wr_ats o.over [] hov s
      simp only at h1 h5
      rw [Int.toNat_natCast] at h5
      rw [opB, if_neg (by omega), opPre]
      simp only [List.append_assoc]
      unfold opRead' opRest edRest
      rw [h1]
      simp only [h2, h3]
      rw [if_neg (by omega)]
      simp only [h4, h5, h6]
      refine Prod.ext ?_ rfl
      show (⟨_, _, _, _, _, _, _⟩ : OpC) = ⟨_, _, _, _, _, _, _⟩
      simp only [OpC.mk.injEq]
      refine ⟨by omega, ?_⟩
      simp [hp, hnm]
  intro s
  have := key s
  rw [rdOp, this, if_pos ⟨rfl, h⟩]
theorem Wr_ops : ∀ (l : List OpS) (a : List OpC), (∀ o ∈ l, goodOp o = true) → Wr (rdOps l.length a) (a ++ l.map OpS.core) ((l.map putOpB).flatten)
  | [], a, _ => by intro s; simp [rdOps]
  | x :: l, a, h => by
    intro s
    have hx := h x (by simp)
    have h1 := Wr_op hx ((l.map putOpB).flatten ++ s)
    have h2 := Wr_ops l (a ++ [x.core]) (fun y hy => h y (by simp [hy])) s
    have e : putOpB x = opB x := if_pos hx
    simp only [List.length_cons, rdOps, List.map_cons, List.flatten_cons, List.append_assoc, e]
    rw [h1]
    simpa [List.append_assoc] using h2
def chB (c : ChangeS) : List UInt8 := numB ((c.parents.length : Nat) : Int) ++ ((c.parents.map idList).flatten ++ (numB c.time ++ (numB c.r ++ (numB ((c.ops.length : Nat) : Int) ++ ((c.ops.map putOpB).flatten ++ (idList c.tree ++ textB c.msg))))))
theorem changeB_eq (c : ChangeS) : changeB c = 3 :: chB c := by
  unfold changeB opsTo parTo chB
  simp [List.take_length, List.append_assoc]
theorem change_ops {c : ChangeS} (h : changeOk c = true) : ∀ o ∈ c.ops, goodOp o = true := by
  obtain ⟨_, _, _, _, _, _, _, _, h1, _⟩ := of_decide_eq_true h
  intro o ho
  have := List.any_eq_false.1 h1 o ho
  simp only [ownOp, Bool.not_eq_true, Bool.not_eq_false', Bool.and_eq_true] at this
  exact this.1.1
theorem Wr_ch {c : ChangeS} (h : changeOk c = true) : Wr chRd c.core (chB c) := by
  have hops := change_ops h
  obtain ⟨hp, _, _, hst, hm, _, hl, _, _, _⟩ := of_decide_eq_true h
  have hs := right_ok hst
  intro s
  have t8 := Wr_text (most := 200) (x := c.msg) (by omega) (by omega) s
  have t7 := Wr_id c.tree (textB c.msg ++ s)
  have t6 := Wr_ops c.ops [] hops (idList c.tree ++ (textB c.msg ++ s))
  have t5 := Wr_num (most := 64) (n := ((c.ops.length : Nat) : Int)) (by omega) (by omega) (by omega) ((c.ops.map putOpB).flatten ++ (idList c.tree ++ (textB c.msg ++ s)))
  have t4 := Wr_num (most := 65536) (n := c.r) hs.2.2.1 hs.2.2.2 (by have := hs.2.2.2; simp only at this; omega) (numB ((c.ops.length : Nat) : Int) ++ ((c.ops.map putOpB).flatten ++ (idList c.tree ++ (textB c.msg ++ s))))
  have t3 := Wr_num (most := 1099511627776) (n := c.time) hs.1 hs.2.1 (by have := hs.2.1; simp only at this; omega) (numB c.r ++ (numB ((c.ops.length : Nat) : Int) ++ ((c.ops.map putOpB).flatten ++ (idList c.tree ++ (textB c.msg ++ s)))))
  have t2 := Wr_ids c.parents [] (numB c.time ++ (numB c.r ++ (numB ((c.ops.length : Nat) : Int) ++ ((c.ops.map putOpB).flatten ++ (idList c.tree ++ (textB c.msg ++ s))))))
  have t1 := Wr_num (most := 2) (n := ((c.parents.length : Nat) : Int)) (by omega) (by omega) (by omega) ((c.parents.map idList).flatten ++ (numB c.time ++ (numB c.r ++ (numB ((c.ops.length : Nat) : Int) ++ ((c.ops.map putOpB).flatten ++ (idList c.tree ++ (textB c.msg ++ s)))))))
  simp only at t1 t3 t4 t5 t8
  rw [Int.toNat_natCast] at t1 t5
  unfold chB chRd
  simp only [List.append_assoc]
  rw [t1]
  simp only [t2]
  unfold chRest
  rw [t3]
  simp only [t4]
  unfold chOps
  rw [t5]
  simp only [t6]
  unfold chTail
  simp only [t7, t8]
  refine Prod.ext ?_ rfl
  show (⟨_, _, _, _, _, _⟩ : ChangeC) = ⟨_, _, _, _, _, _⟩
  simp only [ChangeC.mk.injEq]
  simp [Int.toNat_of_nonneg (show 0 ≤ c.time from hs.1), Int.toNat_of_nonneg (show 0 ≤ c.r from hs.2.2.1)]
theorem open_cons (k : UInt8) (l : List UInt8) : openSt (k :: l) k = (l, false) := by
  unfold openSt
  rw [if_neg (by rintro (h | h); cases h; exact h rfl)]
  rfl
section
variable {α : Type} {f : RSt → α × RSt} {x : α} {b : List UInt8}
end
theorem putChange_ok {c : ChangeS} (h : putChangeE c = 0) : changeOk c = true := by
  unfold putChangeE at h
  split at h
  · assumption
  · omega
theorem chB_len {c : ChangeS} (h : changeOk c = true) : 0 < (putChangeB c).length ∧ (putChangeB c).length ≤ 200000 := by
  have e : putChangeB c = changeB c := if_pos h
  have h1 := change_lens h
  have h2 := numB_len ((c.parents.length : Nat) : Int); have h3 := numB_len c.time; have h4 := numB_len c.r; have h5 := numB_len ((c.ops.length : Nat) : Int); have h6 := textB_len c.msg
  have h7 := flat_len putOpB 1400 putOpB_len c.ops; have h8 := flat_len idList 32 (fun _ => by rw [idList_len]; exact Nat.le_refl _) c.parents
  rw [e, changeB_eq]
  unfold chB
  simp only [List.length_cons, List.length_append, idList_len]
  omega
end Go.Proofs.YthjdhfoeckfmbaaGreat
namespace Go.Proofs.YthjdhfoeckfmbaaGreat
open Go
set_option linter.unusedVariables false
set_option linter.unusedSimpArgs false
section
variable {n : Int} {u : Nat} {acc : List UInt8}
end
section
variable {q : RSt} {r : RdS} {most : Int} {k u : Nat}
end
section
variable {q : RSt} {r : RdS} {most : Int} {H : SlH} {v : Value}
end
section
variable {q : RSt} {r : RdS}
end
section
variable {l : Label}
end
end Go.Proofs.YthjdhfoeckfmbaaGreat
namespace Go.Proofs.YthjdhfoeckfmbaaGreat
open Go
set_option linter.unusedVariables false
set_option linter.unusedSimpArgs false
structure ItemFit (x : ItemS) : Prop where
  node : stOk x.node
  tm : stOk x.tm
  name : x.name.size ≤ 60
  many : x.heads.length ≤ 1000
  heads : ∀ h ∈ x.heads, stOk h.tm
theorem item_fit {x : ItemS} (h : itemOkS x = true) : ItemFit x := by
  obtain ⟨h1, h2, _, h3, h4, h5⟩ := of_decide_eq_true h
  refine ⟨right_ok h1, right_ok h2, (of_decide_eq_true h3).2.1, h4, fun y hy => ?_⟩
  obtain ⟨i, hi, rfl⟩ := List.getElem_of_mem hy
  have := (h5 i hi).1
  rw [nth_eq hi] at this
  exact right_ok this
theorem dir_fit {l : List ItemS} (h : dirOk l = true) : ∀ x ∈ l, ItemFit x := by
  intro x hx
  obtain ⟨i, hi, rfl⟩ := List.getElem_of_mem hx
  have := ((of_decide_eq_true h).2 i hi).1
  rw [nth_eq hi] at this
  exact item_fit this
theorem changeOf_put {c : ChangeS} (h : changeOk c = true) : changeOf (putChangeB c) = (c.core, 0) := by
  have e : putChangeB c = 3 :: chB c := by rw [putChangeB, if_pos h, changeB_eq]
  have t := Wr_ch h []
  rw [List.append_nil] at t
  rw [e, changeOf, changeRd_eq, open_cons, t, if_pos ⟨rfl, by rw [← changeOk_core]; exact h⟩]
end Go.Proofs.YthjdhfoeckfmbaaGreat
namespace Go.Proofs.YthjdhfoeckfmbaaGreat
open Go
set_option linter.unusedVariables false
set_option linter.unusedSimpArgs false
section
variable {q rq : RSt} {k : Nat} {acc : List Stamp} {rr : RdS} {X : OpC}
end
section
variable {n k : Nat} {acc : List Head} {q : RSt} {H : List Head × RSt} {rr : RdS}
end
section
variable {n k : Nat} {acc : List ItemS} {q : RSt} {H : List ItemC × RSt} {x : ItemS} {rr : RdS} {b : List UInt8}
end
section
variable {b : List UInt8} {q : RSt} {l : List ItemS} {v w : Value}
end
section
variable {n k : Nat} {b : List UInt8} {pacc : List ID} {oacc : List OpS} {rq rq2 q : RSt} {rr2 : RdS} {X : ChangeS}
end
end Go.Proofs.YthjdhfoeckfmbaaGreat
namespace Go.Proofs.YthjdhfoeckfmbaaGreat
open Go
set_option linter.unusedVariables false
set_option linter.unusedSimpArgs false
section
open Lib
theorem cb_vals : ∀ a b : List UInt8, compareBytes a b = -1 ∨ compareBytes a b = 0 ∨ compareBytes a b = 1
  | [], [] => by simp [compareBytes]
  | [], _ :: _ => by simp [compareBytes]
  | _ :: _, [] => by simp [compareBytes]
  | x :: a, y :: b => by
    rw [compareBytes]
    split
    · simp
    · split
      · simp
      · exact cb_vals a b
theorem cb_self : ∀ a : List UInt8, compareBytes a a = 0
  | [] => rfl
  | x :: a => by
    rw [compareBytes, if_neg (by simp), if_neg (by simp)]
    exact cb_self a
theorem cb_eq : ∀ a b : List UInt8, compareBytes a b = 0 → a = b
  | [], [] => fun _ => rfl
  | [], _ :: _ => by simp [compareBytes]
  | _ :: _, [] => by simp [compareBytes]
  | x :: a, y :: b => by
    rw [compareBytes]
    split
    · simp
    · split
      · simp
      · rename_i h1 h2
        intro h
        have : x = y := UInt8.le_antisymm (UInt8.not_lt.1 h2) (UInt8.not_lt.1 h1)
        rw [this, cb_eq a b h]
theorem cb_swap : ∀ a b : List UInt8, compareBytes a b = -1 → compareBytes b a = 1
  | [], [] => by simp [compareBytes]
  | [], _ :: _ => by simp [compareBytes]
  | _ :: _, [] => by simp [compareBytes]
  | x :: a, y :: b => by
    rw [compareBytes, compareBytes]
    split
    · rename_i h1
      intro _
      first
        | rfl
        | rw [if_neg (UInt8.not_lt.2 (UInt8.le_of_lt h1))]
        | rw [if_neg (UInt8.not_lt.2 (UInt8.le_of_lt h1)), if_pos h1]
    · split
      · simp
      · rename_i h1 h2
        intro h
        exact cb_swap a b h
theorem cb_trans : ∀ a b c : List UInt8, compareBytes a b = -1 → compareBytes b c = -1 → compareBytes a c = -1
  | [], [], _ => by simp [compareBytes]
  | [], _ :: _, [] => by simp [compareBytes]
  | [], _ :: _, _ :: _ => by simp [compareBytes]
  | _ :: _, [], _ => by simp [compareBytes]
  | _ :: _, _ :: _, [] => by simp [compareBytes]
  | x :: a, y :: b, z :: c => by
    rw [compareBytes, compareBytes, compareBytes]
    have ih := cb_trans a b c
    intro h1 h2
    split at h1
    · rename_i hxy
      split at h2
      · rename_i hyz
        rw [if_pos (UInt8.lt_trans hxy hyz)]
      · split at h2
        · cases h2
        · rename_i hn1 hn2
          have : y = z := UInt8.le_antisymm (UInt8.not_lt.1 hn2) (UInt8.not_lt.1 hn1)
          rw [if_pos (this ▸ hxy)]
    · split at h1
      · cases h1
      · rename_i hn1 hn2
        have : x = y := UInt8.le_antisymm (UInt8.not_lt.1 hn2) (UInt8.not_lt.1 hn1)
        subst this
        split at h2
        · rename_i hyz; rw [if_pos hyz]
        · split at h2
          · cases h2
          · rename_i hm1 hm2
            rw [if_neg hm1, if_neg hm2]
            exact ih h1 h2
end
theorem idList_inj {a b : ID} (h : idList a = idList b) : a = b := by
  rw [idList_eq, idList_eq] at h
  exact Vector.toList_inj.1 h
theorem cmpId_vals (a b : ID) : cmpId a b = -1 ∨ cmpId a b = 0 ∨ cmpId a b = 1 := cb_vals _ _
theorem cmpId_self (a : ID) : cmpId a a = 0 := cb_self _
theorem cmpId_eq {a b : ID} (h : cmpId a b = 0) : a = b := idList_inj (cb_eq _ _ h)
theorem cmpId_swap {a b : ID} (h : cmpId a b = -1) : cmpId b a = 1 := cb_swap _ _ h
theorem cmpId_swap' {a b : ID} (h : cmpId a b = 1) : cmpId b a = -1 := by
  rcases cmpId_vals b a with h1 | h1 | h1
  · exact h1
  · have := cmpId_eq h1; subst this; rw [cmpId_self] at h; cases h
  · rcases cmpId_vals a b with h2 | h2 | h2
    · rw [h2] at h; cases h
    · rw [h2] at h; cases h
    · -- both 1
      exfalso
      have key : ∀ x y : List UInt8, Lib.compareBytes x y = 1 → Lib.compareBytes y x = -1 := by
        intro x
        induction x with
        | nil => intro y; cases y <;> simp [Lib.compareBytes]
        | cons u x ih =>
          intro y
          cases y with
          | nil => simp [Lib.compareBytes]
          | cons v y =>
            rw [Lib.compareBytes, Lib.compareBytes]
            split
            · intro h; cases h
            · split
              · intro; rfl
              · intro h; exact ih y h
      have := key _ _ h
      unfold cmpId at h1
      rw [this] at h1; cases h1
theorem cmpId_trans {a b c : ID} (h : cmpId a b = -1) (h' : cmpId b c = -1) : cmpId a c = -1 := cb_trans _ _ _ h h'
theorem cmpId_lt {a b : ID} : cmpId a b < 0 ↔ cmpId a b = -1 := by
  rcases cmpId_vals a b with h | h | h <;> rw [h] <;> decide
theorem cb_pre : ∀ (a b : List UInt8) (k : Nat), a.length = b.length → k < a.length → (∀ i, i < k → nth a i = nth b i) → (nth a k < nth b k → Lib.compareBytes a b = -1) ∧ (nth b k < nth a k → Lib.compareBytes a b = 1)
  | [], _, k, _, hk, _ => by simp at hk
  | x :: a, [], k, h, _, _ => by simp at h
  | x :: a, y :: b, 0, h, _, _ => by
    rw [Lib.compareBytes]
    refine ⟨fun h => ?_, fun h => ?_⟩
    · have h : x < y := h
      rw [if_pos h]
    · have h : y < x := h
      rw [if_neg (UInt8.not_lt.2 (UInt8.le_of_lt h)), if_pos h]
  | x :: a, y :: b, k + 1, h, hk, hn => by
    have h0 : x = y := hn 0 (by omega)
    subst h0
    rw [Lib.compareBytes, if_neg (by simp), if_neg (by simp)]
    exact cb_pre a b k (by simpa using h) (by simpa using hk) (fun i hi => hn (i + 1) (by omega))
section
variable {a b : ID} {k : Nat}
theorem rcmp_lt (hn : ∀ i, i < k → nth (idList a) i = nth (idList b) i) (hk : ((k : Nat) : Int) < 32) (h : ((nth (idList a) k).toNat : Int) < ((nth (idList b) k).toNat : Int)) : Value.int .i64 (-1) = Value.int .i64 (cmpId a b) :=
  congrArg _ ((cb_pre (idList a) (idList b) k rfl (by rw [idList_len]; omega) hn).1 (UInt8.lt_iff_toNat_lt.2 (by omega))).symm
theorem rcmp_gt (hn : ∀ i, i < k → nth (idList a) i = nth (idList b) i) (hk : ((k : Nat) : Int) < 32) (h : ((nth (idList b) k).toNat : Int) < ((nth (idList a) k).toNat : Int)) : Value.int .i64 1 = Value.int .i64 (cmpId a b) :=
  congrArg _ ((cb_pre (idList a) (idList b) k rfl (by rw [idList_len]; omega) hn).2 (UInt8.lt_iff_toNat_lt.2 (by omega))).symm
theorem rcmp_eq (hn : ∀ i, i < k → nth (idList a) i = nth (idList b) i) (hk : 32 ≤ k) : Value.int .i64 0 = Value.int .i64 (cmpId a b) := by
  have : idList a = idList b := eq_of_nth rfl (fun i hi => hn i (by rw [idList_len] at hi; omega))
  rw [idList_inj this, cmpId_self]
end
section
variable {c : ChangeS} {k : Nat}
end
section
variable {a b : OpS} {k : Nat}
end
section
variable {a b : ItemS}
end
section
variable {a b : ChangeS} {k : Nat}
end
theorem dir_lens {items : List ItemS} (h : dirOk items = true) : items.length ≤ 1000 ∧ ∀ x ∈ items, x.name.size ≤ 60 ∧ x.heads.length ≤ 1000 := by
  refine ⟨(of_decide_eq_true h).1, fun x hx => ?_⟩
  have := dir_fit h x hx
  exact ⟨this.name, this.many⟩
section
variable {b : List UInt8}
theorem open_bad {k : UInt8} (h : ¬ (b.length ≠ 0 ∧ nth b 0 = k)) : openSt b k = ([], true) := by
  unfold openSt
  rw [if_pos]
  cases b with
  | nil => exact .inl rfl
  | cons x l => exact .inr fun e => h ⟨by simp, e⟩
theorem changeOf_first (h : (changeOf b).2 = 0) : b.length ≠ 0 ∧ nth b 0 = 3 := by
  by_cases hh : b.length ≠ 0 ∧ nth b 0 = 3
  · exact hh
  · exfalso
    rw [changeOf, if_neg] at h
    · cases h
    · rintro ⟨h1, _⟩
      rw [changeRd_eq, open_bad hh] at h1
      unfold rdDone at h1
      rw [Rdr_ch.bad _ rfl] at h1
      cases h1
end
end Go.Proofs.YthjdhfoeckfmbaaGreat
namespace Go.Proofs.YthjdhfoeckfmbaaGreat
open Go
section
variable {ρ : Operand → Value}
end
end Go.Proofs.YthjdhfoeckfmbaaGreat
namespace Go.Proofs.YthjdhfoeckfmbaaGreat
open Go Go.Shelf Go.RowKit Go.Sort
set_option linter.unusedVariables false
set_option linter.unusedSimpArgs false
theorem grown_of {w1 w2 : World} (h : @Gr ddT nob w1 w2) : ∃ q os, w2 = Go.Sort.grow (w1.drewN q) os := by
  refine ⟨w2.drawn - w1.drawn, w2.heap.extract w1.heap.size w2.heap.size, ?_⟩
  obtain ⟨h1, h2, h3, hsz, hbl, hdr⟩ := h
  have hd : w1.drawn ≤ w2.drawn := hdr trivial
  have hh : w2.heap = w1.heap ++ w2.heap.extract w1.heap.size w2.heap.size := by
    apply Array.ext_getElem?
    intro i
    rcases Nat.lt_or_ge i w1.heap.size with hi | hi
    · rw [Array.getElem?_append_left hi]
      exact hbl i hi (fun hn => hn)
    · rw [Array.getElem?_append_right hi]
      simp only [Array.getElem?_extract]
      split
      · congr 1; omega
      · rw [Array.getElem?_eq_none (by omega)]
  cases w1; cases w2
  simp only [Go.Sort.grow, World.drewN] at *
  subst h1; subst h2; subst h3
  simp only [World.mk.injEq]
  refine ⟨hh, ?_⟩
  simp
  omega
section
variable {α : Type} [Inhabited α] {enc : α → Chs} {k : Nat}
theorem cellsOf_get (hk : ∀ x, (enc x).flatten.length = k) : ∀ (l : List α) (i j : Nat), i < l.length → j < k → (cellsOf enc l)[i * k + j]? = some ((enc (nth l i)).flatten[j]!)
  | [], i, j, h, _ => by simp at h
  | x :: l, 0, j, _, hj => by
    have e : cellsOf enc (x :: l) = (enc x).flatten ++ cellsOf enc l := rfl
    rw [e, Nat.zero_mul, Nat.zero_add, List.getElem?_append_left (by rw [hk]; exact hj)]
    show _ = some ((enc x).flatten[j]!)
    rw [List.getElem?_eq_getElem (by rw [hk]; exact hj), getElem!_pos _ j (by rw [hk]; exact hj)]
  | x :: l, i + 1, j, h, hj => by
    have e : cellsOf enc (x :: l) = (enc x).flatten ++ cellsOf enc l := rfl
    have e2 : (i + 1) * k + j = k + (i * k + j) := by rw [Nat.add_mul]; omega
    rw [e, e2, List.getElem?_append_right (by rw [hk]; omega), hk, show k + (i * k + j) - k = i * k + j from by omega]
    exact cellsOf_get hk l i j (by simpa using h) hj
theorem arr_nth (l : List α) (i : Nat) (hi : i < l.length) : l.toArray[i]! = nth l i := by
  rw [getElem!_pos _ i (by simpa using hi), nth_eq hi]
  simp
theorem flatK_get (hk : ∀ x, (enc x).flatten.length = k) (l : List α) (t : Nat) (ht : t < l.length * k) : (cellsOf enc l)[t]? = some ((flatK (fun x => (enc x).flatten) k l.toArray)[t]!) := by
  have k0 : 0 < k := by rcases Nat.eq_zero_or_pos k with h | h; · subst h; simp at ht
                        · exact h
  have hi : t / k < l.length := by rw [Nat.div_lt_iff_lt_mul k0]; exact ht
  have hj : t % k < k := Nat.mod_lt _ k0
  have := cellsOf_get hk l (t / k) (t % k) hi hj
  rw [show t / k * k + t % k = t from by rw [Nat.mul_comm]; exact Nat.div_add_mod t k] at this
  rw [this, get_flatK _ _ _ _ (by simpa using ht), arr_nth l _ hi]
theorem holds_of_own {h : SlH} {l : List α} {w : World} {t : TypeId} {g cap : Nat} (hk : ∀ x, (enc x).flatten.length = k) (hq : w.ownsRow 0 t k (.slice (some ⟨g, 0, none⟩) l.length cap) l.length (cellsOf enc l)) :
    HoldsK (fun x => (enc x).flatten) k w g 0 l.toArray := by
  intro j hj
  rw [size_flatK, List.size_toArray] at hj
  rw [Nat.zero_add]
  exact ⟨(hq.cellAt j hj).trans (flatK_get hk l j hj), hq.frozenAt j⟩
theorem own_of_put {l l' : List α} {w : World} {t : TypeId} {g cap n : Nat} {os : Array Obj} (hk : ∀ x, (enc x).flatten.length = k) (hq : w.ownsRow 0 t k (.slice (some ⟨g, 0, none⟩) l.length cap) l.length (cellsOf enc l)) (hl : l'.length = l.length) :
    (sortWorldK (fun x => (enc x).flatten) k w g 0 n l'.toArray os).ownsRow 0 t k (.slice (some ⟨g, 0, none⟩) l'.length cap) l'.length (cellsOf enc l') ∧ @Gr ddT (fun b => b = g) w (sortWorldK (fun x => (enc x).flatten) k w g 0 n l'.toArray os) := by
  rcases hq.2 with ⟨hv, _⟩ | ⟨g', cap', cur, hv, hb, hg, hn, hm, hs, ht⟩
  · cases hv
  · simp only [Value.slice.injEq, Option.some.injEq, Addr.mk.injEq, and_true, true_and] at hv
    obtain ⟨rfl, rfl⟩ := hv
    have hglt : g < w.heap.size := (Array.getElem?_eq_some_iff.1 hg).1
    have hsz : l.length * k ≤ cur.size := by rw [hs]; exact Nat.mul_le_mul_right _ hn
    have hheap : (sortWorldK (fun x => (enc x).flatten) k w g 0 n l'.toArray os).heap = (w.heap.modify g (onCells (putCells id 0 (flatK (fun x => (enc x).flatten) k l'.toArray)))) ++ os := rfl
    have hg' : (sortWorldK (fun x => (enc x).flatten) k w g 0 n l'.toArray os).heap[g]? = some (.cells (putCells id 0 (flatK (fun x => (enc x).flatten) k l'.toArray) cur) t (0, 0)) := by
      rw [hheap, Array.getElem?_append_left (by simpa using hglt), Array.getElem?_modify, if_pos rfl, hg]
      rfl
    refine ⟨⟨cellsOf_len hk l', .inr ⟨g, cap, _, rfl, hb, hg', by omega, hm, ?_, ?_⟩⟩, @Gr.mk ddT _ _ _ rfl rfl rfl ?_ ?_ ?_⟩
    · simp only [putCells, Array.size_mapIdx]; exact hs
    · apply List.ext_getElem?
      intro i
      rw [List.getElem?_take]
      split
      · rename_i hi
        have hi2 : i < cur.size := by rw [hl] at hi; omega
        have hf : i < (flatK (fun x => (enc x).flatten) k l'.toArray).size := by rw [size_flatK, List.size_toArray]; exact hi
        rw [flatK_get hk l' i hi]
        simp only [Array.getElem?_toList, putCells, Array.getElem?_mapIdx, Array.getElem?_eq_getElem hi2, Option.map_some, Nat.sub_zero, Nat.zero_add, Nat.zero_le, true_and, if_pos hf, id]
      · rename_i hi
        rw [List.getElem?_eq_none (by rw [cellsOf_len hk]; omega)]
    · rw [hheap]; simp
    · intro b hb1 hne
      rw [hheap, Array.getElem?_append_left (by simpa using hb1), Array.getElem?_modify, if_neg (fun e => hne e.symm)]
    · intro _
      show w.drawn ≤ w.drawn + n
      omega
theorem permIn_list {d d' : Array α} (h : PermIn 0 d.size d d') : d'.toList.Perm d.toList := by
  have h1 := h.2.2
  have e1 : d.extract 0 d.size = d := by simp
  have e2 : d'.extract 0 d.size = d' := by rw [← h.1]; simp
  rw [e1, e2] at h1
  exact h1
end
theorem sort_own {P : Program} {ρ : Ren} {α : Type} [Inhabited α] (L : SlLaysF0.n6 P ρ) {enc : α → Chs} {k : Nat} (aE : ∀ w, (isAgg (ρ.t 24)).run P w = .ok true w) (zE : ∀ w, (Go.sizeOf (ρ.t 24)).run P w = .ok k w) (hk : ∀ x, (enc x).flatten.length = k)
    (h1 : ∀ x, (enc x).flatten.all (·.oneCell') = true) (cf : α → α → Int) (hO : SWO (ltOf cf)) (g : Nat) (cb : Array Value) (eg : ∀ args w, (callFunc g args).run P w = .ok (.enter g args) w) {h : SlH} {l : List α} {t : TypeId} {w : World} (O : OwnS 0 t k enc h l w) (hl0 : 0 < l.length) (hl : l.length < 4611686018427387904)
    (hc : ∀ w1, @Gr ddT (fun b => (slV h l).ownBlock = some b) w w1 → (∃ l', OwnS 0 t k enc h l' w1) → ∀ x y, Calls P g (#[aggOf (enc x), aggOf (enc y)] ++ cb) w1 (Ret fun v w2 => v = .int .i64 (cf x y) ∧ @Gr ddT nob w1 w2)) :
    Calls P (ρ.f 6) #[slV h l, .func (.func g) #[] cb] w (Ret fun v w' => ∃ l' : List α, v = .tuple #[] ∧ @Gr ddT (fun b => (slV h l).ownBlock = some b) w w' ∧ OwnS 0 t k enc h l' w' ∧ (l'.Perm l ∧ ∀ i j, i < j → j < l'.length → ¬ cf (nth l' j) (nth l' i) < 0)) := by
  have hq := O.1
  obtain ⟨b, cap, hb, hh⟩ : ∃ b cap, slV h l = .slice (some ⟨b, 0, none⟩) l.length cap ∧ h = ⟨some ⟨b, 0, none⟩, b, 0, cap⟩ := by
    rcases hq.2 with ⟨hv, h0⟩ | ⟨b, cap, cur, hv, _⟩
    · omega
    · refine ⟨b, cap, hv, ?_⟩
      simp only [slV, Value.slice.injEq, true_and] at hv
      have := O.2 _ hv.1
      simp only [Addr.mk.injEq] at this
      cases h
      simp only at hv this
      simp [hv.1, hv.2, this.1, this.2.1]
  rw [hb] at hq
  have hblk : b < w.heap.size := by
    rcases hq.2 with ⟨hv, _⟩ | ⟨g', cap', cur, hv, _, hg, _⟩
    · cases hv
    · simp only [Value.slice.injEq, Option.some.injEq, Addr.mk.injEq, and_true, true_and] at hv
      rw [hv.1]; exact (Array.getElem?_eq_some_iff.1 hg).1
  have hown : ∀ c, (slV h l).ownBlock = some c ↔ c = b := by
    intro c; rw [hb]; simp [Value.ownBlock, eq_comm]
  have hgr : ∀ (w1 : World), @Gr ddT (fun c => c = b) w w1 → @Gr ddT (fun c => (slV h l).ownBlock = some c) w w1 := fun w1 hg => @Gr.mono ddT _ _ _ _ hg (fun c hcb => (hown c).2 hcb)
  have own' : ∀ {l' : List α} {w1 : World}, w1.ownsRow 0 t k (.slice (some ⟨b, 0, none⟩) l'.length cap) l'.length (cellsOf enc l') → OwnS 0 t k enc h l' w1 := fun {l' w1} ho => by
    refine ⟨?_, O.2⟩
    rw [hh]; exact ho
  rw [hb]
  have key := AnyQ.slices_SortFunc L k aE zE (fun x => (enc x).flatten) hk (fun x v hv => List.all_eq_true.1 (h1 x) v hv) cf hO g cb b 0 cap l.toArray w eg ?_ (holds_of_own (h := h) hk hq) hblk (by simpa using hl)
  · rw [List.size_toArray] at key
    refine key.mono ?_
    rintro e w' ⟨rfl, d', n, os, hp, hs, rfl⟩
    have hsz : d'.toList.length = l.length := by rw [Array.length_toList, hp.1]; simp
    have h2 := own_of_put (l' := d'.toList) (n := n) (os := os) hk hq hsz
    refine ⟨_, rfl, d'.toList, rfl, ?_, ?_, ?_, ?_⟩
    · have h3 := h2.2
      rw [Array.toArray_toList] at h3
      have h4 := hgr _ h3
      rw [hb] at h4
      exact h4
    · have h3 := h2.1
      rw [Array.toArray_toList] at h3
      exact own' h3
    · have := permIn_list hp
      simpa using this
    · intro i j hij hj hlt
      have h5 := hs i j (Nat.zero_le _) hij (by omega)
      have a1 := arr_nth d'.toList j hj
      have a2 := arr_nth d'.toList i (by omega)
      rw [Array.toArray_toList] at a1 a2
      rw [a1, a2, ltOf, decide_eq_false_iff_not] at h5
      exact h5 hlt
  · intro m os dk hdk x y
    have hsz : dk.toList.length = l.length := by rw [Array.length_toList, hdk]; simp
    have h2 := own_of_put (l' := dk.toList) (n := m) (os := os) hk hq hsz
    rw [Array.toArray_toList] at h2
    refine (hc _ (hgr _ h2.2) ⟨_, own' h2.1⟩ x y).mono ?_
    rintro e w' ⟨v, rfl, rfl, hg⟩
    obtain ⟨q, os', he⟩ := grown_of hg
    exact ⟨rfl, q, os', he⟩
theorem gr_ofT [DD] {M : Nat → Prop} {w w' : World} (h : @Gr ddT M w w') : Gr M w w' := by
  obtain ⟨h1, h2, h3, h4, h5, h6⟩ := h
  exact ⟨h1, h2, h3, h4, h5, fun _ => h6 trivial⟩
theorem enters_callable {P : Program} {k : FuncId} (h : callable P k = true) : ∀ args w, (callFunc k args).run P w = .ok (.enter k args) w := by
  intro args w
  unfold callable at h
  cases hk : P.funcs[k]? with
  | none => rw [hk] at h; cases h
  | some fn =>
    rw [hk] at h
    simp only [Bool.and_eq_true, Bool.not_eq_true'] at h
    have hb : fn.body.isNone = false := by cases hfb : fn.body <;> simp_all
    simp only [callFunc, Sem.run_bind, run_program, Result.andThen_ok, hk, h.1, hb, Bool.false_eq_true, if_false, Sem.run_pure]
end Go.Proofs.YthjdhfoeckfmbaaGreat
namespace Go.Proofs.YthjdhfoeckfmbaaGreat
open Go
set_option linter.unusedVariables false
set_option linter.unusedSimpArgs false
def compactTo (s : List ID) : Nat → List ID
  | 0 => []
  | n + 1 => if 0 < n ∧ nth s n = nth s (n - 1) then compactTo s n else compactTo s n ++ [nth s n]
def compactL (s : List ID) : List ID := compactTo s s.length
theorem compactTo_uniq {s : List ID} : ∀ (k : Nat), k ≤ s.length → (∀ i, i < k → 1 ≤ i → ¬ nth s i = nth s (i - 1)) → compactTo s k = s.take k
  | 0, _, _ => by simp [compactTo]
  | k + 1, hk, h => by
    rw [compactTo, if_neg, compactTo_uniq k (by omega) (fun i hi h1 => h i (by omega) h1), take_snoc (by omega)]
    rintro ⟨h1, h2⟩
    exact h k (by omega) h1 h2
theorem nth_drop {α : Type} [Inhabited α] {l : List α} {a j : Nat} (h : j < (l.drop a).length) : nth (l.drop a) j = nth l (a + j) := by
  have h2 : a + j < l.length := by rw [List.length_drop] at h; omega
  rw [nth_eq h, nth_eq h2, List.getElem_drop]
theorem nth_set_ne {α : Type} [Inhabited α] {l : List α} {i j : Nat} {x : α} (h : i ≠ j) : nth (l.set i x) j = nth l j := by
  show (l.set i x).getD j default = l.getD j default
  rw [List.getD_eq_getElem?_getD, List.getD_eq_getElem?_getD, List.getElem?_set_ne h]
theorem take_set_succ {α : Type} {l : List α} {k : Nat} {x : α} (h : k < l.length) : (l.set k x).take (k + 1) = l.take k ++ [x] := by
  have e : l.take k ++ x :: l.drop (k + 1) = (l.take k ++ [x]) ++ l.drop (k + 1) := by simp
  have e2 : k + 1 = (l.take k ++ [x]).length := by simp; omega
  rw [List.set_eq_take_append_cons_drop, if_pos h, e, e2, List.take_left']
  rw [← e2]
section
variable {s t : List ID} {k0 kk j : Nat}
theorem cp_start (hn : ∀ i, i < k0 → 1 ≤ i → ¬ nth s i = nth s (i - 1)) (h1 : 1 ≤ k0) (hk : k0 < s.length) (he : nth s k0 = nth s (k0 - 1)) : s.take k0 = compactTo s (k0 + 1) := by
  rw [compactTo, if_pos ⟨h1, he⟩, compactTo_uniq k0 (by omega) hn]
theorem cp_next_y (hp : t.take kk = compactTo s (k0 + j)) (ht : ∀ i, k0 + j - 1 ≤ i → nth t i = nth s i) (hl : t.length = s.length) (hj : j < (t.drop k0).length) (h1 : 1 ≤ j) (h0 : 1 ≤ k0) (hkk : kk + 1 ≤ k0 + j)
    (h : ¬ nth (t.drop k0) j = nth (t.drop k0) (j - 1)) : (t.set kk (nth (t.drop k0) j)).take (kk + 1) = compactTo s (k0 + (j + 1)) := by
  rw [nth_drop hj, nth_drop (by omega)] at h
  rw [ht _ (by omega), ht _ (by omega)] at h
  rw [List.length_drop] at hj
  rw [take_set_succ (by omega), hp, show k0 + (j + 1) = (k0 + j) + 1 from by omega, compactTo, if_neg, nth_drop (by rw [List.length_drop]; omega), ht _ (by omega)]
  rintro ⟨_, h3⟩
  exact h (by rw [h3]; congr 1; omega)
theorem cp_next_n (hp : t.take kk = compactTo s (k0 + j)) (ht : ∀ i, k0 + j - 1 ≤ i → nth t i = nth s i) (hl : t.length = s.length) (hj : j < (t.drop k0).length) (h1 : 1 ≤ j) (h0 : 1 ≤ k0)
    (h : nth (t.drop k0) j = nth (t.drop k0) (j - 1)) : t.take kk = compactTo s (k0 + (j + 1)) := by
  rw [nth_drop hj, nth_drop (by omega)] at h
  rw [ht _ (by omega), ht _ (by omega)] at h
  rw [hp, show k0 + (j + 1) = (k0 + j) + 1 from by omega, compactTo, if_pos]
  exact ⟨by omega, by rw [h]; congr 1; omega⟩
theorem cp_rest (ht : ∀ i, k0 + j - 1 ≤ i → nth t i = nth s i) (hkk : kk + 1 ≤ k0 + j) {x : ID} : ∀ i, k0 + (j + 1) - 1 ≤ i → nth (t.set kk x) i = nth s i := fun i hi => by
  rw [nth_set_ne (by omega)]; exact ht i (by omega)
theorem cp_end {z : List ID} (hp : t.take kk = compactTo s (k0 + j)) (hl : t.length = s.length) (hj : (t.drop k0).length ≤ j) (hj2 : k0 + j ≤ s.length) (hk : kk ≤ t.length) : (t.take kk ++ z).take kk = compactL s := by
  rw [List.take_append_of_le_length (by simp; omega), List.take_take, Nat.min_self, hp, compactL]
  rw [List.length_drop] at hj
  rw [show k0 + j = s.length from by omega]
theorem cp_all (hn : ∀ i, i < k0 → 1 ≤ i → ¬ nth s i = nth s (i - 1)) (hk : s.length ≤ k0) : s = compactL s := by
  rw [compactL, compactTo_uniq s.length (Nat.le_refl _) (fun i hi h1 => hn i (by omega) h1), List.take_length]
end
def Rise (l : List ID) : Prop := l.Pairwise (fun a b => cmpId a b = -1)
theorem rise_mem_unique : ∀ {a b : List ID}, Rise a → Rise b → (∀ x, x ∈ a ↔ x ∈ b) → a = b
  | [], [], _, _, _ => rfl
  | [], y :: b, _, _, h => by have := (h y).2 (by simp); simp at this
  | x :: a, [], _, _, h => by have := (h x).1 (by simp); simp at this
  | x :: a, y :: b, ha, hb, h => by
    have ha' := List.pairwise_cons.1 ha
    have hb' := List.pairwise_cons.1 hb
    have hxy : x = y := by
      rcases List.mem_cons.1 ((h x).1 (by simp)) with h1 | h1
      · exact h1
      · rcases List.mem_cons.1 ((h y).2 (by simp)) with h2 | h2
        · exact h2.symm
        · have c1 := hb'.1 x h1
          have c2 := ha'.1 y h2
          rw [cmpId_swap c1] at c2; cases c2
    subst hxy
    have nx : ∀ {l : List ID}, (∀ z ∈ l, cmpId x z = -1) → x ∉ l := fun hl hx => by
      have := hl x hx; rw [cmpId_self] at this; cases this
    rw [rise_mem_unique ha'.2 hb'.2 fun z => ?_]
    constructor
    · intro hz
      rcases List.mem_cons.1 ((h z).1 (List.mem_cons_of_mem _ hz)) with e | e
      · subst e; exact (nx ha'.1 hz).elim
      · exact e
    · intro hz
      rcases List.mem_cons.1 ((h z).2 (List.mem_cons_of_mem _ hz)) with e | e
      · subst e; exact (nx hb'.1 hz).elim
      · exact e
theorem swo_id : Go.Sort.SWO (Go.Proofs.ltOf cmpId) := by
  refine ⟨fun x => ?_, fun x y z => ?_, fun x y z => ?_⟩
  · simp [Go.Proofs.ltOf, cmpId_self]
  · simp only [Go.Proofs.ltOf, decide_eq_true_eq, cmpId_lt]
    exact fun h1 h2 => cmpId_trans h1 h2
  · simp only [Go.Proofs.ltOf, decide_eq_false_iff_not, cmpId_lt]
    intro h1 h2 h3
    rcases cmpId_vals x y with h | h | h
    · exact h1 h
    · have := cmpId_eq h; subst this; exact h2 h3
    · have h4 := cmpId_swap' h
      rcases cmpId_vals y z with h5 | h5 | h5
      · exact h2 h5
      · have := cmpId_eq h5; subst this
        rw [h] at h3; cases h3
      · have h6 := cmpId_swap' h5
        have := cmpId_trans h6 h4
        rw [cmpId_swap this] at h3; cases h3
theorem compactTo_rise {s : List ID} (h : ∀ i j, i < j → j < s.length → ¬ cmpId (nth s j) (nth s i) < 0) : ∀ k, k ≤ s.length → Rise (compactTo s k) ∧ (∀ x ∈ compactTo s k, ∃ i, i < k ∧ x = nth s i) ∧ (∀ i, i < k → nth s i ∈ compactTo s k) ∧ (∀ x ∈ compactTo s k, 0 < k → ¬ x = nth s (k - 1) → cmpId x (nth s (k - 1)) = -1)
  | 0, _ => by simp [compactTo, Rise]
  | k + 1, hk => by
    obtain ⟨h1, h2, h3, h4⟩ := compactTo_rise h k (by omega)
    have le : ∀ i, i < k → ¬ nth s i = nth s k → cmpId (nth s i) (nth s k) = -1 := fun i hi hne => by
      have h5 := h i k hi (by omega)
      rcases cmpId_vals (nth s i) (nth s k) with h6 | h6 | h6
      · exact h6
      · exact absurd (cmpId_eq h6) hne
      · have := cmpId_swap' h6
        exact absurd (by rw [this]; decide) h5
    rw [compactTo]
    split
    · rename_i hh
      refine ⟨h1, fun x hx => ?_, fun i hi => ?_, fun x hx _ hne => ?_⟩
      · obtain ⟨i, hi, e⟩ := h2 x hx; exact ⟨i, by omega, e⟩
      · rcases Nat.lt_or_ge i k with hi2 | hi2
        · exact h3 i hi2
        · rw [show i = k from by omega, hh.2]; exact h3 _ (by omega)
      · obtain ⟨i, hi, e⟩ := h2 x hx
        subst e
        exact le i hi hne
    · rename_i hh
      refine ⟨?_, fun x hx => ?_, fun i hi => ?_, fun x hx _ hne => ?_⟩
      · refine List.pairwise_append.2 ⟨h1, List.pairwise_singleton _ _, fun x hx y hy => ?_⟩
        rw [List.mem_singleton.1 hy]
        obtain ⟨i, hi, e⟩ := h2 x hx
        subst e
        refine le i hi fun e2 => ?_
        -- x equals the new one: then so does the one ahead of it
        have hne : ¬ nth s k = nth s (k - 1) := fun e3 => hh ⟨by omega, e3⟩
        rcases Nat.lt_or_ge i (k - 1) with hi2 | hi2
        · have c1 := le (k - 1) (by omega) (fun e3 => hne e3.symm)
          have c2 := h i (k - 1) hi2 (by omega)
          rw [e2] at c2
          exact c2 (by rw [c1]; decide)
        · exact hne (by rw [← e2, show i = k - 1 from by omega])
      · rcases List.mem_append.1 hx with hx | hx
        · obtain ⟨i, hi, e⟩ := h2 x hx; exact ⟨i, by omega, e⟩
        · exact ⟨k, by omega, List.mem_singleton.1 hx⟩
      · rcases Nat.lt_or_ge i k with hi2 | hi2
        · exact List.mem_append_left _ (h3 i hi2)
        · rw [show i = k from by omega]; simp
      · rcases List.mem_append.1 hx with hx | hx
        · obtain ⟨i, hi, e⟩ := h2 x hx
          subst e
          exact le i hi hne
        · exact absurd (List.mem_singleton.1 hx) hne
theorem compact_set {s r : List ID} (hp : s.Perm r) (h : ∀ i j, i < j → j < s.length → ¬ cmpId (nth s j) (nth s i) < 0) : Rise (compactL s) ∧ ∀ x, x ∈ compactL s ↔ x ∈ r := by
  obtain ⟨h1, h2, h3, _⟩ := compactTo_rise h s.length (Nat.le_refl _)
  refine ⟨h1, fun x => ⟨fun hx => ?_, fun hx => ?_⟩⟩
  · obtain ⟨i, hi, e⟩ := h2 x hx
    rw [e]; exact hp.mem_iff.1 (nth_mem hi)
  · obtain ⟨i, hi, rfl⟩ := List.getElem_of_mem (hp.mem_iff.2 hx)
    have := h3 i hi
    rw [nth_eq hi] at this
    exact this
theorem zero_least (x : ID) : x = zeroId ∨ cmpId zeroId x = -1 := by
  rcases cmpId_vals zeroId x with h | h | h
  · exact .inr h
  · exact .inl (cmpId_eq h).symm
  · exfalso
    have key : ∀ (n : Nat) (l : List UInt8), l.length = n → ¬ Lib.compareBytes (List.replicate n 0) l = 1 := by
      intro n
      induction n with
      | zero => intro l hl; rw [List.length_eq_zero_iff.1 hl]; decide
      | succ n ih =>
        intro l hl
        cases l with
        | nil => simp at hl
        | cons y l =>
          rw [List.replicate_succ, Lib.compareBytes]
          split
          · decide
          · split
            · rename_i h2; exact absurd h2 (by simp)
            · exact ih l (by simpa using hl)
    exact key 32 (idList x) rfl h
def dropZ (l : List ID) : List ID := if 0 < l.length ∧ nth l 0 = zeroId then l.drop 1 else l
theorem dropZ_set {l : List ID} (h : Rise l) : Rise (dropZ l) ∧ ∀ x, x ∈ dropZ l ↔ x ∈ l ∧ ¬ x = zeroId := by
  unfold dropZ
  cases l with
  | nil => simp [Rise]
  | cons y l =>
    have h' := List.pairwise_cons.1 h
    split
    · rename_i hh
      have e : y = zeroId := hh.2
      subst e
      refine ⟨h'.2, fun x => ⟨fun hx => ⟨by simpa using Or.inr hx, fun e => ?_⟩, fun hx => ?_⟩⟩
      · subst e
        have := h'.1 _ hx; rw [cmpId_self] at this; cases this
      · rcases List.mem_cons.1 hx.1 with e | e
        · exact absurd e hx.2
        · exact e
    · rename_i hh
      have e : ¬ y = zeroId := fun e => hh ⟨by simp, e⟩
      refine ⟨h, fun x => ⟨fun hx => ⟨hx, fun e2 => ?_⟩, fun hx => hx.1⟩⟩
      subst e2
      rcases List.mem_cons.1 hx with e3 | e3
      · exact e e3.symm
      · have c1 := h'.1 _ e3
        rcases zero_least y with c2 | c2
        · exact e c2
        · rw [cmpId_swap c2] at c1; cases c1
def putTo (l : List ID) (x : ID) : Nat → List ID × Bool
  | 0 => ([], false)
  | n + 1 =>
    let p := putTo l x n
    let c := cmpId (nth l n) x
    if 0 ≤ c ∧ p.2 = false then (if 0 < c then p.1 ++ [x] ++ [nth l n] else p.1 ++ [nth l n], true) else (p.1 ++ [nth l n], p.2)
def riseL (l : List ID) (x : ID) : List ID := if (putTo l x l.length).2 = true then (putTo l x l.length).1 else (putTo l x l.length).1 ++ [x]
def putL (l : List ID) (x : ID) : List ID := if x = zeroId then l else riseL l x
theorem putTo_set {l : List ID} (h : Rise l) (x : ID) : ∀ n, n ≤ l.length →
    ((putTo l x n).2 = false → (putTo l x n).1 = l.take n ∧ ∀ i, i < n → cmpId (nth l i) x = -1) ∧
    ((putTo l x n).2 = true → Rise (putTo l x n).1 ∧ (∀ y, y ∈ (putTo l x n).1 ↔ y = x ∨ ∃ i, i < n ∧ y = nth l i) ∧ 0 < n ∧ (nth l (n - 1) = x ∨ cmpId x (nth l (n - 1)) = -1))
  | 0, _ => by simp [putTo]
  | n + 1, hn => by
    obtain ⟨h1, h2⟩ := putTo_set h x n (by omega)
    have lt : ∀ i j, i < j → j < l.length → cmpId (nth l i) (nth l j) = -1 := fun i j hij hj => by
      have := List.pairwise_iff_getElem.1 h i j (by omega) hj hij
      rw [nth_eq (by omega : i < l.length), nth_eq hj]; exact this
    have eP : putTo l x (n + 1) = if 0 ≤ cmpId (nth l n) x ∧ (putTo l x n).2 = false then (if 0 < cmpId (nth l n) x then (putTo l x n).1 ++ [x] ++ [nth l n] else (putTo l x n).1 ++ [nth l n], true) else ((putTo l x n).1 ++ [nth l n], (putTo l x n).2) := rfl
    by_cases hc : 0 ≤ cmpId (nth l n) x ∧ (putTo l x n).2 = false
    · rw [eP, if_pos hc]
      obtain ⟨e1, e2⟩ := h1 hc.2
      refine ⟨fun hf => (by cases hf), fun _ => ?_⟩
      have hmem : ∀ y, y ∈ l.take n ↔ ∃ i, i < n ∧ y = nth l i := fun y => by
        constructor
        · intro hy
          obtain ⟨i, hi, rfl⟩ := List.getElem_of_mem hy
          have hi' : i < n ∧ i < l.length := by rw [List.length_take] at hi; omega
          exact ⟨i, hi'.1, by rw [List.getElem_take, nth_eq hi'.2]⟩
        · rintro ⟨i, hi, rfl⟩
          rw [nth_eq (by omega : i < l.length)]
          exact List.mem_take_iff_getElem.2 ⟨i, by omega, rfl⟩
      have hr : Rise (l.take n) := h.sublist (List.take_sublist _ _)
      by_cases h0 : 0 < cmpId (nth l n) x
      · have hgt : cmpId x (nth l n) = -1 := by
          rcases cmpId_vals (nth l n) x with h3 | h3 | h3
          · rw [h3] at h0; cases h0
          · rw [h3] at h0; cases h0
          · exact cmpId_swap' h3
        rw [if_pos h0, e1]
        simp only
        refine ⟨?_, fun y => ?_, by omega, .inr hgt⟩
        · refine List.pairwise_append.2 ⟨List.pairwise_append.2 ⟨hr, List.pairwise_singleton _ _, fun a ha b hb => ?_⟩, List.pairwise_singleton _ _, fun a ha b hb => ?_⟩
          · rw [List.mem_singleton.1 hb]
            obtain ⟨i, hi, rfl⟩ := (hmem a).1 ha
            exact e2 i hi
          · rw [List.mem_singleton.1 hb]
            rcases List.mem_append.1 ha with ha | ha
            · obtain ⟨i, hi, rfl⟩ := (hmem a).1 ha
              exact lt i n hi (by omega)
            · rw [List.mem_singleton.1 ha]; exact hgt
        · simp only [List.mem_append, List.mem_singleton, hmem]
          constructor
          · rintro ((⟨i, hi, e⟩ | e) | e)
            · exact .inr ⟨i, by omega, e⟩
            · exact .inl e
            · exact .inr ⟨n, by omega, e⟩
          · rintro (e | ⟨i, hi, e⟩)
            · exact .inl (.inr e)
            · rcases Nat.lt_or_ge i n with hi2 | hi2
              · exact .inl (.inl ⟨i, hi2, e⟩)
              · exact .inr (by rw [e, show i = n from by omega])
      · have heq : nth l n = x := by
          rcases cmpId_vals (nth l n) x with h3 | h3 | h3
          · rw [h3] at hc; exact absurd hc.1 (by decide)
          · exact cmpId_eq h3
          · rw [h3] at h0; exact absurd (by decide) h0
        rw [if_neg h0, e1]
        simp only
        refine ⟨?_, fun y => ?_, by omega, .inl heq⟩
        · refine List.pairwise_append.2 ⟨hr, List.pairwise_singleton _ _, fun a ha b hb => ?_⟩
          rw [List.mem_singleton.1 hb]
          obtain ⟨i, hi, rfl⟩ := (hmem a).1 ha
          exact lt i n hi (by omega)
        · simp only [List.mem_append, List.mem_singleton, hmem]
          constructor
          · rintro (⟨i, hi, e⟩ | e)
            · exact .inr ⟨i, by omega, e⟩
            · exact .inl (e.trans heq)
          · rintro (e | ⟨i, hi, e⟩)
            · exact .inr (e.trans heq.symm)
            · rcases Nat.lt_or_ge i n with hi2 | hi2
              · exact .inl ⟨i, hi2, e⟩
              · exact .inr (by rw [e, show i = n from by omega])
    · rw [eP, if_neg hc]
      refine ⟨fun hf => ?_, fun ht => ?_⟩
      · obtain ⟨e1, e2⟩ := h1 hf
        have h3 : ¬ 0 ≤ cmpId (nth l n) x := fun h0 => hc ⟨h0, hf⟩
        refine ⟨by rw [e1, take_snoc (by omega)], fun i hi => ?_⟩
        rcases Nat.lt_or_ge i n with hi2 | hi2
        · exact e2 i hi2
        · rw [show i = n from by omega]
          rcases cmpId_vals (nth l n) x with h4 | h4 | h4
          · exact h4
          · rw [h4] at h3; exact absurd (by decide) h3
          · rw [h4] at h3; exact absurd (by decide) h3
      · obtain ⟨r1, r2, r3, r4⟩ := h2 ht
        have hlast : cmpId x (nth l n) = -1 := by
          have := lt (n - 1) n (by omega) (by omega)
          rcases r4 with r4 | r4
          · rw [← r4]; exact this
          · exact cmpId_trans r4 this
        refine ⟨?_, fun y => ?_, by omega, .inr hlast⟩
        · refine List.pairwise_append.2 ⟨r1, List.pairwise_singleton _ _, fun a ha b hb => ?_⟩
          rw [List.mem_singleton.1 hb]
          rcases (r2 a).1 ha with e | ⟨i, hi, e⟩
          · rw [e]; exact hlast
          · rw [e]; exact lt i n hi (by omega)
        · simp only [List.mem_append, List.mem_singleton, r2]
          constructor
          · rintro ((e | ⟨i, hi, e⟩) | e)
            · exact .inl e
            · exact .inr ⟨i, by omega, e⟩
            · exact .inr ⟨n, by omega, e⟩
          · rintro (e | ⟨i, hi, e⟩)
            · exact .inl (.inl e)
            · rcases Nat.lt_or_ge i n with hi2 | hi2
              · exact .inl (.inr ⟨i, hi2, e⟩)
              · exact .inr (by rw [e, show i = n from by omega])
theorem nth_all {l : List ID} {y : ID} : (∃ i, i < l.length ∧ y = nth l i) ↔ y ∈ l := by
  constructor
  · rintro ⟨i, hi, rfl⟩; exact nth_mem hi
  · intro h
    obtain ⟨i, hi, rfl⟩ := List.getElem_of_mem h
    exact ⟨i, hi, (nth_eq hi).symm⟩
theorem riseL_set {l : List ID} (h : Rise l) (x : ID) : Rise (riseL l x) ∧ ∀ y, y ∈ riseL l x ↔ y = x ∨ y ∈ l := by
  obtain ⟨h1, h2⟩ := putTo_set h x l.length (Nat.le_refl _)
  unfold riseL
  split
  · rename_i ht
    obtain ⟨r1, r2, _, _⟩ := h2 ht
    exact ⟨r1, fun y => by rw [r2, nth_all]⟩
  · rename_i ht
    obtain ⟨e1, e2⟩ := h1 (by simpa using ht)
    rw [e1, List.take_length]
    refine ⟨List.pairwise_append.2 ⟨h, List.pairwise_singleton _ _, fun a ha b hb => ?_⟩, fun y => ?_⟩
    · rw [List.mem_singleton.1 hb]
      obtain ⟨i, hi, rfl⟩ := nth_all.2 ha
      exact e2 i hi
    · simp only [List.mem_append, List.mem_singleton]
      exact Or.comm
theorem putL_set {l : List ID} (h : Rise l) (x : ID) : Rise (putL l x) ∧ ∀ y, y ∈ putL l x ↔ (y = x ∧ ¬ x = zeroId) ∨ y ∈ l := by
  unfold putL
  split
  · rename_i e
    exact ⟨h, fun y => ⟨.inr, fun hy => hy.elim (fun hy => absurd e hy.2) id⟩⟩
  · rename_i e
    obtain ⟨h1, h2⟩ := riseL_set h x
    exact ⟨h1, fun y => by rw [h2]; exact ⟨fun hy => hy.imp (fun e2 => ⟨e2, e⟩) id, fun hy => hy.imp And.left id⟩⟩
def putAll (l : List ID) (xs : List ID) : List ID := xs.foldl putL l
theorem putAll_set : ∀ (xs l : List ID), Rise l → Rise (putAll l xs) ∧ ∀ y, y ∈ putAll l xs ↔ (y ∈ xs ∧ ¬ y = zeroId) ∨ y ∈ l
  | [], l, h => ⟨h, fun y => by simp [putAll]⟩
  | x :: xs, l, h => by
    obtain ⟨h1, h2⟩ := putL_set h x
    obtain ⟨h3, h4⟩ := putAll_set xs (putL l x) h1
    refine ⟨h3, fun y => ?_⟩
    show y ∈ putAll (putL l x) xs ↔ _
    rw [h4, h2]
    constructor
    · rintro (⟨a, b⟩ | ⟨a, b⟩ | a)
      · exact .inl ⟨by simp [a], b⟩
      · exact .inl ⟨by simp [a], by rw [a]; exact b⟩
      · exact .inr a
    · rintro (⟨a, b⟩ | a)
      · rcases List.mem_cons.1 a with e | e
        · exact .inr (.inl ⟨e, by rw [← e]; exact b⟩)
        · exact .inl ⟨e, b⟩
      · exact .inr (.inr a)
def linksOf (b : List UInt8) : List ID := putAll [] (linksRaw b)
theorem links_eq {b : List UInt8} {s : List ID} (hp : s.Perm (linksRaw b)) (h : ∀ i j, i < j → j < s.length → ¬ cmpId (nth s j) (nth s i) < 0) : dropZ (compactL s) = linksOf b := by
  obtain ⟨h1, h2⟩ := compact_set hp h
  obtain ⟨h3, h4⟩ := dropZ_set h1
  obtain ⟨h5, h6⟩ := putAll_set (linksRaw b) [] List.Pairwise.nil
  refine rise_mem_unique h3 h5 fun x => ?_
  rw [h4, h2]
  show _ ↔ x ∈ putAll [] (linksRaw b)
  rw [h6]
  simp
end Go.Proofs.YthjdhfoeckfmbaaGreat
namespace Go.Proofs.YthjdhfoeckfmbaaGreat
open Go
set_option linter.unusedVariables false
set_option linter.unusedSimpArgs false
set_option linter.unusedSectionVars false
variable [DD]
section
variable {α : Type} {enc : α → Chs} {k : Nat} {h : SlH} {l l' : List α} {w w' w0 : World} {M : Nat → Prop} {B : List Own} {I : List Imm}
theorem Sl.own {n : List α} {h' : SlH} (s : Sl (fun b => (slV h l).ownBlock = some b) enc k h' n w) : Sl (fun b => (slV h l').ownBlock = some b) enc k h' n w :=
  s.mono fun b hb => by rw [own_slV (l' := l)]; exact hb
theorem Ctx.consume {t : TypeId} (H : Ctx w0 M w B I) (i : Nat) (hi : B[i]? = some (rowR t k enc h l)) (hg : Gr (fun b => (slV h l).ownBlock = some b) w w') {hN : SlH} {N : List α} (hs : Sl (fun b => (slV h l).ownBlock = some b) enc k hN N w') :
    Ctx w0 M w' (B.eraseIdx i) (slI (fun b => (slV h l).ownBlock = some b) enc k hN N :: I) := by
  have H2 := H.upd i hi ⟨(slV h l).ownBlock, Sl (fun b => (slV h l).ownBlock = some b) enc k hN N, fun w w' hw hp => (slI (fun b => (slV h l).ownBlock = some b) enc k hN N).loc w w' hw hp⟩ hg hs (fun b hb => .inl hb)
  have hil : i < B.length := (List.getElem?_eq_some_iff.1 hi).1
  have hil' : i < (B.set i (⟨(slV h l).ownBlock, Sl (fun b => (slV h l).ownBlock = some b) enc k hN N, fun w w' hw hp => (slI (fun b => (slV h l).ownBlock = some b) enc k hN N).loc w w' hw hp⟩ : Own)).length := by simpa using hil
  have hget : (B.set i (⟨(slV h l).ownBlock, Sl (fun b => (slV h l).ownBlock = some b) enc k hN N, fun w w' hw hp => (slI (fun b => (slV h l).ownBlock = some b) enc k hN N).loc w w' hw hp⟩ : Own))[i]? = some ⟨(slV h l).ownBlock, Sl (fun b => (slV h l).ownBlock = some b) enc k hN N, fun w w' hw hp => (slI (fun b => (slV h l).ownBlock = some b) enc k hN N).loc w w' hw hp⟩ := by
    rw [List.getElem?_set_self hil]
  have he : B.eraseIdx i = (B.set i (⟨(slV h l).ownBlock, Sl (fun b => (slV h l).ownBlock = some b) enc k hN N, fun w w' hw hp => (slI (fun b => (slV h l).ownBlock = some b) enc k hN N).loc w w' hw hp⟩ : Own)).eraseIdx i := by
    rw [List.eraseIdx_set_eq]
  rw [he]
  generalize hB : B.set i (⟨(slV h l).ownBlock, Sl (fun b => (slV h l).ownBlock = some b) enc k hN N, fun w w' hw hp => (slI (fun b => (slV h l).ownBlock = some b) enc k hN N).loc w w' hw hp⟩ : Own) = B2 at H2 hil' hget
  refine (H2.sub (List.eraseIdx_sublist ..) (fun i hi => hi)).addImm' _ (H2.getOwn i hget) fun b hb => ⟨((H2.own _ (List.mem_of_getElem? hget)).2 b hb).1, fun o ho hob => ?_⟩
  obtain ⟨j, hj, hij, rfl⟩ := List.mem_eraseIdx_iff_getElem.1 ho
  have hpw := List.pairwise_iff_getElem.1 H2.apart
  have hbk : (B2[i]).blk = some b := by rw [(List.getElem?_eq_some_iff.1 hget).2]; exact hb
  rcases Nat.lt_or_gt_of_ne hij with hlt | hgt
  · exact hpw j i _ hil' hlt b hob hbk
  · exact hpw i j hil' _ hgt b hbk hob
theorem C_clear {P : Program} {ρ : Operand → Value} {K : Value → World → Prop} {d : Option Tmp} {ty : TypeId} {pos : String} {af : Array Edge} {g : Option (Nat × Bool)} (H : Ctx w0 M w B I) (i : Nat) {e : TypeId} (hi : B[i]? = some (rowR e k enc h l)) {t e' : TypeId} {x : Operand} {a n c : Nat} (z : α) {zv : Value}
    (hk : ∀ x, (enc x).flatten.length = k) (h1 : (enc z).flatten.all (·.oneCell') = true) (hu : P.underlying t = some (.slice e')) (hz : ∀ w, (zeroValue e').run P w = .ok zv w) (hzc : zv.cells.toList = (enc z).flatten) (k0 : 0 < k) (ha : a < l.length) (hc : l.length ≤ h.c) (hx : ρ x = .slice (hSub h k a h.c).a n c) (hn : n = l.length - a)
    (hK : ∀ w', Gr (fun b => (slV h l).ownBlock = some b) w w' → Ctx w0 M w' (B.set i (rowR e k enc h (l.take a ++ List.replicate (l.length - a) z))) I → K (.tuple #[]) w') : Runs P ρ ⟨d, .call { callee := .builtin .clear, args := #[x], argTypes := #[t] }, ty, pos, af, g⟩ w K := by
  subst hn
  have hq : OwnS 0 e k enc h l w := H.getOwn i hi
  rcases hq.1.2 with ⟨hn, hn2⟩ | ⟨gb, cap, cur, hv, _, hg, hlc, hcm, hcs, htk⟩
  · omega
  have hva : h.a = some ⟨gb, 0, none⟩ ∧ h.c = cap := by
    simp only [slV, Value.slice.injEq] at hv
    exact ⟨hv.1, hv.2.2⟩
  have hbo := hq.2 _ hva.1
  have hbb : gb = h.b ∧ 0 = h.o := by
    simp only [Addr.mk.injEq] at hbo
    exact ⟨hbo.1, hbo.2.1⟩
  obtain ⟨rfl, ho0⟩ := hbb
  have hsa : (hSub h k a h.c).a = some ⟨h.b, a * k, none⟩ := by
    simp only [hSub]
    rw [if_neg (by omega), hva.1]
    by_cases h0 : a * k = 0
    · rw [h0]; rfl
    · simp [Addr.add, h0]
  rw [hsa] at hx
  have hle : (cellsOf enc l).length = l.length * k := cellsOf_len hk l
  have hm : (l.length - a) * k = l.length * k - a * k := Nat.sub_mul ..
  have hak : a * k ≤ l.length * k := Nat.mul_le_mul_right k (Nat.le_of_lt ha)
  have hZ : (Builtin.zeroCells zv.cells (l.length - a)).toList = cellsOf enc (List.replicate (l.length - a) z) := by
    have hl2 : (cellsOf enc (List.replicate (l.length - a) z)).length = (l.length - a) * k := by rw [cellsOf_len hk]; simp
    have hzs : zv.cells.size = k := by rw [← Array.length_toList, hzc, hk]
    apply List.ext_getElem?
    intro q
    rcases Nat.lt_or_ge q ((l.length - a) * k) with hq2 | hq2
    · have hmod : q % k < k := Nat.mod_lt _ k0
      have hdiv : q / k < l.length - a := by rw [Nat.div_lt_iff_lt_mul k0]; exact hq2
      have key : ∀ (m q : Nat), q < m * k → (cellsOf enc (List.replicate m z))[q]? = (enc z).flatten[q % k]? := by
        intro m
        induction m with
        | zero => intro q hq; simp at hq
        | succ m ih =>
          intro q hq
          rw [List.replicate_succ, cellsOf_cons]
          rcases Nat.lt_or_ge q k with hqk | hqk
          · rw [List.getElem?_append_left (by rw [hk]; exact hqk), Nat.mod_eq_of_lt hqk]
          · rw [List.getElem?_append_right (by rw [hk]; exact hqk), hk, ih (q - k) (by rw [Nat.add_mul] at hq; omega), Nat.mod_eq_sub_mod hqk]
      rw [key _ _ hq2, ← hzc]
      simp only [Builtin.zeroCells, Array.getElem?_toList]
      simp [hzs, hq2, hmod]
    · rw [List.getElem?_eq_none (l := cellsOf enc _) (by rw [hl2]; exact hq2), List.getElem?_eq_none]
      simp only [Builtin.zeroCells, Array.length_toList]
      simp [hzs]
      exact hq2
  have hzl : (cellsOf enc (List.replicate (l.length - a) z)).length = l.length * k - a * k := by rw [cellsOf_len hk, List.length_replicate, hm]
  have hcap : l.length * k ≤ cap * k := Nat.mul_le_mul_right k hlc
  have hsz : a * k + 0 + (cellsOf enc (List.replicate (l.length - a) z)).length ≤ cur.size := by rw [hzl, hcs]; omega
  have hone : ∀ u ∈ cellsOf enc (List.replicate (l.length - a) z), u.oneCell' = true := by
    intro u hu'
    simp only [cellsOf, List.mem_flatten, List.mem_map] at hu'
    obtain ⟨_, ⟨y, hy, rfl⟩, hu3⟩ := hu'
    rw [List.eq_of_mem_replicate hy] at hu3
    exact List.all_eq_true.1 h1 u hu3
  have hst := run_storeCells_at P h.b (a * k) e (cellsOf enc (List.replicate (l.length - a) z)) 0 cur w hg hsz hone
  have htl : cellsOf enc (l.take a) = (cellsOf enc l).take (a * k) := by
    have e1 : cellsOf enc l = cellsOf enc (l.take a) ++ cellsOf enc (l.drop a) := by rw [← cellsOf_append, List.take_append_drop]
    have e2 : (cellsOf enc (l.take a)).length = a * k := by rw [cellsOf_len hk, List.length_take, Nat.min_eq_left (Nat.le_of_lt ha)]
    rw [e1, ← e2, List.take_left']
    rfl
  have hnew : cur.toList.take (a * k + 0) ++ cellsOf enc (List.replicate (l.length - a) z) ++ cur.toList.drop (a * k + 0 + (cellsOf enc (List.replicate (l.length - a) z)).length) = cellsOf enc (l.take a ++ List.replicate (l.length - a) z) ++ cur.toList.drop (l.length * k) := by
    rw [cellsOf_append, htl, ← htk, List.take_take, Nat.min_eq_left hak, Nat.add_zero, hzl, show a * k + (l.length * k - a * k) = l.length * k from by omega]
  rw [hnew] at hst
  have hgr : Gr (fun b => (slV h l).ownBlock = some b) w (w.setRow h.b (cellsOf enc (l.take a ++ List.replicate (l.length - a) z) ++ cur.toList.drop (l.length * k)).toArray) :=
    ⟨rfl, rfl, rfl, by simp, fun b hb hn => setRow_other w h.b b _ fun e => hn (by rw [e, hv]; rfl), fun _ => Nat.le_refl _⟩
  have hlen' : (l.take a ++ List.replicate (l.length - a) z).length = l.length := by simp; omega
  have hle' : (cellsOf enc (l.take a ++ List.replicate (l.length - a) z)).length = l.length * k := by rw [cellsOf_len hk, hlen']
  refine .value (v := .tuple #[]) (w' := _) ?_ (hK _ hgr (H.upd i hi (rowR e k enc h (l.take a ++ List.replicate (l.length - a) z)) hgr ⟨⟨by rw [cellsOf_len hk], .inr ⟨h.b, cap, (cellsOf enc (l.take a ++ List.replicate (l.length - a) z) ++ cur.toList.drop (l.length * k)).toArray, by rw [slV, hlen', hva.1, hva.2], Nat.zero_le _, setRow_heap w h.b _ _ e _ hg, by rw [hlen']; exact hlc, hcm, ?_, ?_⟩⟩, hq.2⟩ fun b hb => .inl (by
    simp only [rowR, slV, hva.1] at hb ⊢
    exact hb)))
  · obtain ⟨m, hm⟩ : ∃ m, l.length - a = m + 1 := ⟨l.length - a - 1, by omega⟩
    rw [hm] at hx hZ hst ⊢
    try simp only [Nat.add_zero] at hst
    simp [execOp, resolve, hx, invoke, builtin, Builtin.clear_, run_underlying hu, hz, hZ, hst]
  · simp only [List.size_toArray, List.length_append, hle', List.length_drop, Array.length_toList, hcs]
    omega
  · rw [List.toList_toArray, hlen', ← hle', List.take_left']
    rfl
end
end Go.Proofs.YthjdhfoeckfmbaaGreat
