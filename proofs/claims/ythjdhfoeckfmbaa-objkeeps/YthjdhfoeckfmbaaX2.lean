/- Proved: for every input, pollardlaw04.ObjKeeps returns true and leaves its arguments as they were. No condition. -/
import Derived.Test.YthjdhfoeckfmbaaX1
namespace Go.Proofs.Ythjdhfoeckfmbaa
open Go
set_option maxRecDepth 100000
set_option linter.unusedVariables false
set_option linter.unusedSimpArgs false
set_option linter.unusedSectionVars false
theorem cF23 : callable Try.prog 23 = true := by kernel_rfl
theorem cF24 : callable Try.prog 24 = true := by kernel_rfl
theorem cF28 : callable Try.prog 28 = true := by kernel_rfl
theorem cF59 : callable Try.prog 59 = true := by kernel_rfl
set_option maxHeartbeats 2000000 in
theorem stamp_Get (br : Nat) (r : RdS) (Sr : Nat → Prop) (q : List UInt8 × Bool) (w : World) (Qr : RdQ 92 br Sr r w) (Er : r.st = q) :
    Calls Try.prog 32 #[(.pointer (some ⟨br, 0, none⟩))] w (Ret fun v w' => ∃ (r' : RdS) (X : OpS), v = opV X ∧ Gr (fun c => c = br) w w' ∧ RdQ 92 br Sr r' w' ∧ r'.st = (rdOp q).2 ∧ OwnS w.heap.size 46 2 stampCh X.oh X.over w' ∧ (X.core = (rdOp q).1)) := by
 refine calls_W Try.func32 rfl Try.ntmps32 rfl ?_
 have H0 := Qr
 refine W_seq (W_reg ?_)
 refine O_v rfl (C_alloc H0 [[(.int .i64 0)], [(.int .i64 0)], [(.int .i64 0)], [(.int .i64 0)], [(.int .i64 0)], [(.int .i64 0)], [(.int .i64 0)], [(.string ByteArray.empty)], (idCells zeroId), [(.slice none 0 0)]] Try.zeroValue56 ?_)
 intro b1 w2 hb3 hx4 H5
 refine O_nil (Then_n (W_seq (W_reg ?_)))
 refine O_mv (v := (.pointer (some ⟨br, 0, none⟩))) rfl rfl ?_
 refine O_v rfl (R_callL (vs := [(.pointer (some ⟨br, 0, none⟩)), (.int .i64 2)]) cF26 rfl rfl ((Reader_Num br r Sr q 2 w2 ((H5.pick (B' := [boxR br 92 (rdCh r)]) (I' := [slI Sr encB 1 r.bh r.b]) [1] (by decide) rfl (List.forall_mem_cons.2 ⟨List.mem_of_getElem? (i := 0) rfl, fun _ h => (nomatch h)⟩)).rdStart) Er).ret ?_))
 rintro _ w7 ⟨r6, rfl, hg8, hQ9, hr10⟩
 have H11 := H5.rdUpd (r := r) 1 0 rfl rfl hg8 hQ9
 refine O_v rfl (R_buildL (vs := [(0, (.int .i64 (((rdNum q 2).1) : Int)))]) (v := aggOf [[(.int .i64 (((rdNum q 2).1) : Int))], [(.int .i64 0)], [(.int .i64 0)], [(.int .i64 0)], [(.int .i64 0)], [(.int .i64 0)], [(.int .i64 0)], [(.string ByteArray.empty)], (idCells zeroId), [(.slice none 0 0)]]) rfl (fun _ => by kernel_rfl) ?_)
 refine O_v rfl (C_alloc H11 [[(.int .i64 0)], [(.int .i64 0)], [(.int .i64 0)], [(.int .i64 0)], [(.int .i64 0)], [(.int .i64 0)], [(.int .i64 0)], [(.string ByteArray.empty)], (idCells zeroId), [(.slice none 0 0)]] Try.zeroValue56 ?_)
 intro b12 w13 hb14 hx15 H16
 refine O_u (C_storeW H16 0 rfl (sub := [[(.int .i64 (((rdNum q 2).1) : Int))], [(.int .i64 0)], [(.int .i64 0)], [(.int .i64 0)], [(.int .i64 0)], [(.int .i64 0)], [(.int .i64 0)], [(.string ByteArray.empty)], (idCells zeroId), [(.slice none 0 0)]]) Try.sizeOf56 rfl rfl rfl rfl rfl ?_)
 intro w17 hg18 H19
 refine O_nil (Then_n (W_seq (W_reg ?_)))
 refine O_mv (v := (.pointer (some ⟨br, 0, none⟩))) rfl rfl ?_
 refine O_v rfl (R_callL (vs := [(.pointer (some ⟨br, 0, none⟩))]) cF59 rfl rfl ((stamp_get br r6 Sr ((rdNum q 2).2) w17 ((H19.pick (B' := [boxR br 92 (rdCh r6)]) (I' := [slI Sr encB 1 r6.bh r6.b]) [2] (by decide) rfl (List.forall_mem_cons.2 ⟨List.mem_of_getElem? (i := 0) rfl, fun _ h => (nomatch h)⟩)).rdStart) hr10).ret ?_))
 rintro _ w21 ⟨r20, rfl, hg22, hQ23, hr24⟩
 have H25 := H19.rdUpd (r := r6) 2 0 rfl rfl hg22 hQ23
 refine O_v rfl (R_fieldAddr (off := 1) (oo := 1) Try.underlying56 rfl rfl Try.sizeOf46 rfl rfl ?_)
 refine O_u (C_storeA H25 0 rfl 1 (sub := [[(.int .i64 (((rdAt ((rdNum q 2).2)).1).T))], [(.int .i64 (((rdAt ((rdNum q 2).2)).1).R))]]) [[(.int .i64 (((rdNum q 2).1) : Int))], [(.int .i64 (((rdAt ((rdNum q 2).2)).1).T))], [(.int .i64 (((rdAt ((rdNum q 2).2)).1).R))], [(.int .i64 0)], [(.int .i64 0)], [(.int .i64 0)], [(.int .i64 0)], [(.string ByteArray.empty)], (idCells zeroId), [(.slice none 0 0)]] Try.sizeOf46 rfl rfl rfl rfl ⟨[[(.int .i64 0)], [(.int .i64 0)]], [[(.int .i64 0)], [(.int .i64 0)], [(.int .i64 0)], [(.int .i64 0)], [(.string ByteArray.empty)], (idCells zeroId), [(.slice none 0 0)]], rfl, rfl, rfl⟩ rfl ?_)
 intro w26 hg27 H28
 refine O_nil (Then_n (W_seq (W_reg ?_)))
 refine O_mv (v := (.pointer (some ⟨br, 0, none⟩))) rfl rfl ?_
 refine O_v rfl (R_callL (vs := [(.pointer (some ⟨br, 0, none⟩))]) cF59 rfl rfl ((stamp_get br r20 Sr ((rdAt ((rdNum q 2).2)).2) w26 ((H28.pick (B' := [boxR br 92 (rdCh r20)]) (I' := [slI Sr encB 1 r20.bh r20.b]) [2] (by decide) rfl (List.forall_mem_cons.2 ⟨List.mem_of_getElem? (i := 0) rfl, fun _ h => (nomatch h)⟩)).rdStart) hr24).ret ?_))
 rintro _ w30 ⟨r29, rfl, hg31, hQ32, hr33⟩
 have H34 := H28.rdUpd (r := r20) 2 0 rfl rfl hg31 hQ32
 refine O_v rfl (R_fieldAddr (off := 3) (oo := 3) Try.underlying56 rfl rfl Try.sizeOf46 rfl rfl ?_)
 refine O_u (C_storeA H34 0 rfl 3 (sub := [[(.int .i64 (((rdAt ((rdAt ((rdNum q 2).2)).2)).1).T))], [(.int .i64 (((rdAt ((rdAt ((rdNum q 2).2)).2)).1).R))]]) [[(.int .i64 (((rdNum q 2).1) : Int))], [(.int .i64 (((rdAt ((rdNum q 2).2)).1).T))], [(.int .i64 (((rdAt ((rdNum q 2).2)).1).R))], [(.int .i64 (((rdAt ((rdAt ((rdNum q 2).2)).2)).1).T))], [(.int .i64 (((rdAt ((rdAt ((rdNum q 2).2)).2)).1).R))], [(.int .i64 0)], [(.int .i64 0)], [(.string ByteArray.empty)], (idCells zeroId), [(.slice none 0 0)]] Try.sizeOf46 rfl rfl rfl rfl ⟨[[(.int .i64 0)], [(.int .i64 0)]], [[(.int .i64 0)], [(.int .i64 0)], [(.string ByteArray.empty)], (idCells zeroId), [(.slice none 0 0)]], rfl, rfl, rfl⟩ rfl ?_)
 intro w35 hg36 H37
 refine O_nil (Then_n (W_seq (W_seq (W_reg ?_))))
 refine O_v rfl (R_fieldAddr (off := 0) (oo := 0) Try.underlying56 rfl rfl Try.sizeOf3 rfl rfl ?_)
 refine O_v rfl (R_load1 (v := (.int .i64 (((rdNum q 2).1) : Int))) Try.isAgg3 rfl (H37.bx 0 rfl 0 1 0 0 _ rfl rfl rfl) ?_)
 refine O_v rfl (R_cmp (a := (((rdNum q 2).1) : Int)) (b := 1) (r := (decide ((((rdNum q 2).1) : Int) = 1))) rfl rfl rfl ?_)
 refine O_nil (Then_n ?_)
 refine W_cond rfl (fun hc38 => ?_) (fun hc38 => ?_)
 ·have hc38 := (of_decide_eq_true hc38)
  have hK := hc38
  refine W_seq (W_reg ?_)
  refine O_mv (v := (.pointer (some ⟨br, 0, none⟩))) rfl rfl ?_
  refine O_v rfl (R_callL (vs := [(.pointer (some ⟨br, 0, none⟩))]) cF59 rfl rfl ((stamp_get br r29 Sr ((rdAt ((rdAt ((rdNum q 2).2)).2)).2) w35 ((H37.pick (B' := [boxR br 92 (rdCh r29)]) (I' := [slI Sr encB 1 r29.bh r29.b]) [2] (by decide) rfl (List.forall_mem_cons.2 ⟨List.mem_of_getElem? (i := 0) rfl, fun _ h => (nomatch h)⟩)).rdStart) hr33).ret ?_))
  rintro _ w40 ⟨r39, rfl, hg41, hQ42, hr43⟩
  have H44 := H37.rdUpd (r := r29) 2 0 rfl rfl hg41 hQ42
  refine O_v rfl (R_fieldAddr (off := 5) (oo := 5) Try.underlying56 rfl rfl Try.sizeOf46 rfl rfl ?_)
  refine O_u (C_storeA H44 0 rfl 5 (sub := [[(.int .i64 (((rdAt ((rdAt ((rdAt ((rdNum q 2).2)).2)).2)).1).T))], [(.int .i64 (((rdAt ((rdAt ((rdAt ((rdNum q 2).2)).2)).2)).1).R))]]) [[(.int .i64 (((rdNum q 2).1) : Int))], [(.int .i64 (((rdAt ((rdNum q 2).2)).1).T))], [(.int .i64 (((rdAt ((rdNum q 2).2)).1).R))], [(.int .i64 (((rdAt ((rdAt ((rdNum q 2).2)).2)).1).T))], [(.int .i64 (((rdAt ((rdAt ((rdNum q 2).2)).2)).1).R))], [(.int .i64 (((rdAt ((rdAt ((rdAt ((rdNum q 2).2)).2)).2)).1).T))], [(.int .i64 (((rdAt ((rdAt ((rdAt ((rdNum q 2).2)).2)).2)).1).R))], [(.string ByteArray.empty)], (idCells zeroId), [(.slice none 0 0)]] Try.sizeOf46 rfl rfl rfl rfl ⟨[[(.int .i64 0)], [(.int .i64 0)]], [[(.string ByteArray.empty)], (idCells zeroId), [(.slice none 0 0)]], rfl, rfl, rfl⟩ rfl ?_)
  intro w45 hg46 H47
  refine O_nil (Then_n (W_reg ?_))
  refine O_mv (v := (.pointer (some ⟨br, 0, none⟩))) rfl rfl ?_
  refine O_v rfl (R_callL (vs := [(.pointer (some ⟨br, 0, none⟩)), (.int .i64 60)]) cF24 rfl rfl ((Reader_Text br r39 Sr ((rdAt ((rdAt ((rdAt ((rdNum q 2).2)).2)).2)).2) 60 w45 ((H47.pick (B' := [boxR br 92 (rdCh r39)]) (I' := [slI Sr encB 1 r39.bh r39.b]) [2] (by decide) rfl (List.forall_mem_cons.2 ⟨List.mem_of_getElem? (i := 0) rfl, fun _ h => (nomatch h)⟩)).rdStart) hr43).ret ?_))
  rintro _ w49 ⟨r48, rfl, hg50, hQ51, hr52⟩
  have H53 := H47.rdUpd (r := r39) 2 0 rfl rfl hg50 hQ51
  refine O_v rfl (R_fieldAddr (off := 7) (oo := 7) Try.underlying56 rfl rfl Try.sizeOf9 rfl rfl ?_)
  refine O_u (C_store1 H53 0 rfl 7 (v := (.string ((rdText ((rdAt ((rdAt ((rdAt ((rdNum q 2).2)).2)).2)).2) 60).1))) [[(.int .i64 (((rdNum q 2).1) : Int))], [(.int .i64 (((rdAt ((rdNum q 2).2)).1).T))], [(.int .i64 (((rdAt ((rdNum q 2).2)).1).R))], [(.int .i64 (((rdAt ((rdAt ((rdNum q 2).2)).2)).1).T))], [(.int .i64 (((rdAt ((rdAt ((rdNum q 2).2)).2)).1).R))], [(.int .i64 (((rdAt ((rdAt ((rdAt ((rdNum q 2).2)).2)).2)).1).T))], [(.int .i64 (((rdAt ((rdAt ((rdAt ((rdNum q 2).2)).2)).2)).1).R))], [(.string ((rdText ((rdAt ((rdAt ((rdAt ((rdNum q 2).2)).2)).2)).2) 60).1))], (idCells zeroId), [(.slice none 0 0)]] Try.sizeOf9 rfl rfl rfl rfl rfl rfl rfl ?_)
  intro w54 hg55 H56
  refine O_nil (Then_n (W_seq (W_seq ?_)))
  refine W_rgM (fun c => c = br) (fun i => if i == 1 then 1 else 0) [(0, .q 2), (1, .c 1), (2, .q 2), (3, .q 2), (4, .q 1), (5, .q 0), (6, .q 2), (7, .q 2)] (by kernel_rfl) ?_
  refine Lx_mv (v := (.pointer (some ⟨br, 0, none⟩))) rfl rfl rfl ?_
  refine Lx_c rfl rfl (fun w59 hw60 => ?_)
  have H61 := H56.ext hw60
  refine (R_callL (vs := [(.pointer (some ⟨br, 0, none⟩))]) cF28 rfl rfl ((Reader_Good br r48 Sr ((rdText ((rdAt ((rdAt ((rdAt ((rdNum q 2).2)).2)).2)).2) 60).2) w59 ((H61.pick (B' := [boxR br 92 (rdCh r48)]) (I' := [slI Sr encB 1 r48.bh r48.b]) [2] (by decide) rfl (List.forall_mem_cons.2 ⟨List.mem_of_getElem? (i := 0) rfl, fun _ h => (nomatch h)⟩)).rdStart) hr52).ret ?_))
  rintro _ w63 ⟨r62, rfl, hg64, hQ65, hr66⟩
  have H67 := H61.rdUpd (r := r48) 2 0 rfl rfl hg64 hQ65
  refine ⟨hg64, ?_⟩
  refine Lx_q rfl rfl _ (fun v68 hv69 => R_not rfl qk) (Lx_mv (v := (.bool (!(!(((rdText ((rdAt ((rdAt ((rdAt ((rdNum q 2).2)).2)).2)).2) 60).2).2))))) rfl rfl rfl (Lx_qf rfl rfl rfl rfl rfl _ (fun hA v72 hv73 => R_loadA (cs := [[(.int .i64 (((rdNum q 2).1) : Int))], [(.int .i64 (((rdAt ((rdNum q 2).2)).1).T))], [(.int .i64 (((rdAt ((rdNum q 2).2)).1).R))], [(.int .i64 (((rdAt ((rdAt ((rdNum q 2).2)).2)).1).T))], [(.int .i64 (((rdAt ((rdAt ((rdNum q 2).2)).2)).1).R))], [(.int .i64 (((rdAt ((rdAt ((rdAt ((rdNum q 2).2)).2)).2)).1).T))], [(.int .i64 (((rdAt ((rdAt ((rdAt ((rdNum q 2).2)).2)).2)).1).R))], [(.string ((rdText ((rdAt ((rdAt ((rdAt ((rdNum q 2).2)).2)).2)).2) 60).1))], (idCells zeroId), [(.slice none 0 0)]]) Try.isAgg56 Try.sizeOf56 rfl rfl ((boxR_at (H67.ownGr 0 2 (by decide) rfl rfl hv73 (fun _ h => congrArg some h.symm))).chunks 0 10 0 0 _ rfl rfl rfl) qk) (Lx_qf rfl rfl rfl rfl rfl (.bool (goodOp ({ kind := (((rdNum q 2).1) : Int), tm := ((rdAt ((rdNum q 2).2)).1), node := ((rdAt ((rdAt ((rdNum q 2).2)).2)).1), par := ((rdAt ((rdAt ((rdAt ((rdNum q 2).2)).2)).2)).1), name := (rdText ((rdAt ((rdAt ((rdAt ((rdNum q 2).2)).2)).2)).2) 60).1, data := zeroId, over := [], oh := nilH } : OpS))) (fun hA v74 hv75 => R_callL (vs := [(aggOf [[(.int .i64 (((rdNum q 2).1) : Int))], [(.int .i64 (((rdAt ((rdNum q 2).2)).1).T))], [(.int .i64 (((rdAt ((rdNum q 2).2)).1).R))], [(.int .i64 (((rdAt ((rdAt ((rdNum q 2).2)).2)).1).T))], [(.int .i64 (((rdAt ((rdAt ((rdNum q 2).2)).2)).1).R))], [(.int .i64 (((rdAt ((rdAt ((rdAt ((rdNum q 2).2)).2)).2)).1).T))], [(.int .i64 (((rdAt ((rdAt ((rdAt ((rdNum q 2).2)).2)).2)).1).R))], [(.string ((rdText ((rdAt ((rdAt ((rdAt ((rdNum q 2).2)).2)).2)).2) 60).1))], (idCells zeroId), [(.slice none 0 0)]])]) cF38 rfl (lst1 (gv_t hA)) (stamp_Good ({ kind := (((rdNum q 2).1) : Int), tm := ((rdAt ((rdNum q 2).2)).1), node := ((rdAt ((rdAt ((rdNum q 2).2)).2)).1), par := ((rdAt ((rdAt ((rdAt ((rdNum q 2).2)).2)).2)).1), name := (rdText ((rdAt ((rdAt ((rdAt ((rdNum q 2).2)).2)).2)).2) 60).1, data := zeroId, over := [], oh := nilH } : OpS) v74 (Sl.nil _ _ _ _))) ?_)))
  refine Lx_qf rfl rfl rfl rfl rfl _ (fun hA v76 hv77 => R_not (gv_t hA) qk) (Lx_q rfl rfl _ (fun v78 hv79 => R_pick rfl pk_or qk) ?_)
  refine Lx_nil (fun w80 hw81 => ?_)
  have H82 := H67.ext hw81
  refine Then_n ?_
  refine W_cond rfl (fun hc83 => ?_) (fun hc83 => ?_)
  ·have hc83 : ((((rdText ((rdAt ((rdAt ((rdAt ((rdNum q 2).2)).2)).2)).2) 60).2).2) = true ∨ (goodOp ({ kind := (((rdNum q 2).1) : Int), tm := ((rdAt ((rdNum q 2).2)).1), node := ((rdAt ((rdAt ((rdNum q 2).2)).2)).1), par := ((rdAt ((rdAt ((rdAt ((rdNum q 2).2)).2)).2)).1), name := (rdText ((rdAt ((rdAt ((rdAt ((rdNum q 2).2)).2)).2)).2) 60).1, data := zeroId, over := [], oh := nilH } : OpS)) = false) := (Or.imp (fun h => (notF (notT h))) (fun h => (notT h)) (orT hc83))
   refine W_seq (W_reg ?_)
   refine O_mv (v := (.pointer (some ⟨br, 0, none⟩))) rfl rfl ?_
   refine O_v rfl (R_callL (vs := [(.pointer (some ⟨br, 0, none⟩))]) cF51 rfl rfl ((Reader_Fail br r62 Sr ((rdText ((rdAt ((rdAt ((rdAt ((rdNum q 2).2)).2)).2)).2) 60).2) w80 ((H82.pick (B' := [boxR br 92 (rdCh r62)]) (I' := [slI Sr encB 1 r62.bh r62.b]) [2] (by decide) rfl (List.forall_mem_cons.2 ⟨List.mem_of_getElem? (i := 0) rfl, fun _ h => (nomatch h)⟩)).rdStart) hr66).ret ?_))
   rintro _ w85 ⟨r84, rfl, hg86, hQ87, hr88⟩
   have H89 := H82.rdUpd (r := r62) 2 0 rfl rfl hg86 hQ87
   refine O_nil (Then_n (W_seq (W_reg ?_)))
   refine O_v rfl (R_buildL (vs := []) (v := aggOf [[(.int .i64 0)], [(.int .i64 0)], [(.int .i64 0)], [(.int .i64 0)], [(.int .i64 0)], [(.int .i64 0)], [(.int .i64 0)], [(.string ByteArray.empty)], (idCells zeroId), [(.slice none 0 0)]]) rfl (fun _ => by kernel_rfl) ?_)
   refine O_u (C_storeW H89 1 rfl (sub := [[(.int .i64 0)], [(.int .i64 0)], [(.int .i64 0)], [(.int .i64 0)], [(.int .i64 0)], [(.int .i64 0)], [(.int .i64 0)], [(.string ByteArray.empty)], (idCells zeroId), [(.slice none 0 0)]]) Try.sizeOf56 rfl rfl rfl rfl rfl ?_)
   intro w90 hg91 H92
   refine O_nil (Then_n (W_ret (Then_r ?_)))
   refine ret_c Try.results32 (inMem (cs := [[(.int .i64 0)], [(.int .i64 0)], [(.int .i64 0)], [(.int .i64 0)], [(.int .i64 0)], [(.int .i64 0)], [(.int .i64 0)], [(.string ByteArray.empty)], (idCells zeroId), [(.slice none 0 0)]]) rfl Try.isAgg56 Try.sizeOf56 rfl (boxR_at (H92.getOwn 1 rfl))) ?_
   have H93 := H92.addNil 46 2 stampCh
   have HQ := ((H93.pick (B' := [boxR br 92 (rdCh r84)]) (I' := [slI Sr encB 1 r84.bh r84.b]) [3] (by decide) rfl (List.forall_mem_cons.2 ⟨List.mem_of_getElem? (i := 0) rfl, fun _ h => (nomatch h)⟩)).rdStart)
   exact ⟨r84, ({ kind := 0, tm := ({ T := 0, R := 0 } : Stamp), node := ({ T := 0, R := 0 } : Stamp), par := ({ T := 0, R := 0 } : Stamp), name := ByteArray.empty, data := zeroId, over := [], oh := nilH } : OpS), rfl, H93.gr, HQ, (hr88.trans (congrArg Prod.snd (op_fail (opRead_m hK) hc83)).symm), H93.retRowM 3 0 (by decide) rfl rfl, (congrArg Prod.fst (op_fail (opRead_m hK) hc83)).symm⟩
  ·have hc83 : ((((rdText ((rdAt ((rdAt ((rdAt ((rdNum q 2).2)).2)).2)).2) 60).2).2) = false ∧ (goodOp ({ kind := (((rdNum q 2).1) : Int), tm := ((rdAt ((rdNum q 2).2)).1), node := ((rdAt ((rdAt ((rdNum q 2).2)).2)).1), par := ((rdAt ((rdAt ((rdAt ((rdNum q 2).2)).2)).2)).1), name := (rdText ((rdAt ((rdAt ((rdAt ((rdNum q 2).2)).2)).2)).2) 60).1, data := zeroId, over := [], oh := nilH } : OpS)) = true) := (And.imp (fun h => (notT (notF h))) (fun h => (notF h)) (orF hc83))
   refine W_skip (Then_n (W_seq (W_reg ?_)))
   refine O_v rfl (R_loadA (cs := [[(.int .i64 (((rdNum q 2).1) : Int))], [(.int .i64 (((rdAt ((rdNum q 2).2)).1).T))], [(.int .i64 (((rdAt ((rdNum q 2).2)).1).R))], [(.int .i64 (((rdAt ((rdAt ((rdNum q 2).2)).2)).1).T))], [(.int .i64 (((rdAt ((rdAt ((rdNum q 2).2)).2)).1).R))], [(.int .i64 (((rdAt ((rdAt ((rdAt ((rdNum q 2).2)).2)).2)).1).T))], [(.int .i64 (((rdAt ((rdAt ((rdAt ((rdNum q 2).2)).2)).2)).1).R))], [(.string ((rdText ((rdAt ((rdAt ((rdAt ((rdNum q 2).2)).2)).2)).2) 60).1))], (idCells zeroId), [(.slice none 0 0)]]) Try.isAgg56 Try.sizeOf56 rfl rfl (H82.bx 0 rfl 0 10 0 0 _ rfl rfl rfl) ?_)
   refine O_u (C_storeW H82 1 rfl (sub := [[(.int .i64 (((rdNum q 2).1) : Int))], [(.int .i64 (((rdAt ((rdNum q 2).2)).1).T))], [(.int .i64 (((rdAt ((rdNum q 2).2)).1).R))], [(.int .i64 (((rdAt ((rdAt ((rdNum q 2).2)).2)).1).T))], [(.int .i64 (((rdAt ((rdAt ((rdNum q 2).2)).2)).1).R))], [(.int .i64 (((rdAt ((rdAt ((rdAt ((rdNum q 2).2)).2)).2)).1).T))], [(.int .i64 (((rdAt ((rdAt ((rdAt ((rdNum q 2).2)).2)).2)).1).R))], [(.string ((rdText ((rdAt ((rdAt ((rdAt ((rdNum q 2).2)).2)).2)).2) 60).1))], (idCells zeroId), [(.slice none 0 0)]]) Try.sizeOf56 rfl rfl rfl rfl rfl ?_)
   intro w94 hg95 H96
   refine O_nil (Then_n (W_ret ?_))
   refine ret_c Try.results32 (inMem (cs := [[(.int .i64 (((rdNum q 2).1) : Int))], [(.int .i64 (((rdAt ((rdNum q 2).2)).1).T))], [(.int .i64 (((rdAt ((rdNum q 2).2)).1).R))], [(.int .i64 (((rdAt ((rdAt ((rdNum q 2).2)).2)).1).T))], [(.int .i64 (((rdAt ((rdAt ((rdNum q 2).2)).2)).1).R))], [(.int .i64 (((rdAt ((rdAt ((rdAt ((rdNum q 2).2)).2)).2)).1).T))], [(.int .i64 (((rdAt ((rdAt ((rdAt ((rdNum q 2).2)).2)).2)).1).R))], [(.string ((rdText ((rdAt ((rdAt ((rdAt ((rdNum q 2).2)).2)).2)).2) 60).1))], (idCells zeroId), [(.slice none 0 0)]]) rfl Try.isAgg56 Try.sizeOf56 rfl (boxR_at (H96.getOwn 1 rfl))) ?_
   have H97 := H96.addNil 46 2 stampCh
   have HQ := ((H97.pick (B' := [boxR br 92 (rdCh r62)]) (I' := [slI Sr encB 1 r62.bh r62.b]) [3] (by decide) rfl (List.forall_mem_cons.2 ⟨List.mem_of_getElem? (i := 0) rfl, fun _ h => (nomatch h)⟩)).rdStart)
   exact ⟨r62, ({ kind := (((rdNum q 2).1) : Int), tm := ((rdAt ((rdNum q 2).2)).1), node := ((rdAt ((rdAt ((rdNum q 2).2)).2)).1), par := ((rdAt ((rdAt ((rdAt ((rdNum q 2).2)).2)).2)).1), name := (rdText ((rdAt ((rdAt ((rdAt ((rdNum q 2).2)).2)).2)).2) 60).1, data := zeroId, over := [], oh := nilH } : OpS), rfl, H97.gr, HQ, (hr66.trans (congrArg Prod.snd (op_ok (opRead_m hK) hc83)).symm), H97.retRowM 3 0 (by decide) rfl rfl, (congrArg Prod.fst (op_ok (opRead_m hK) hc83)).symm⟩
 ·have hc38 := (of_decide_eq_false hc38)
  have hK := hc38
  refine W_seq (W_reg ?_)
  refine O_mv (v := (.pointer (some ⟨br, 0, none⟩))) rfl rfl ?_
  refine O_v rfl (R_callL (vs := [(.pointer (some ⟨br, 0, none⟩))]) cF23 rfl rfl ((Reader_Id br r29 Sr ((rdAt ((rdAt ((rdNum q 2).2)).2)).2) w35 ((H37.pick (B' := [boxR br 92 (rdCh r29)]) (I' := [slI Sr encB 1 r29.bh r29.b]) [2] (by decide) rfl (List.forall_mem_cons.2 ⟨List.mem_of_getElem? (i := 0) rfl, fun _ h => (nomatch h)⟩)).rdStart) hr33).ret ?_))
  rintro _ w99 ⟨r98, rfl, hg100, hQ101, hr102⟩
  have H103 := H37.rdUpd (r := r29) 2 0 rfl rfl hg100 hQ101
  refine O_v rfl (R_fieldAddr (off := 8) (oo := 8) Try.underlying56 rfl rfl Try.sizeOf25 rfl rfl ?_)
  refine O_u (C_storeA H103 0 rfl 8 (sub := [(idCells ((rdId ((rdAt ((rdAt ((rdNum q 2).2)).2)).2)).1))]) [[(.int .i64 (((rdNum q 2).1) : Int))], [(.int .i64 (((rdAt ((rdNum q 2).2)).1).T))], [(.int .i64 (((rdAt ((rdNum q 2).2)).1).R))], [(.int .i64 (((rdAt ((rdAt ((rdNum q 2).2)).2)).1).T))], [(.int .i64 (((rdAt ((rdAt ((rdNum q 2).2)).2)).1).R))], [(.int .i64 0)], [(.int .i64 0)], [(.string ByteArray.empty)], (idCells ((rdId ((rdAt ((rdAt ((rdNum q 2).2)).2)).2)).1)), [(.slice none 0 0)]] Try.sizeOf25 rfl rfl rfl rfl ⟨[(idCells zeroId)], [[(.slice none 0 0)]], rfl, rfl, rfl⟩ rfl ?_)
  intro w104 hg105 H106
  refine O_nil (Then_n (W_seq (W_reg ?_)))
  refine O_mv (v := (.pointer (some ⟨br, 0, none⟩))) rfl rfl ?_
  refine O_v rfl (R_callL (vs := [(.pointer (some ⟨br, 0, none⟩)), (.int .i64 64)]) cF26 rfl rfl ((Reader_Num br r98 Sr ((rdId ((rdAt ((rdAt ((rdNum q 2).2)).2)).2)).2) 64 w104 ((H106.pick (B' := [boxR br 92 (rdCh r98)]) (I' := [slI Sr encB 1 r98.bh r98.b]) [2] (by decide) rfl (List.forall_mem_cons.2 ⟨List.mem_of_getElem? (i := 0) rfl, fun _ h => (nomatch h)⟩)).rdStart) hr102).ret ?_))
  rintro _ w108 ⟨r107, rfl, hg109, hQ110, hr111⟩
  have H112 := H106.rdUpd (r := r98) 2 0 rfl rfl hg109 hQ110
  refine O_mv (v := (.int .i64 0)) rfl rfl ?_
  refine O_nil (Then_n (W_block ?_))
  have H113 := H112.addNil 46 2 stampCh
  refine W_loop (fun m114 e115 w116 => ∃ (k : Nat), ∃ (acc : List Stamp), ∃ (rr : RdS), ∃ (rq : List UInt8 × Bool), ∃ (ho : SlH), m114 = (rdNum (rdId (rdAt (rdAt (rdNum q 2).2).2).2).2 64).1 - k ∧ (k ≤ (rdNum (rdId (rdAt (rdAt (rdNum q 2).2).2).2).2 64).1) ∧ ((rdNum (rdId (rdAt (rdAt (rdNum q 2).2).2).2).2 64).1 ≤ 64) ∧ (acc.length ≤ k) ∧ (rr.st = rq) ∧ (rdAts ((rdNum (rdId (rdAt (rdAt (rdNum q 2).2).2).2).2 64).1 - k) acc rq = rdAts (rdNum (rdId (rdAt (rdAt (rdNum q 2).2).2).2).2 64).1 [] (rdNum (rdId (rdAt (rdAt (rdNum q 2).2).2).2).2 64).2) ∧ ∃ eb117, e115 = envL [(0, (.pointer (some ⟨br, 0, none⟩))), (2, (.pointer (some ⟨b1, 0, none⟩))), (3, (.pointer (some ⟨b12, 0, none⟩))), (26, (.int .i64 (((rdNum ((rdId ((rdAt ((rdAt ((rdNum q 2).2)).2)).2)).2) 64).1) : Int))), (27, (.int .i64 (k : Int)))] eb117 ∧ Ctx w (fun c => c = br) w116 [rowR 46 2 stampCh ho acc, boxR b12 56 [[(.int .i64 (((rdNum q 2).1) : Int))], [(.int .i64 (((rdAt ((rdNum q 2).2)).1).T))], [(.int .i64 (((rdAt ((rdNum q 2).2)).1).R))], [(.int .i64 (((rdAt ((rdAt ((rdNum q 2).2)).2)).1).T))], [(.int .i64 (((rdAt ((rdAt ((rdNum q 2).2)).2)).1).R))], [(.int .i64 0)], [(.int .i64 0)], [(.string ByteArray.empty)], (idCells ((rdId ((rdAt ((rdAt ((rdNum q 2).2)).2)).2)).1)), [(slV ho acc)]], boxR b1 56 [[(.int .i64 0)], [(.int .i64 0)], [(.int .i64 0)], [(.int .i64 0)], [(.int .i64 0)], [(.int .i64 0)], [(.int .i64 0)], [(.string ByteArray.empty)], (idCells zeroId), [(.slice none 0 0)]], boxR br 92 [[(slV rr.bh rr.b)], [(.bool rr.bad)]]] [slI Sr encB 1 rr.bh rr.b]) _ ⟨0, [], r107, ((rdNum (rdId (rdAt (rdAt (rdNum q 2).2).2).2).2 64).2), nilH, rfl, (by omega), (rdNum_le _ (by decide)), (by simp), hr111, rfl, _, envL_self ⟨rfl, rfl, rfl, rfl, rfl, trivial⟩, H113⟩ ?_
  rintro m114 _ w116 ⟨k, acc, rr, rq, ho, rfl, hk, hm, hal, hrr, hgo, eb117, rfl, H118⟩
  refine W_seq (W_reg ?_)
  refine O_v rfl (R_cmp (a := (k : Int)) (b := (((rdNum ((rdId ((rdAt ((rdAt ((rdNum q 2).2)).2)).2)).2) 64).1) : Int)) (r := (decide ((k : Int) < (((rdNum ((rdId ((rdAt ((rdAt ((rdNum q 2).2)).2)).2)).2) 64).1) : Int)))) rfl rfl rfl ?_)
  refine O_nil (Then_n (W_seq ?_))
  refine W_cond rfl (fun hc119 => ?_) (fun hc119 => ?_)
  ·have hc119 := (of_decide_eq_true hc119)
   refine W_skip (Then_n (W_seq (W_block ?_)))
   refine W_rgdM TryMixed (fun c => c = br) (fun i => if i == 3 then 1 else if i == 5 || i == 7 then 2 else 0) [(0, .q 2), (1, .q 1), (2, .q 2), (3, .c 1), (4, .c 0), (5, .c 2), (6, .q 2), (7, .c 2)] (by kernel_rfl) ?_
   refine Lx_q rfl rfl _ (fun v120 hv121 => R_fieldAddr (off := 40) (oo := 40) Try.underlying56 rfl rfl Try.sizeOf54 rfl rfl qk) (Lx_q rfl rfl _ (fun v122 hv123 => R_load1 (v := (slV ho acc)) Try.isAgg54 rfl ((boxR_at (H118.ownGr 1 3 (by decide) rfl rfl hv123 (fun _ h => congrArg some h.symm))).chunks 9 1 40 40 _ rfl rfl rfl) qk) (Lx_mv (v := (.pointer (some ⟨br, 0, none⟩))) rfl rfl rfl ?_))
   refine Lx_c rfl rfl (fun w126 hw127 => ?_)
   have H128 := H118.ext hw127
   refine (R_callL (vs := [(.pointer (some ⟨br, 0, none⟩))]) cF59 rfl rfl ((stamp_get br rr Sr rq w126 ((H128.pick (B' := [boxR br 92 (rdCh rr)]) (I' := [slI Sr encB 1 rr.bh rr.b]) [3] (by decide) rfl (List.forall_mem_cons.2 ⟨List.mem_of_getElem? (i := 0) rfl, fun _ h => (nomatch h)⟩)).rdStart) hrr).ret ?_))
   rintro _ w130 ⟨r129, rfl, hg131, hQ132, hr133⟩
   have H134 := H128.rdUpd (r := rr) 3 0 rfl rfl hg131 hQ132
   refine ⟨hg131, ?_⟩
   refine Lx_c rfl rfl (fun w135 hw136 => ?_)
   have H137 := H134.ext hw136
   refine (C_buildSliceL H137 (enc := stampCh) (val := stampV) ([(rdAt rq).1] : List Stamp) Try.underlying54 Try.sizeOf46 Try.zeroValue46 rfl (by decide) (fun _ => rfl) (fun _ => rfl) rfl rfl (by decide) ?_)
   intro b138 w139 hb140 hx141 H142
   refine ⟨GrF.ofExt hx141, ?_⟩
   refine Lx_c rfl rfl (fun w143 hw144 => ?_)
   have H145 := H142.ext hw144
   refine (C_append H145 1 rfl (bytes := 16) (l := acc) (ys := ([(rdAt rq).1] : List Stamp)) Try.underlying54 rfl rfl rfl rfl rfl (by decide) rfl rfl (OwnS.sl (H145.getOwn 0 rfl) (fun _ => rfl)) (fun _ => rfl) (fun _ => rfl) (by simp only [List.length_append, List.length_cons, List.length_nil]; omega) (by decide) ?_)
   intro h146 w147 hg148 H149
   refine ⟨Gr.mono (M' := fun _ => True) hg148 (fun _ _ => trivial), ?_⟩
   refine Lx_q rfl rfl _ (fun v150 hv151 => R_fieldAddr (off := 40) (oo := 40) Try.underlying56 rfl rfl Try.sizeOf54 rfl rfl qk) ?_
   refine Lx_cu rfl (fun w152 hw153 => ?_)
   have H154 := H149.ext hw153
   refine (C_store1 H154 2 rfl 9 (v := (slV h146 (acc ++ ([(rdAt rq).1] : List Stamp)))) [[(.int .i64 (((rdNum q 2).1) : Int))], [(.int .i64 (((rdAt ((rdNum q 2).2)).1).T))], [(.int .i64 (((rdAt ((rdNum q 2).2)).1).R))], [(.int .i64 (((rdAt ((rdAt ((rdNum q 2).2)).2)).1).T))], [(.int .i64 (((rdAt ((rdAt ((rdNum q 2).2)).2)).1).R))], [(.int .i64 0)], [(.int .i64 0)], [(.string ByteArray.empty)], (idCells ((rdId ((rdAt ((rdAt ((rdNum q 2).2)).2)).2)).1)), [(slV h146 (acc ++ ([(rdAt rq).1] : List Stamp)))]] Try.sizeOf54 rfl rfl rfl rfl rfl rfl rfl ?_)
   intro w155 hg156 H157
   refine ⟨Gr.mono (M' := fun _ => True) hg156 (fun _ _ => trivial), ?_⟩
   refine Lx_nil (fun w158 hw159 => ?_)
   have H160 := H157.ext hw159
   refine Blk_n (Then_n (W_reg ?_))
   refine O_v rfl (R_arith (a := (k : Int)) (b := 1) (r0 := (k : Int) + 1) (r := ((k + 1 : Nat) : Int)) rfl rfl rfl (wrapN _ (by omega)) ?_)
   refine O_mv (v := (.int .i64 ((k + 1 : Nat) : Int))) rfl rfl ?_
   refine O_nil (Then_n ?_)
   have H161 := H160.sub (List.Sublist.cons _ (List.Sublist.cons_cons _ (List.Sublist.cons_cons _ (List.Sublist.cons_cons _ (List.Sublist.cons_cons _ List.Sublist.slnil))))) (List.forall_mem_cons.2 ⟨List.mem_of_getElem? (i := 0) rfl, memN⟩)
   refine ⟨_, ?_, (k + 1), (acc ++ ([(rdAt rq).1] : List Stamp)), r129, ((rdAt rq).2), h146, rfl, (by omega), hm, (by simp only [List.length_append, List.length_cons, List.length_nil]; omega), hr133, (ats_next hgo (by omega)), _, envL_self ⟨rfl, rfl, rfl, rfl, rfl, trivial⟩, H161⟩
   omega
  ·have hc119 := (of_decide_eq_false hc119)
   refine W_exit (Then_x (Then_x (Blk_x (Then_n (W_seq (W_seq ?_))))))
   refine W_rgM (fun c => c = br) (fun i => if i == 1 then 1 else 0) [(0, .q 2), (1, .c 1), (2, .q 2), (3, .q 2), (4, .q 1), (5, .q 0), (6, .q 2), (7, .q 2)] (by kernel_rfl) ?_
   refine Lx_mv (v := (.pointer (some ⟨br, 0, none⟩))) rfl rfl rfl ?_
   refine Lx_c rfl rfl (fun w164 hw165 => ?_)
   have H166 := H118.ext hw165
   refine (R_callL (vs := [(.pointer (some ⟨br, 0, none⟩))]) cF28 rfl rfl ((Reader_Good br rr Sr rq w164 ((H166.pick (B' := [boxR br 92 (rdCh rr)]) (I' := [slI Sr encB 1 rr.bh rr.b]) [3] (by decide) rfl (List.forall_mem_cons.2 ⟨List.mem_of_getElem? (i := 0) rfl, fun _ h => (nomatch h)⟩)).rdStart) hrr).ret ?_))
   rintro _ w168 ⟨r167, rfl, hg169, hQ170, hr171⟩
   have H172 := H166.rdUpd (r := rr) 3 0 rfl rfl hg169 hQ170
   refine ⟨hg169, ?_⟩
   refine Lx_q rfl rfl _ (fun v173 hv174 => R_not rfl qk) (Lx_mv (v := (.bool (!(!rq.2)))) rfl rfl rfl (Lx_qf rfl rfl rfl rfl rfl _ (fun hA v177 hv178 => R_loadA (cs := [[(.int .i64 (((rdNum q 2).1) : Int))], [(.int .i64 (((rdAt ((rdNum q 2).2)).1).T))], [(.int .i64 (((rdAt ((rdNum q 2).2)).1).R))], [(.int .i64 (((rdAt ((rdAt ((rdNum q 2).2)).2)).1).T))], [(.int .i64 (((rdAt ((rdAt ((rdNum q 2).2)).2)).1).R))], [(.int .i64 0)], [(.int .i64 0)], [(.string ByteArray.empty)], (idCells ((rdId ((rdAt ((rdAt ((rdNum q 2).2)).2)).2)).1)), [(slV ho acc)]]) Try.isAgg56 Try.sizeOf56 rfl rfl ((boxR_at (H172.ownGr 1 3 (by decide) rfl rfl hv178 (fun _ h => congrArg some h.symm))).chunks 0 10 0 0 _ rfl rfl rfl) qk) (Lx_qf rfl rfl rfl rfl rfl (.bool (goodOp ({ kind := (((rdNum q 2).1) : Int), tm := ((rdAt ((rdNum q 2).2)).1), node := ((rdAt ((rdAt ((rdNum q 2).2)).2)).1), par := ({ T := 0, R := 0 } : Stamp), name := ByteArray.empty, data := (rdId ((rdAt ((rdAt ((rdNum q 2).2)).2)).2)).1, over := acc, oh := ho } : OpS))) (fun hA v179 hv180 => R_callL (vs := [(aggOf [[(.int .i64 (((rdNum q 2).1) : Int))], [(.int .i64 (((rdAt ((rdNum q 2).2)).1).T))], [(.int .i64 (((rdAt ((rdNum q 2).2)).1).R))], [(.int .i64 (((rdAt ((rdAt ((rdNum q 2).2)).2)).1).T))], [(.int .i64 (((rdAt ((rdAt ((rdNum q 2).2)).2)).1).R))], [(.int .i64 0)], [(.int .i64 0)], [(.string ByteArray.empty)], (idCells ((rdId ((rdAt ((rdAt ((rdNum q 2).2)).2)).2)).1)), [(slV ho acc)]])]) cF38 rfl (lst1 (gv_t hA)) (stamp_Good ({ kind := (((rdNum q 2).1) : Int), tm := ((rdAt ((rdNum q 2).2)).1), node := ((rdAt ((rdAt ((rdNum q 2).2)).2)).1), par := ({ T := 0, R := 0 } : Stamp), name := ByteArray.empty, data := (rdId ((rdAt ((rdAt ((rdNum q 2).2)).2)).2)).1, over := acc, oh := ho } : OpS) v179 ((H172.ext hv180).rowSl 0 rfl (fun _ => rfl)))) ?_)))
   refine Lx_qf rfl rfl rfl rfl rfl _ (fun hA v181 hv182 => R_not (gv_t hA) qk) (Lx_q rfl rfl _ (fun v183 hv184 => R_pick rfl pk_or qk) ?_)
   refine Lx_nil (fun w185 hw186 => ?_)
   have H187 := H172.ext hw186
   refine Then_n ?_
   refine W_cond rfl (fun hc188 => ?_) (fun hc188 => ?_)
   ·have hc188 : (rq.2 = true ∨ (goodOp ({ kind := (((rdNum q 2).1) : Int), tm := ((rdAt ((rdNum q 2).2)).1), node := ((rdAt ((rdAt ((rdNum q 2).2)).2)).1), par := ({ T := 0, R := 0 } : Stamp), name := ByteArray.empty, data := (rdId ((rdAt ((rdAt ((rdNum q 2).2)).2)).2)).1, over := acc, oh := ho } : OpS)) = false) := (Or.imp (fun h => (notF (notT h))) (fun h => (notT h)) (orT hc188))
    refine W_seq (W_reg ?_)
    refine O_mv (v := (.pointer (some ⟨br, 0, none⟩))) rfl rfl ?_
    refine O_v rfl (R_callL (vs := [(.pointer (some ⟨br, 0, none⟩))]) cF51 rfl rfl ((Reader_Fail br r167 Sr rq w185 ((H187.pick (B' := [boxR br 92 (rdCh r167)]) (I' := [slI Sr encB 1 r167.bh r167.b]) [3] (by decide) rfl (List.forall_mem_cons.2 ⟨List.mem_of_getElem? (i := 0) rfl, fun _ h => (nomatch h)⟩)).rdStart) hr171).ret ?_))
    rintro _ w190 ⟨r189, rfl, hg191, hQ192, hr193⟩
    have H194 := H187.rdUpd (r := r167) 3 0 rfl rfl hg191 hQ192
    refine O_nil (Then_n (W_seq (W_reg ?_)))
    refine O_v rfl (R_buildL (vs := []) (v := aggOf [[(.int .i64 0)], [(.int .i64 0)], [(.int .i64 0)], [(.int .i64 0)], [(.int .i64 0)], [(.int .i64 0)], [(.int .i64 0)], [(.string ByteArray.empty)], (idCells zeroId), [(.slice none 0 0)]]) rfl (fun _ => by kernel_rfl) ?_)
    refine O_u (C_storeW H194 2 rfl (sub := [[(.int .i64 0)], [(.int .i64 0)], [(.int .i64 0)], [(.int .i64 0)], [(.int .i64 0)], [(.int .i64 0)], [(.int .i64 0)], [(.string ByteArray.empty)], (idCells zeroId), [(.slice none 0 0)]]) Try.sizeOf56 rfl rfl rfl rfl rfl ?_)
    intro w195 hg196 H197
    refine O_nil (Then_n (W_ret (Then_r ?_)))
    refine ret_c Try.results32 (inMem (cs := [[(.int .i64 0)], [(.int .i64 0)], [(.int .i64 0)], [(.int .i64 0)], [(.int .i64 0)], [(.int .i64 0)], [(.int .i64 0)], [(.string ByteArray.empty)], (idCells zeroId), [(.slice none 0 0)]]) rfl Try.isAgg56 Try.sizeOf56 rfl (boxR_at (H197.getOwn 2 rfl))) ?_
    have H198 := H197.addNil 46 2 stampCh
    have HQ := ((H198.pick (B' := [boxR br 92 (rdCh r189)]) (I' := [slI Sr encB 1 r189.bh r189.b]) [4] (by decide) rfl (List.forall_mem_cons.2 ⟨List.mem_of_getElem? (i := 0) rfl, fun _ h => (nomatch h)⟩)).rdStart)
    exact ⟨r189, ({ kind := 0, tm := ({ T := 0, R := 0 } : Stamp), node := ({ T := 0, R := 0 } : Stamp), par := ({ T := 0, R := 0 } : Stamp), name := ByteArray.empty, data := zeroId, over := [], oh := nilH } : OpS), rfl, H198.gr, HQ, (hr193.trans (congrArg Prod.snd (op_fail (opRead_e hK hgo (by omega)) hc188)).symm), H198.retRowM 4 0 (by decide) rfl rfl, (congrArg Prod.fst (op_fail (opRead_e hK hgo (by omega)) hc188)).symm⟩
   ·have hc188 : (rq.2 = false ∧ (goodOp ({ kind := (((rdNum q 2).1) : Int), tm := ((rdAt ((rdNum q 2).2)).1), node := ((rdAt ((rdAt ((rdNum q 2).2)).2)).1), par := ({ T := 0, R := 0 } : Stamp), name := ByteArray.empty, data := (rdId ((rdAt ((rdAt ((rdNum q 2).2)).2)).2)).1, over := acc, oh := ho } : OpS)) = true) := (And.imp (fun h => (notT (notF h))) (fun h => (notF h)) (orF hc188))
    refine W_skip (Then_n (W_seq (W_reg ?_)))
    refine O_v rfl (R_loadA (cs := [[(.int .i64 (((rdNum q 2).1) : Int))], [(.int .i64 (((rdAt ((rdNum q 2).2)).1).T))], [(.int .i64 (((rdAt ((rdNum q 2).2)).1).R))], [(.int .i64 (((rdAt ((rdAt ((rdNum q 2).2)).2)).1).T))], [(.int .i64 (((rdAt ((rdAt ((rdNum q 2).2)).2)).1).R))], [(.int .i64 0)], [(.int .i64 0)], [(.string ByteArray.empty)], (idCells ((rdId ((rdAt ((rdAt ((rdNum q 2).2)).2)).2)).1)), [(slV ho acc)]]) Try.isAgg56 Try.sizeOf56 rfl rfl (H187.bx 1 rfl 0 10 0 0 _ rfl rfl rfl) ?_)
    refine O_u (C_storeW H187 2 rfl (sub := [[(.int .i64 (((rdNum q 2).1) : Int))], [(.int .i64 (((rdAt ((rdNum q 2).2)).1).T))], [(.int .i64 (((rdAt ((rdNum q 2).2)).1).R))], [(.int .i64 (((rdAt ((rdAt ((rdNum q 2).2)).2)).1).T))], [(.int .i64 (((rdAt ((rdAt ((rdNum q 2).2)).2)).1).R))], [(.int .i64 0)], [(.int .i64 0)], [(.string ByteArray.empty)], (idCells ((rdId ((rdAt ((rdAt ((rdNum q 2).2)).2)).2)).1)), [(slV ho acc)]]) Try.sizeOf56 rfl rfl rfl rfl rfl ?_)
    intro w199 hg200 H201
    refine O_nil (Then_n (W_ret ?_))
    refine ret_c Try.results32 (inMem (cs := [[(.int .i64 (((rdNum q 2).1) : Int))], [(.int .i64 (((rdAt ((rdNum q 2).2)).1).T))], [(.int .i64 (((rdAt ((rdNum q 2).2)).1).R))], [(.int .i64 (((rdAt ((rdAt ((rdNum q 2).2)).2)).1).T))], [(.int .i64 (((rdAt ((rdAt ((rdNum q 2).2)).2)).1).R))], [(.int .i64 0)], [(.int .i64 0)], [(.string ByteArray.empty)], (idCells ((rdId ((rdAt ((rdAt ((rdNum q 2).2)).2)).2)).1)), [(slV ho acc)]]) rfl Try.isAgg56 Try.sizeOf56 rfl (boxR_at (H201.getOwn 2 rfl))) ?_
    have HQ := ((H201.pick (B' := [boxR br 92 (rdCh r167)]) (I' := [slI Sr encB 1 r167.bh r167.b]) [3] (by decide) rfl (List.forall_mem_cons.2 ⟨List.mem_of_getElem? (i := 0) rfl, fun _ h => (nomatch h)⟩)).rdStart)
    exact ⟨r167, ({ kind := (((rdNum q 2).1) : Int), tm := ((rdAt ((rdNum q 2).2)).1), node := ((rdAt ((rdAt ((rdNum q 2).2)).2)).1), par := ({ T := 0, R := 0 } : Stamp), name := ByteArray.empty, data := (rdId ((rdAt ((rdAt ((rdNum q 2).2)).2)).2)).1, over := acc, oh := ho } : OpS), rfl, H201.gr, HQ, (hr171.trans (congrArg Prod.snd (op_ok (opRead_e hK hgo (by omega)) hc188)).symm), H201.retRowM 3 0 (by decide) rfl rfl, (congrArg Prod.fst (op_ok (opRead_e hK hgo (by omega)) hc188)).symm⟩
end Go.Proofs.Ythjdhfoeckfmbaa
namespace Go.Proofs.Ythjdhfoeckfmbaa
open Go
set_option linter.unusedVariables false
set_option linter.unusedSimpArgs false
set_option linter.unusedSectionVars false
variable [DD]
def ShpQ (F : Nat → Prop) (t : TypeId) (k : Nat) (h : SlH) (n : Nat) (w : World) : Prop :=
  n = 0 ∨ ∃ cap cur, h.a = some ⟨h.b, 0, none⟩ ∧ h.o = 0 ∧ F h.b ∧ w.heap[h.b]? = some (.cells cur t (0, 0)) ∧ n ≤ cap ∧ cur.size = cap * k
def deepW {α : Type} (F : Nat → Prop) (t : TypeId) (k : Nat) (h : α → SlH) (n : α → Nat) (l : List α) : Imm where
  F := F
  p w := ∀ x ∈ l, ShpQ F t k (h x) (n x) w
  loc w w' hw hp := fun x hx => by
    rcases hp x hx with h0 | ⟨cap, cur, h1, h2, h3, h4, h5⟩
    · exact .inl h0
    · exact .inr ⟨cap, cur, h1, h2, h3, by rw [hw _ h3]; exact h4, h5⟩
section
variable {α β : Type} {enc : β → Chs} {k : Nat} {h : α → SlH} {f : α → List β} {n : α → Nat} {w0 w w' : World} {M : Nat → Prop} {B : List Own} {I : List Imm} {t : TypeId}
theorem ShpQ.mono {F F' : Nat → Prop} {h : SlH} {n : Nat} (s : ShpQ F t k h n w) (hF : ∀ b, F b → F' b) : ShpQ F' t k h n w := by
  rcases s with h0 | ⟨cap, cur, h1, h2, h3, h4, h5⟩
  · exact .inl h0
  · exact .inr ⟨cap, cur, h1, h2, hF _ h3, h4, h5⟩
theorem OwnS.shp {base : Nat} {h : SlH} {l : List β} (q : OwnS base t k enc h l w) : ShpQ (fun b => (slV h l).ownBlock = some b) t k h l.length w := by
  rcases q.1.2 with ⟨hv, h0⟩ | ⟨g, cap, cur, hv, _, hg, hn, _, hs, _⟩
  · exact .inl h0
  · simp only [slV, Value.slice.injEq, true_and] at hv
    have e := q.2 _ hv.1
    simp only [Addr.mk.injEq] at e
    refine .inr ⟨cap, cur, by rw [hv.1, e.1], e.2.1.symm, by simp only [slV, hv.1, Value.ownBlock]; rw [e.1], by rw [← e.1]; exact hg, hn, hs⟩
theorem Ctx.deepWNil (H : Ctx w0 M w B I) (t : TypeId) (k : Nat) (h : α → SlH) (n : α → Nat) : Ctx w0 M w B (deepW nob t k h n [] :: I) :=
  H.addImm' _ (fun _ hx => (nomatch hx)) (fun b hb => hb.elim)
theorem Ctx.freezeW {hs : SlH} {l : List β} (H : Ctx w0 M w B I) (j : Nat) (hj : B[j]? = some (rowR t k enc hs l)) (hk : ∀ x, (enc x).flatten.length = k) :
    Ctx w0 M w (B.eraseIdx j) (deepW (fun b => (slV hs l).ownBlock = some b) t k (fun _ : Unit => hs) (fun _ => l.length) [()] :: slI (fun b => (slV hs l).ownBlock = some b) enc k hs l :: I) :=
  (H.freeze j hj hk).immOf 0 rfl _ (fun _ h => h) fun _ => fun _ _ => OwnS.shp (H.getOwn j hj)
theorem Ctx.deepWSnoc (H : Ctx w0 M w B I) {S F2 : Nat → Prop} {acc : List α} {h2 : SlH} {n2 : Nat} (j : Nat) (hj : I[j]? = some (deepW S t k h n acc)) (i : Nat) (hi : I[i]? = some (deepW F2 t k (fun _ : Unit => h2) (fun _ => n2) [()])) (x : α) (h1 : h x = h2) (h3 : n x = n2) :
    Ctx w0 M w B (deepW (fun b => S b ∨ F2 b) t k h n (acc ++ [x]) :: I) := by
  refine H.addImm' _ ?_ ?_
  · intro y hy
    rcases List.mem_append.1 hy with hy | hy
    · exact (show ShpQ S t k (h y) (n y) w from H.getImm j hj y hy).mono fun b hb => .inl hb
    · rw [List.mem_singleton] at hy
      subst hy h1 h3
      exact (show ShpQ F2 t k (h y) (n y) w from H.getImm i hi () (by simp)).mono fun b hb => .inr hb
  · intro b hb
    rcases hb with hb | hb
    · exact ⟨(H.imm _ (List.mem_of_getElem? hj)).2 b hb, fun o ho hob => H.off o ho _ (List.mem_of_getElem? hj) b hob hb⟩
    · exact ⟨(H.imm _ (List.mem_of_getElem? hi)).2 b hb, fun o ho hob => H.off o ho _ (List.mem_of_getElem? hi) b hob hb⟩
theorem deepW_set [Inhabited α] {F : Nat → Prop} {l : List α} {i : Nat} {x : α} (hi : i < l.length) (h1 : h x = h (nth l i)) (h2 : n x = n (nth l i)) (hp : (deepW F t k h n l).p w) : (deepW F t k h n (l.set i x)).p w := by
  intro y hy
  rcases List.mem_or_eq_of_mem_set hy with hy | hy
  · exact hp y hy
  · subst hy
    rw [h1, h2]
    exact hp _ (nth_mem hi)
theorem R_index_shp {P : Program} {ρ : Operand → Value} {K : Value → World → Prop} {d : Option Tmp} {ty : TypeId} {pos : String} {af : Array Edge} {g : Option (Nat × Bool)} {F : Nat → Prop} {hs : SlH} {m : Nat} (S : ShpQ F t k hs m w) {ts e : TypeId} {x i : Operand} {oo : Nat} {j : Int} {kk : IntKind} (hu : P.underlying ts = some (.slice e)) (hz : ∀ w, (sizeOf e).run P w = .ok k w)
    (hx : ρ x = .slice hs.a m hs.c) (hi : ρ i = .int kk j) (h0 : 0 ≤ j) (h1 : j < m) (hoo : hs.o + j.toNat * k = oo) (hK : K (.pointer (some ⟨hs.b, oo, none⟩)) w) :
    Runs P ρ ⟨d, .indexAddr ts x i, ty, pos, af, g⟩ w K := by
  rcases S with h | ⟨cap, cur, ha, ho, _⟩
  · omega
  · exact R_index_slice (b := hs.b) (o := hs.o) (n := m) (c := hs.c) hu hz (by rw [hx, ha, ho]) hi h0 (by omega) hoo hK
theorem C_storeShp {P : Program} {ρ : Operand → Value} {K : Value → World → Prop} {d : Option Tmp} {ty : TypeId} {pos : String} {af : Array Edge} {g : Option (Nat × Bool)} (H : Ctx w0 M w B I) (j : Nat) {S : Nat → Prop} {l : List α} (hj : I[j]? = some (deepW S t k h n l)) {x : α} (hx : x ∈ l) {i q m oo : Nat} (hi : i < n x) (hq : q + m ≤ k)
    {tv : TypeId} {p y : Operand} {v : Value} {sub : List Value} (hs : ∀ w, (sizeOf tv).run P w = .ok m w) (hp : ρ p = .pointer (some ⟨(h x).b, oo, none⟩)) (hoo : (h x).o + i * k + q = oo) (hy : ρ y = v) (hc : v.cells.toList = sub) (hm : sub.length = m) (h1 : sub.all (·.oneCell') = true)
    (hnew : ∀ b, S b → w0.heap.size ≤ b) (I' : List Imm) (hI : ∀ i' ∈ I', i' ∈ I ∧ ∀ b, i'.F b → b < w0.heap.size)
    (hK : ∀ w', Gr S w w' → Ctx w0 M w' B (deepW S t k h n l :: I') → K undef w') : Runs P ρ ⟨d, .store tv p y, ty, pos, af, g⟩ w K := by
  have hD : (deepW S t k h n l).p w := H.getImm j hj
  rcases hD x hx with h0 | ⟨cap, cur, ha, ho, hS, hg, hn, hcs⟩
  · omega
  have hik : i * k + k ≤ cap * k := by
    have := Nat.mul_le_mul_right k (show i + 1 ≤ cap by omega)
    rwa [Nat.add_mul, Nat.one_mul] at this
  have hsz : oo + 0 + sub.length ≤ cur.size := by rw [hcs, hm]; omega
  have hst := run_storeCells_at P (h x).b oo t sub 0 cur w hg hsz (fun u hu => List.all_eq_true.1 h1 u hu)
  obtain ⟨cs', hcs'⟩ : ∃ cs', cs' = (cur.toList.take (oo + 0) ++ sub ++ cur.toList.drop (oo + 0 + sub.length)).toArray := ⟨_, rfl⟩
  rw [← hcs'] at hst
  have hsize : cs'.size = cur.size := by
    rw [hcs']
    simp only [List.size_toArray, List.length_append, List.length_take, List.length_drop, Array.length_toList]
    omega
  have hgr : Gr S w (w.setRow (h x).b cs') :=
    ⟨rfl, rfl, rfl, by simp, fun b hb hnS => setRow_other w (h x).b b _ fun e => hnS (e ▸ hS), fun _ => Nat.le_refl _⟩
  have hblk : ∀ b, b ≠ (h x).b → (w.setRow (h x).b cs').heap[b]? = w.heap[b]? := fun b hb => setRow_other w (h x).b b _ hb
  have hsl : (w.setRow (h x).b cs').heap.size = w.heap.size := by simp
  have hM : Ctx w0 M (w.setRow (h x).b cs') B (deepW S t k h n l :: I') := by
    have hg0 := H.gr
    refine ⟨⟨hg0.os, hg0.tape, hg0.output, by rw [hsl]; exact hg0.size, fun b hb hnM => ?_, fun dd => hg0.drawn dd⟩, ?_, ?_, H.apart, ?_⟩
    · have := hnew _ hS
      rw [hblk b (by omega)]
      exact hg0.block b hb hnM
    · intro o ho
      obtain ⟨h2, h3⟩ := H.own o ho
      refine ⟨o.loc w _ (fun b hb => hblk b fun e => ?_) h2, fun b hb => ⟨by rw [hsl]; exact (h3 b hb).1, (h3 b hb).2⟩⟩
      exact H.off o ho _ (List.mem_of_getElem? hj) b hb (e ▸ hS)
    · intro i' hi'
      rcases List.mem_cons.1 hi' with e | hi'
      · subst e
        refine ⟨fun z hz => ?_, fun b hb => by rw [hsl]; exact (H.imm _ (List.mem_of_getElem? hj)).2 b hb⟩
        rcases hD z hz with h0 | ⟨cap2, cur2, ha2, ho2, hS2, hg2, hn2, hcs2⟩
        · exact .inl h0
        · by_cases e : (h z).b = (h x).b
          · have hg3 : w.heap[(h z).b]? = some (.cells cur t (0, 0)) := by rw [e]; exact hg
            rw [hg2] at hg3
            simp only [Option.some.injEq, Obj.cells.injEq, and_true, true_and] at hg3
            refine .inr ⟨cap2, cs', ha2, ho2, hS2, ?_, hn2, by rw [hsize, ← hg3]; exact hcs2⟩
            rw [e]; exact setRow_heap w (h x).b _ _ t _ hg
          · exact .inr ⟨cap2, cur2, ha2, ho2, hS2, by rw [hblk _ e]; exact hg2, hn2, hcs2⟩
      · obtain ⟨hm, hF⟩ := hI i' hi'
        obtain ⟨h2, h3⟩ := H.imm i' hm
        refine ⟨i'.loc w _ (fun b hb => hblk b fun e => ?_) h2, fun b hb => by rw [hsl]; exact h3 b hb⟩
        have h4 := hF b hb
        have h5 := hnew _ hS
        rw [e] at h4
        omega
    · intro o ho i' hi' b hb
      rcases List.mem_cons.1 hi' with e | hi'
      · subst e
        exact H.off o ho _ (List.mem_of_getElem? hj) b hb
      · exact H.off o ho i' (hI i' hi').1 b hb
  refine .skip (w' := _) ?_ (hK _ hgr hM)
  have hvs : v.cells.size = m := by rw [← Array.length_toList, hc, hm]
  simp [execOp, hp, hy, Instr.storeAt, Instr.sureAddr, storeVar, hs, hvs, hc, hst]
theorem Ctx.addChg {γ δ : Type} {e1 : γ → Chs} {e2 : δ → Chs} {t1 t2 : TypeId} {k1 k2 : Nat} {h1 h2 : SlH} {l1 : List γ} {l2 : List δ} (H : Ctx w0 M w B I) (hx : Ext w w') (q1 : OwnS w.heap.size t1 k1 e1 h1 l1 w') (q2 : OwnS w.heap.size t2 k2 e2 h2 l2 w')
    (h12 : ∀ b, (slV h1 l1).ownBlock = some b → (slV h2 l2).ownBlock ≠ some b) {S : Nat → Prop} (hS : ∀ b, S b → w.heap.size ≤ b ∧ b < w'.heap.size ∧ (slV h1 l1).ownBlock ≠ some b ∧ (slV h2 l2).ownBlock ≠ some b) (D : Imm) (hDF : ∀ b, D.F b → S b) (hD : D.p w') :
    Ctx w0 M w' (rowR t1 k1 e1 h1 l1 :: rowR t2 k2 e2 h2 l2 :: B) (D :: I) := by
  have H1 := H.ext hx
  have b1 : ∀ b, (rowR t1 k1 e1 h1 l1).blk = some b → w.heap.size ≤ b ∧ b < w'.heap.size := fun b hb => q1.1.lt b hb
  have b2 : ∀ b, (rowR t2 k2 e2 h2 l2).blk = some b → w.heap.size ≤ b ∧ b < w'.heap.size := fun b hb => q2.1.lt b hb
  have old : ∀ o ∈ B, ∀ b, o.blk = some b → b < w.heap.size := fun o ho b hb => ((H.own o ho).2 b hb).1
  have w0le := H.gr.size
  refine ⟨H1.gr, ?_, ?_, ?_, ?_⟩
  · intro o ho
    rcases List.mem_cons.1 ho with e | ho
    · subst e; exact ⟨q1.base, fun b hb => ⟨(b1 b hb).2, fun hlt => by have := (b1 b hb).1; omega⟩⟩
    · rcases List.mem_cons.1 ho with e | ho
      · subst e; exact ⟨q2.base, fun b hb => ⟨(b2 b hb).2, fun hlt => by have := (b2 b hb).1; omega⟩⟩
      · exact H1.own o ho
  · intro i hi
    rcases List.mem_cons.1 hi with e | hi
    · subst e; exact ⟨hD, fun b hb => (hS b (hDF b hb)).2.1⟩
    · exact H1.imm i hi
  · refine List.pairwise_cons.2 ⟨fun o ho b hb => ?_, List.pairwise_cons.2 ⟨fun o ho b hb => ?_, H1.apart⟩⟩
    · rcases List.mem_cons.1 ho with e | ho
      · subst e; exact h12 b hb
      · intro h; have := old o ho b h; have := (b1 b hb).1; omega
    · intro h; have := old o ho b h; have := (b2 b hb).1; omega
  · intro o ho i hi b hb hF
    rcases List.mem_cons.1 hi with e | hi
    · subst e
      have hs := hS b (hDF b hF)
      rcases List.mem_cons.1 ho with e | ho
      · subst e; exact hs.2.2.1 hb
      · rcases List.mem_cons.1 ho with e | ho
        · subst e; exact hs.2.2.2 hb
        · have := old o ho b hb; omega
    · have hlt := (H.imm i hi).2 b hF
      rcases List.mem_cons.1 ho with e | ho
      · subst e; have := (b1 b hb).1; omega
      · rcases List.mem_cons.1 ho with e | ho
        · subst e; have := (b2 b hb).1; omega
        · exact H.off o ho i hi b hb hF
theorem Ctx.retDeepC {γ δ : Type} {e1 : γ → Chs} {e2 : δ → Chs} {t1 t2 : TypeId} {k1 k2 : Nat} {h1 h2 : SlH} {l1 : List γ} {l2 : List δ} (H : Ctx w0 nob w B I) (i1 i2 : Nat) (hi1 : B[i1]? = some (rowR t1 k1 e1 h1 l1)) (hi2 : B[i2]? = some (rowR t2 k2 e2 h2 l2)) (j : Nat) {D : Imm} (hj : I[j]? = some D) (hS : ∀ b, D.F b → w0.heap.size ≤ b) :
    ∀ b, D.F b → w0.heap.size ≤ b ∧ b < w.heap.size ∧ (slV h1 l1).ownBlock ≠ some b ∧ (slV h2 l2).ownBlock ≠ some b :=
  fun b hb => ⟨hS b hb, (H.imm _ (List.mem_of_getElem? hj)).2 b hb, fun h => H.off _ (List.mem_of_getElem? hi1) _ (List.mem_of_getElem? hj) b h hb, fun h => H.off _ (List.mem_of_getElem? hi2) _ (List.mem_of_getElem? hj) b h hb⟩
end
end Go.Proofs.Ythjdhfoeckfmbaa
namespace Go.Proofs.Ythjdhfoeckfmbaa
open Go
set_option maxRecDepth 100000
set_option linter.unusedVariables false
set_option linter.unusedSimpArgs false
set_option linter.unusedSectionVars false
theorem cF16 : callable Try.prog 16 = true := by kernel_rfl
theorem cF22 : callable Try.prog 22 = true := by kernel_rfl
theorem cF25 : callable Try.prog 25 = true := by kernel_rfl
theorem cF32 : callable Try.prog 32 = true := by kernel_rfl
set_option maxHeartbeats 4000000 in
theorem obj_Change (hb : SlH) (b : List UInt8) (w : World) (Sb : Sl (Old w) encB 1 hb b w) (hl : b.length ≤ 140737488355328) :
    Calls Try.prog 13 #[(slV hb b)] w (Ret fun v w' => ∃ (X : ChangeS) (SX : Nat → Prop) (e : Int), v = .tuple #[changeV X, .int .i64 e] ∧ Ext w w' ∧ OwnS w.heap.size 25 32 idCh X.ph X.parents w' ∧ OwnS w.heap.size 56 41 opCh X.oh X.ops w' ∧ (∀ b, (slV X.ph X.parents).ownBlock = some b → (slV X.oh X.ops).ownBlock ≠ some b) ∧ (∀ b, SX b → w.heap.size ≤ b ∧ b < w'.heap.size ∧ (slV X.ph X.parents).ownBlock ≠ some b ∧ (slV X.oh X.ops).ownBlock ≠ some b) ∧ (∀ x ∈ X.ops, Sl SX stampCh 2 x.oh x.over w') ∧ (deepW SX 46 2 (fun x : OpS => x.oh) (fun x : OpS => x.over.length) X.ops).p w' ∧ ((X.core, e) = changeOf b)) := by
 refine calls_W Try.func13 rfl Try.ntmps13 rfl ?_
 have H0 := Ctx.start w nob
 have H1 := H0.addSl _ Sb (fun b hb => ⟨hb, fun _ ho => (nomatch ho)⟩)
 have LSb := Sb.len
 refine W_seq (W_reg ?_)
 refine O_v rfl (C_alloc H1 [[(.slice none 0 0)], [(.int .i64 0)], [(.int .i64 0)], [(.slice none 0 0)], (idCells zeroId), [(.string ByteArray.empty)]] Try.zeroValue27 ?_)
 intro b2 w3 hb4 hx5 H6
 refine O_as (v := (.int .i64 0)) rfl rfl ?_
 refine O_nil (Then_n (W_seq (W_reg ?_)))
 refine O_mv (v := (slV hb b)) rfl rfl ?_
 refine O_v rfl (R_callL (vs := [(slV hb b), (.int .u8 3)]) cF22 rfl rfl ((obj_open hb b 3 w3 (H6.slOld 0 rfl) (by omega)).ret ?_))
 rintro _ w10 ⟨b7, r8, S9, rfl, hx11, hb12, hS13, hQ14, hr15⟩
 have H16 := H6.addRd hx11 hb12 hS13 hQ14
 refine O_as (v := (.pointer (some ⟨b7, 0, none⟩))) rfl rfl ?_
 refine O_nil (Then_n (W_seq (W_reg ?_)))
 refine O_v rfl (C_alloc H16 [[(.slice none 0 0)], [(.int .i64 0)], [(.int .i64 0)], [(.slice none 0 0)], (idCells zeroId), [(.string ByteArray.empty)]] Try.zeroValue27 ?_)
 intro b17 w18 hb19 hx20 H21
 refine O_nil (Then_n (W_seq (W_seq (W_reg ?_))))
 refine O_mv (v := (.pointer (some ⟨b7, 0, none⟩))) rfl rfl ?_
 refine O_v rfl (R_callL (vs := [(.pointer (some ⟨b7, 0, none⟩)), (.int .i64 2)]) cF26 rfl rfl ((Reader_Num b7 r8 S9 (openSt b 3) 2 w18 ((H21.pick (B' := [boxR b7 92 (rdCh r8)]) (I' := [slI S9 encB 1 r8.bh r8.b]) [1] (by decide) rfl (List.forall_mem_cons.2 ⟨List.mem_of_getElem? (i := 0) rfl, fun _ h => (nomatch h)⟩)).rdStart) hr15).ret ?_))
 rintro _ w23 ⟨r22, rfl, hg24, hQ25, hr26⟩
 have H27 := H21.rdUpd (r := r8) 1 0 rfl rfl hg24 hQ25
 refine O_mv (v := (.int .i64 0)) rfl rfl ?_
 refine O_nil (Then_n (W_block ?_))
 have H28 := H27.addNil 25 32 idCh
 refine W_loop (fun m29 e30 w31 => ∃ (k : Nat), ∃ (pacc : List ID), ∃ (rr : RdS), ∃ (rq : List UInt8 × Bool), ∃ (hp : SlH), m29 = (rdNum (openSt b 3) 2).1 - k ∧ (k ≤ (rdNum (openSt b 3) 2).1) ∧ ((rdNum (openSt b 3) 2).1 ≤ 2) ∧ (pacc.length ≤ k) ∧ (rr.st = rq) ∧ (rdIds ((rdNum (openSt b 3) 2).1 - k) pacc rq = rdIds (rdNum (openSt b 3) 2).1 [] (rdNum (openSt b 3) 2).2) ∧ ∃ eb32, e30 = envL [(2, (.pointer (some ⟨b2, 0, none⟩))), (3, (.int .i64 0)), (4, (.pointer (some ⟨b7, 0, none⟩))), (5, (.pointer (some ⟨b17, 0, none⟩))), (9, (.int .i64 (((rdNum (openSt b 3) 2).1) : Int))), (10, (.int .i64 (k : Int)))] eb32 ∧ Ctx w nob w31 [rowR 25 32 idCh hp pacc, boxR b17 27 [[(slV hp pacc)], [(.int .i64 0)], [(.int .i64 0)], [(.slice none 0 0)], (idCells zeroId), [(.string ByteArray.empty)]], boxR b7 92 [[(slV rr.bh rr.b)], [(.bool rr.bad)]], boxR b2 27 [[(.slice none 0 0)], [(.int .i64 0)], [(.int .i64 0)], [(.slice none 0 0)], (idCells zeroId), [(.string ByteArray.empty)]]] [slI S9 encB 1 rr.bh rr.b, slI (Old w) encB 1 hb b]) _ ⟨0, [], r22, ((rdNum (openSt b 3) 2).2), nilH, rfl, (by omega), (rdNum_le _ (by decide)), (by simp), hr26, rfl, _, envL_self ⟨rfl, rfl, rfl, rfl, rfl, rfl, trivial⟩, H28⟩ ?_
 rintro m29 _ w31 ⟨k, pacc, rr, rq, hp, rfl, hk, hm, hal, hrr, hgo, eb32, rfl, H33⟩
 refine W_seq (W_reg ?_)
 refine O_v rfl (R_cmp (a := (k : Int)) (b := (((rdNum (openSt b 3) 2).1) : Int)) (r := (decide ((k : Int) < (((rdNum (openSt b 3) 2).1) : Int)))) rfl rfl rfl ?_)
 refine O_nil (Then_n (W_seq ?_))
 refine W_cond rfl (fun hc34 => ?_) (fun hc34 => ?_)
 ·have hc34 := (of_decide_eq_true hc34)
  refine W_skip (Then_n (W_seq (W_block ?_)))
  refine W_rgdM TryMixed (fun c => c = b7) (fun i => if i == 3 then 1 else if i == 5 || i == 7 then 2 else 0) [(0, .q 2), (1, .q 1), (2, .q 2), (3, .c 1), (4, .c 0), (5, .c 2), (6, .q 2), (7, .c 2)] (by kernel_rfl) ?_
  refine Lx_q rfl rfl _ (fun v35 hv36 => R_fieldAddr (off := 0) (oo := 0) Try.underlying27 rfl rfl Try.sizeOf22 rfl rfl qk) (Lx_q rfl rfl _ (fun v37 hv38 => R_load1 (v := (slV hp pacc)) Try.isAgg22 rfl ((boxR_at (H33.ownGr 1 2 (by decide) rfl rfl hv38 (fun _ h => congrArg some h.symm))).chunks 0 1 0 0 _ rfl rfl rfl) qk) (Lx_mv (v := (.pointer (some ⟨b7, 0, none⟩))) rfl rfl rfl ?_))
  refine Lx_c rfl rfl (fun w41 hw42 => ?_)
  have H43 := H33.ext hw42
  refine (R_callL (vs := [(.pointer (some ⟨b7, 0, none⟩))]) cF23 rfl rfl ((Reader_Id b7 rr S9 rq w41 ((H43.pick (B' := [boxR b7 92 (rdCh rr)]) (I' := [slI S9 encB 1 rr.bh rr.b]) [2] (by decide) rfl (List.forall_mem_cons.2 ⟨List.mem_of_getElem? (i := 0) rfl, fun _ h => (nomatch h)⟩)).rdStart) hrr).ret ?_))
  rintro _ w45 ⟨r44, rfl, hg46, hQ47, hr48⟩
  have H49 := H43.rdUpd (r := rr) 2 0 rfl rfl hg46 hQ47
  refine ⟨hg46, ?_⟩
  refine Lx_c rfl rfl (fun w50 hw51 => ?_)
  have H52 := H49.ext hw51
  refine (C_buildSliceL H52 (enc := idCh) (val := idV) ([(rdId rq).1] : List ID) Try.underlying22 Try.sizeOf25 Try.zeroValue25 rfl (by decide) (fun _ => rfl) (fun _ => rfl) rfl rfl (by decide) ?_)
  intro b53 w54 hb55 hx56 H57
  refine ⟨GrF.ofExt hx56, ?_⟩
  refine Lx_c rfl rfl (fun w58 hw59 => ?_)
  have H60 := H57.ext hw59
  refine (C_append H60 1 rfl (bytes := 32) (l := pacc) (ys := ([(rdId rq).1] : List ID)) Try.underlying22 rfl rfl rfl rfl rfl (by decide) rfl rfl (OwnS.sl (H60.getOwn 0 rfl) (fun _ => rfl)) (fun _ => rfl) (fun _ => rfl) (by simp only [List.length_append, List.length_cons, List.length_nil]; omega) (by decide) ?_)
  intro h61 w62 hg63 H64
  refine ⟨Gr.mono (M' := fun _ => True) hg63 (fun _ _ => trivial), ?_⟩
  refine Lx_q rfl rfl _ (fun v65 hv66 => R_fieldAddr (off := 0) (oo := 0) Try.underlying27 rfl rfl Try.sizeOf22 rfl rfl qk) ?_
  refine Lx_cu rfl (fun w67 hw68 => ?_)
  have H69 := H64.ext hw68
  refine (C_store1 H69 2 rfl 0 (v := (slV h61 (pacc ++ ([(rdId rq).1] : List ID)))) [[(slV h61 (pacc ++ ([(rdId rq).1] : List ID)))], [(.int .i64 0)], [(.int .i64 0)], [(.slice none 0 0)], (idCells zeroId), [(.string ByteArray.empty)]] Try.sizeOf22 rfl rfl rfl rfl rfl rfl rfl ?_)
  intro w70 hg71 H72
  refine ⟨Gr.mono (M' := fun _ => True) hg71 (fun _ _ => trivial), ?_⟩
  refine Lx_nil (fun w73 hw74 => ?_)
  have H75 := H72.ext hw74
  refine Blk_n (Then_n (W_reg ?_))
  refine O_v rfl (R_arith (a := (k : Int)) (b := 1) (r0 := (k : Int) + 1) (r := ((k + 1 : Nat) : Int)) rfl rfl rfl (wrapN _ (by omega)) ?_)
  refine O_mv (v := (.int .i64 ((k + 1 : Nat) : Int))) rfl rfl ?_
  refine O_nil (Then_n ?_)
  have H76 := H75.sub (List.Sublist.cons _ (List.Sublist.cons_cons _ (List.Sublist.cons_cons _ (List.Sublist.cons_cons _ (List.Sublist.cons_cons _ List.Sublist.slnil))))) (List.forall_mem_cons.2 ⟨List.mem_of_getElem? (i := 0) rfl, List.forall_mem_cons.2 ⟨List.mem_of_getElem? (i := 1) rfl, memN⟩⟩)
  refine ⟨_, ?_, (k + 1), (pacc ++ ([(rdId rq).1] : List ID)), r44, ((rdId rq).2), h61, rfl, (by omega), hm, (by simp only [List.length_append, List.length_cons, List.length_nil]; omega), hr48, (ids_next hgo (by omega)), _, envL_self ⟨rfl, rfl, rfl, rfl, rfl, rfl, trivial⟩, H76⟩
  omega
 ·have hc34 := (of_decide_eq_false hc34)
  refine W_exit (Then_x (Then_x (Blk_x (Then_n (W_seq (W_reg ?_))))))
  refine O_mv (v := (.pointer (some ⟨b7, 0, none⟩))) rfl rfl ?_
  refine O_v rfl (R_callL (vs := [(.pointer (some ⟨b7, 0, none⟩)), (.int .i64 1099511627776)]) cF26 rfl rfl ((Reader_Num b7 rr S9 rq 1099511627776 w31 ((H33.pick (B' := [boxR b7 92 (rdCh rr)]) (I' := [slI S9 encB 1 rr.bh rr.b]) [2] (by decide) rfl (List.forall_mem_cons.2 ⟨List.mem_of_getElem? (i := 0) rfl, fun _ h => (nomatch h)⟩)).rdStart) hrr).ret ?_))
  rintro _ w78 ⟨r77, rfl, hg79, hQ80, hr81⟩
  have H82 := H33.rdUpd (r := rr) 2 0 rfl rfl hg79 hQ80
  refine O_v rfl (R_fieldAddr (off := 1) (oo := 1) Try.underlying27 rfl rfl Try.sizeOf2 rfl rfl ?_)
  refine O_u (C_store1 H82 1 rfl 1 (v := (.int .i64 (((rdNum rq 1099511627776).1) : Int))) [[(slV hp pacc)], [(.int .i64 (((rdNum rq 1099511627776).1) : Int))], [(.int .i64 0)], [(.slice none 0 0)], (idCells zeroId), [(.string ByteArray.empty)]] Try.sizeOf2 rfl rfl rfl rfl rfl rfl rfl ?_)
  intro w83 hg84 H85
  refine O_nil (Then_n (W_seq (W_reg ?_)))
  refine O_mv (v := (.pointer (some ⟨b7, 0, none⟩))) rfl rfl ?_
  refine O_v rfl (R_callL (vs := [(.pointer (some ⟨b7, 0, none⟩)), (.int .i64 65536)]) cF26 rfl rfl ((Reader_Num b7 r77 S9 ((rdNum rq 1099511627776).2) 65536 w83 ((H85.pick (B' := [boxR b7 92 (rdCh r77)]) (I' := [slI S9 encB 1 r77.bh r77.b]) [2] (by decide) rfl (List.forall_mem_cons.2 ⟨List.mem_of_getElem? (i := 0) rfl, fun _ h => (nomatch h)⟩)).rdStart) hr81).ret ?_))
  rintro _ w87 ⟨r86, rfl, hg88, hQ89, hr90⟩
  have H91 := H85.rdUpd (r := r77) 2 0 rfl rfl hg88 hQ89
  refine O_v rfl (R_fieldAddr (off := 2) (oo := 2) Try.underlying27 rfl rfl Try.sizeOf3 rfl rfl ?_)
  refine O_u (C_store1 H91 1 rfl 2 (v := (.int .i64 (((rdNum ((rdNum rq 1099511627776).2) 65536).1) : Int))) [[(slV hp pacc)], [(.int .i64 (((rdNum rq 1099511627776).1) : Int))], [(.int .i64 (((rdNum ((rdNum rq 1099511627776).2) 65536).1) : Int))], [(.slice none 0 0)], (idCells zeroId), [(.string ByteArray.empty)]] Try.sizeOf3 rfl rfl rfl rfl rfl rfl rfl ?_)
  intro w92 hg93 H94
  refine O_nil (Then_n (W_seq (W_seq (W_reg ?_))))
  refine O_mv (v := (.pointer (some ⟨b7, 0, none⟩))) rfl rfl ?_
  refine O_v rfl (R_callL (vs := [(.pointer (some ⟨b7, 0, none⟩)), (.int .i64 64)]) cF26 rfl rfl ((Reader_Num b7 r86 S9 ((rdNum ((rdNum rq 1099511627776).2) 65536).2) 64 w92 ((H94.pick (B' := [boxR b7 92 (rdCh r86)]) (I' := [slI S9 encB 1 r86.bh r86.b]) [2] (by decide) rfl (List.forall_mem_cons.2 ⟨List.mem_of_getElem? (i := 0) rfl, fun _ h => (nomatch h)⟩)).rdStart) hr90).ret ?_))
  rintro _ w96 ⟨r95, rfl, hg97, hQ98, hr99⟩
  have H100 := H94.rdUpd (r := r86) 2 0 rfl rfl hg97 hQ98
  refine O_mv (v := (.int .i64 0)) rfl rfl ?_
  refine O_nil (Then_n (W_block ?_))
  have H101 := H100.addNil 56 41 opCh
  have H102 := H101.deepNil stampCh 2 (fun x : OpS => x.oh) (fun x : OpS => x.over)
  have H103 := H102.deepWNil 46 2 (fun x : OpS => x.oh) (fun x : OpS => x.over.length)
  refine W_loop (fun m104 e105 w106 => ∃ (j : Nat), ∃ (oacc : List OpS), ∃ (S : Nat → Prop), ∃ (rr2 : RdS), ∃ (rq2 : List UInt8 × Bool), ∃ (ho : SlH), m104 = (rdNum (rdNum (rdNum rq 1099511627776).2 65536).2 64).1 - j ∧ (j ≤ (rdNum (rdNum (rdNum rq 1099511627776).2 65536).2 64).1) ∧ ((rdNum (rdNum (rdNum rq 1099511627776).2 65536).2 64).1 ≤ 64) ∧ (oacc.length ≤ j) ∧ (∀ b, S b → w.heap.size ≤ b) ∧ (rr2.st = rq2) ∧ (rdOps ((rdNum (rdNum (rdNum rq 1099511627776).2 65536).2 64).1 - j) (oacc.map OpS.core) rq2 = rdOps (rdNum (rdNum (rdNum rq 1099511627776).2 65536).2 64).1 [] (rdNum (rdNum (rdNum rq 1099511627776).2 65536).2 64).2) ∧ ∃ eb107, e105 = envL [(2, (.pointer (some ⟨b2, 0, none⟩))), (3, (.int .i64 0)), (4, (.pointer (some ⟨b7, 0, none⟩))), (5, (.pointer (some ⟨b17, 0, none⟩))), (27, (.int .i64 (((rdNum ((rdNum ((rdNum rq 1099511627776).2) 65536).2) 64).1) : Int))), (28, (.int .i64 (j : Int)))] eb107 ∧ Ctx w nob w106 [rowR 56 41 opCh ho oacc, rowR 25 32 idCh hp pacc, boxR b17 27 [[(slV hp pacc)], [(.int .i64 (((rdNum rq 1099511627776).1) : Int))], [(.int .i64 (((rdNum ((rdNum rq 1099511627776).2) 65536).1) : Int))], [(slV ho oacc)], (idCells zeroId), [(.string ByteArray.empty)]], boxR b7 92 [[(slV rr2.bh rr2.b)], [(.bool rr2.bad)]], boxR b2 27 [[(.slice none 0 0)], [(.int .i64 0)], [(.int .i64 0)], [(.slice none 0 0)], (idCells zeroId), [(.string ByteArray.empty)]]] [deepW S 46 2 (fun x : OpS => x.oh) (fun x : OpS => x.over.length) oacc, deepI S stampCh 2 (fun x : OpS => x.oh) (fun x : OpS => x.over) oacc, slI S9 encB 1 rr2.bh rr2.b, slI (Old w) encB 1 hb b]) _ ⟨0, [], nob, r95, ((rdNum (rdNum (rdNum rq 1099511627776).2 65536).2 64).2), nilH, rfl, (by omega), (rdNum_le _ (by decide)), (by simp), (fun _ h => h.elim), hr99, rfl, _, envL_self ⟨rfl, rfl, rfl, rfl, rfl, rfl, trivial⟩, H103⟩ ?_
  rintro m104 _ w106 ⟨j, oacc, S, rr2, rq2, ho, rfl, hj, hm2, hal2, hS, hrr2, hgo2, eb107, rfl, H108⟩
  refine W_seq (W_reg ?_)
  refine O_v rfl (R_cmp (a := (j : Int)) (b := (((rdNum ((rdNum ((rdNum rq 1099511627776).2) 65536).2) 64).1) : Int)) (r := (decide ((j : Int) < (((rdNum ((rdNum ((rdNum rq 1099511627776).2) 65536).2) 64).1) : Int)))) rfl rfl rfl ?_)
  refine O_nil (Then_n (W_seq ?_))
  refine W_cond rfl (fun hc109 => ?_) (fun hc109 => ?_)
  ·have hc109 := (of_decide_eq_true hc109)
   refine W_skip (Then_n (W_seq (W_block ?_)))
   refine W_rgdM TryMixed (fun c => c = b7) (fun i => if i == 3 then 1 else if i == 5 || i == 7 then 2 else 0) [(0, .q 2), (1, .q 1), (2, .q 2), (3, .c 1), (4, .c 0), (5, .c 2), (6, .q 2), (7, .c 2)] (by kernel_rfl) ?_
   refine Lx_q rfl rfl _ (fun v110 hv111 => R_fieldAddr (off := 3) (oo := 3) Try.underlying27 rfl rfl Try.sizeOf23 rfl rfl qk) (Lx_q rfl rfl _ (fun v112 hv113 => R_load1 (v := (slV ho oacc)) Try.isAgg23 rfl ((boxR_at (H108.ownGr 2 3 (by decide) rfl rfl hv113 (fun _ h => congrArg some h.symm))).chunks 3 1 3 3 _ rfl rfl rfl) qk) (Lx_mv (v := (.pointer (some ⟨b7, 0, none⟩))) rfl rfl rfl ?_))
   refine Lx_c rfl rfl (fun w116 hw117 => ?_)
   have H118 := H108.ext hw117
   refine (R_callL (vs := [(.pointer (some ⟨b7, 0, none⟩))]) cF32 rfl rfl ((stamp_Get b7 rr2 S9 rq2 w116 ((H118.pick (B' := [boxR b7 92 (rdCh rr2)]) (I' := [slI S9 encB 1 rr2.bh rr2.b]) [3] (by decide) rfl (List.forall_mem_cons.2 ⟨List.mem_of_getElem? (i := 2) rfl, fun _ h => (nomatch h)⟩)).rdStart) hrr2).ret ?_))
   rintro _ w120 ⟨r119, x125, rfl, hg121, hQ122, hr123, ho126, hx127⟩
   have H124 := H118.rdRow (r := rr2) 3 2 rfl rfl hg121 hQ122 ho126
   refine ⟨hg121, ?_⟩
   refine Lx_c rfl rfl (fun w128 hw129 => ?_)
   have H130 := H124.ext hw129
   refine (C_buildSliceL H130 (enc := opCh) (val := opV) ([x125] : List OpS) Try.underlying23 Try.sizeOf56 Try.zeroValue56 rfl (by decide) (fun _ => rfl) (fun _ => rfl) rfl rfl (by decide) ?_)
   intro b131 w132 hb133 hx134 H135
   refine ⟨GrF.ofExt hx134, ?_⟩
   refine Lx_c rfl rfl (fun w136 hw137 => ?_)
   have H138 := H135.ext hw137
   refine (C_append H138 2 rfl (bytes := 128) (l := oacc) (ys := ([x125] : List OpS)) Try.underlying23 rfl rfl rfl rfl rfl (by decide) rfl rfl (OwnS.sl (H138.getOwn 0 rfl) (fun _ => rfl)) (fun _ => rfl) (fun _ => rfl) (by simp only [List.length_append, List.length_cons, List.length_nil]; omega) (by decide) ?_)
   intro h139 w140 hg141 H142
   refine ⟨Gr.mono (M' := fun _ => True) hg141 (fun _ _ => trivial), ?_⟩
   refine Lx_q rfl rfl _ (fun v143 hv144 => R_fieldAddr (off := 3) (oo := 3) Try.underlying27 rfl rfl Try.sizeOf23 rfl rfl qk) ?_
   refine Lx_cu rfl (fun w145 hw146 => ?_)
   have H147 := H142.ext hw146
   refine (C_store1 H147 4 rfl 3 (v := (slV h139 (oacc ++ ([x125] : List OpS)))) [[(slV hp pacc)], [(.int .i64 (((rdNum rq 1099511627776).1) : Int))], [(.int .i64 (((rdNum ((rdNum rq 1099511627776).2) 65536).1) : Int))], [(slV h139 (oacc ++ ([x125] : List OpS)))], (idCells zeroId), [(.string ByteArray.empty)]] Try.sizeOf23 rfl rfl rfl rfl rfl rfl rfl ?_)
   intro w148 hg149 H150
   refine ⟨Gr.mono (M' := fun _ => True) hg149 (fun _ _ => trivial), ?_⟩
   refine Lx_nil (fun w151 hw152 => ?_)
   have H153 := H150.ext hw152
   refine Blk_n (Then_n (W_reg ?_))
   refine O_v rfl (R_arith (a := (j : Int)) (b := 1) (r0 := (j : Int) + 1) (r := ((j + 1 : Nat) : Int)) rfl rfl rfl (wrapN _ (by omega)) ?_)
   refine O_mv (v := (.int .i64 ((j + 1 : Nat) : Int))) rfl rfl ?_
   refine O_nil (Then_n ?_)
   have H154 := H153.freezeW 1 rfl (fun _ => rfl)
   have H155 := H154.deepSnoc 3 rfl 1 rfl (x125) rfl rfl
   have H156 := H155.deepWSnoc 3 rfl 1 rfl (x125) rfl rfl
   have H157 := H156.sub (List.Sublist.cons _ (List.Sublist.cons_cons _ (List.Sublist.cons_cons _ (List.Sublist.cons_cons _ (List.Sublist.cons_cons _ (List.Sublist.cons_cons _ List.Sublist.slnil)))))) (List.forall_mem_cons.2 ⟨List.mem_of_getElem? (i := 0) rfl, List.forall_mem_cons.2 ⟨List.mem_of_getElem? (i := 1) rfl, List.forall_mem_cons.2 ⟨List.mem_of_getElem? (i := 6) rfl, List.forall_mem_cons.2 ⟨List.mem_of_getElem? (i := 7) rfl, memN⟩⟩⟩⟩)
   refine ⟨_, ?_, (j + 1), (oacc ++ ([x125] : List OpS)), (fun b => S b ∨ (fun z_ => (slV x125.oh x125.over).ownBlock = some z_) b), r119, ((rdOp rq2).2), h139, rfl, (by omega), hm2, (by simp only [List.length_append, List.length_cons, List.length_nil]; omega), (fun b hb => hb.elim (hS b) (H153.newRow 1 rfl b)), hr123, (ops_next hgo2 (by omega) hx127), _, envL_self ⟨rfl, rfl, rfl, rfl, rfl, rfl, trivial⟩, H157⟩
   omega
  ·have hc109 := (of_decide_eq_false hc109)
   refine W_exit (Then_x (Then_x (Blk_x (Then_n (W_seq (W_reg ?_))))))
   refine O_mv (v := (.pointer (some ⟨b7, 0, none⟩))) rfl rfl ?_
   refine O_v rfl (R_callL (vs := [(.pointer (some ⟨b7, 0, none⟩))]) cF23 rfl rfl ((Reader_Id b7 rr2 S9 rq2 w106 ((H108.pick (B' := [boxR b7 92 (rdCh rr2)]) (I' := [slI S9 encB 1 rr2.bh rr2.b]) [3] (by decide) rfl (List.forall_mem_cons.2 ⟨List.mem_of_getElem? (i := 2) rfl, fun _ h => (nomatch h)⟩)).rdStart) hrr2).ret ?_))
   rintro _ w159 ⟨r158, rfl, hg160, hQ161, hr162⟩
   have H163 := H108.rdUpd (r := rr2) 3 2 rfl rfl hg160 hQ161
   refine O_v rfl (R_fieldAddr (off := 4) (oo := 4) Try.underlying27 rfl rfl Try.sizeOf25 rfl rfl ?_)
   refine O_u (C_storeA H163 2 rfl 4 (sub := [(idCells ((rdId rq2).1))]) [[(slV hp pacc)], [(.int .i64 (((rdNum rq 1099511627776).1) : Int))], [(.int .i64 (((rdNum ((rdNum rq 1099511627776).2) 65536).1) : Int))], [(slV ho oacc)], (idCells ((rdId rq2).1)), [(.string ByteArray.empty)]] Try.sizeOf25 rfl rfl rfl rfl ⟨[(idCells zeroId)], [[(.string ByteArray.empty)]], rfl, rfl, rfl⟩ rfl ?_)
   intro w164 hg165 H166
   refine O_nil (Then_n (W_seq (W_reg ?_)))
   refine O_mv (v := (.pointer (some ⟨b7, 0, none⟩))) rfl rfl ?_
   refine O_v rfl (R_callL (vs := [(.pointer (some ⟨b7, 0, none⟩)), (.int .i64 200)]) cF24 rfl rfl ((Reader_Text b7 r158 S9 ((rdId rq2).2) 200 w164 ((H166.pick (B' := [boxR b7 92 (rdCh r158)]) (I' := [slI S9 encB 1 r158.bh r158.b]) [3] (by decide) rfl (List.forall_mem_cons.2 ⟨List.mem_of_getElem? (i := 2) rfl, fun _ h => (nomatch h)⟩)).rdStart) hr162).ret ?_))
   rintro _ w168 ⟨r167, rfl, hg169, hQ170, hr171⟩
   have H172 := H166.rdUpd (r := r158) 3 2 rfl rfl hg169 hQ170
   refine O_v rfl (R_fieldAddr (off := 36) (oo := 36) Try.underlying27 rfl rfl Try.sizeOf9 rfl rfl ?_)
   refine O_u (C_store1 H172 2 rfl 5 (v := (.string ((rdText ((rdId rq2).2) 200).1))) [[(slV hp pacc)], [(.int .i64 (((rdNum rq 1099511627776).1) : Int))], [(.int .i64 (((rdNum ((rdNum rq 1099511627776).2) 65536).1) : Int))], [(slV ho oacc)], (idCells ((rdId rq2).1)), [(.string ((rdText ((rdId rq2).2) 200).1))]] Try.sizeOf9 rfl rfl rfl rfl rfl rfl rfl ?_)
   intro w173 hg174 H175
   refine O_nil (Then_n (W_seq (W_seq ?_)))
   refine W_rgM (fun c => c = b7) (fun i => if i == 1 then 1 else 0) [(0, .q 2), (1, .c 1), (2, .q 2), (3, .q 2), (4, .q 1), (5, .q 0), (6, .q 2), (7, .q 2)] (by kernel_rfl) ?_
   refine Lx_mv (v := (.pointer (some ⟨b7, 0, none⟩))) rfl rfl rfl ?_
   refine Lx_c rfl rfl (fun w178 hw179 => ?_)
   have H180 := H175.ext hw179
   refine (R_callL (vs := [(.pointer (some ⟨b7, 0, none⟩))]) cF25 rfl rfl ((Reader_Done b7 r167 S9 ((rdText ((rdId rq2).2) 200).2) w178 ((H180.pick (B' := [boxR b7 92 (rdCh r167)]) (I' := [slI S9 encB 1 r167.bh r167.b]) [3] (by decide) rfl (List.forall_mem_cons.2 ⟨List.mem_of_getElem? (i := 2) rfl, fun _ h => (nomatch h)⟩)).rdStart) hr171).ret ?_))
   rintro _ w182 ⟨r181, rfl, hg183, hQ184, hr185⟩
   have H186 := H180.rdUpd (r := r167) 3 2 rfl rfl hg183 hQ184
   refine ⟨hg183, ?_⟩
   refine Lx_q rfl rfl _ (fun v187 hv188 => R_not rfl qk) (Lx_mv (v := (.bool (!(rdDone ((rdText ((rdId rq2).2) 200).2))))) rfl rfl rfl (Lx_qf rfl rfl rfl rfl rfl _ (fun hA v191 hv192 => R_loadA (cs := [[(slV hp pacc)], [(.int .i64 (((rdNum rq 1099511627776).1) : Int))], [(.int .i64 (((rdNum ((rdNum rq 1099511627776).2) 65536).1) : Int))], [(slV ho oacc)], (idCells ((rdId rq2).1)), [(.string ((rdText ((rdId rq2).2) 200).1))]]) Try.isAgg27 Try.sizeOf27 rfl rfl ((boxR_at (H186.ownGr 2 3 (by decide) rfl rfl hv192 (fun _ h => congrArg some h.symm))).chunks 0 6 0 0 _ rfl rfl rfl) qk) (Lx_qf rfl rfl rfl rfl rfl (.bool (changeOk ({ parents := pacc, ph := hp, time := (((rdNum rq 1099511627776).1) : Int), r := (((rdNum ((rdNum rq 1099511627776).2) 65536).1) : Int), ops := oacc, oh := ho, tree := (rdId rq2).1, msg := (rdText ((rdId rq2).2) 200).1 } : ChangeS))) (fun hA v193 hv194 => R_callL (vs := [(aggOf [[(slV hp pacc)], [(.int .i64 (((rdNum rq 1099511627776).1) : Int))], [(.int .i64 (((rdNum ((rdNum rq 1099511627776).2) 65536).1) : Int))], [(slV ho oacc)], (idCells ((rdId rq2).1)), [(.string ((rdText ((rdId rq2).2) 200).1))]])]) cF16 rfl (lst1 (gv_t hA)) (obj_rightChange ({ parents := pacc, ph := hp, time := (((rdNum rq 1099511627776).1) : Int), r := (((rdNum ((rdNum rq 1099511627776).2) 65536).1) : Int), ops := oacc, oh := ho, tree := (rdId rq2).1, msg := (rdText ((rdId rq2).2) 200).1 } : ChangeS) v193 ((H186.ext hv194).rowSl 1 rfl (fun _ => rfl)) ((H186.ext hv194).rowSl 0 rfl (fun _ => rfl)) ((H186.ext hv194).deepOld 1 rfl))) ?_)))
   refine Lx_qf rfl rfl rfl rfl rfl _ (fun hA v195 hv196 => R_not (gv_t hA) qk) (Lx_q rfl rfl _ (fun v197 hv198 => R_pick rfl pk_or qk) ?_)
   refine Lx_nil (fun w199 hw200 => ?_)
   have H201 := H186.ext hw200
   refine Then_n ?_
   refine W_cond rfl (fun hc202 => ?_) (fun hc202 => ?_)
   ·have hc202 : ((rdDone ((rdText ((rdId rq2).2) 200).2)) = false ∨ (changeOk ({ parents := pacc, ph := hp, time := (((rdNum rq 1099511627776).1) : Int), r := (((rdNum ((rdNum rq 1099511627776).2) 65536).1) : Int), ops := oacc, oh := ho, tree := (rdId rq2).1, msg := (rdText ((rdId rq2).2) 200).1 } : ChangeS)) = false) := (Or.imp (fun h => (notT h)) (fun h => (notT h)) (orT hc202))
    refine W_seq (W_reg ?_)
    refine O_v rfl (R_buildL (vs := []) (v := aggOf [[(.slice none 0 0)], [(.int .i64 0)], [(.int .i64 0)], [(.slice none 0 0)], (idCells zeroId), [(.string ByteArray.empty)]]) rfl (fun _ => by kernel_rfl) ?_)
    refine O_u (C_storeW H201 4 rfl (sub := [[(.slice none 0 0)], [(.int .i64 0)], [(.int .i64 0)], [(.slice none 0 0)], (idCells zeroId), [(.string ByteArray.empty)]]) Try.sizeOf27 rfl rfl rfl rfl rfl ?_)
    intro w203 hg204 H205
    refine O_as (v := (.int .i64 20)) rfl rfl ?_
    refine O_nil (Then_n (W_ret (Then_r ?_)))
    refine ret_ct (v := (.int .i64 20)) Try.results13 (inMem (cs := [[(.slice none 0 0)], [(.int .i64 0)], [(.int .i64 0)], [(.slice none 0 0)], (idCells zeroId), [(.string ByteArray.empty)]]) rfl Try.isAgg27 Try.sizeOf27 rfl (boxR_at (H205.getOwn 4 rfl))) rfl ?_
    have H206 := H205.addNil 25 32 idCh
    have H207 := H206.addNil 56 41 opCh
    have H208 := H207.deepNil stampCh 2 (fun x : OpS => x.oh) (fun x : OpS => x.over)
    have H209 := H208.deepWNil 46 2 (fun x : OpS => x.oh) (fun x : OpS => x.over.length)
    exact ⟨({ parents := [], ph := nilH, time := 0, r := 0, ops := [], oh := nilH, tree := zeroId, msg := ByteArray.empty } : ChangeS), nob, 20, rfl, H209.gr, H209.retRow 1 rfl, H209.retRow 0 rfl, H209.apart2 (by decide) (i := 1) (j := 0) rfl rfl, H209.retDeepC 1 0 rfl rfl 1 rfl (fun _ h => h.elim), H209.getImm 1 rfl, H209.getImm 0 rfl, (change_no hc202 (change_rd (ids_end hgo (by omega)) (ops_end hgo2 (by omega))))⟩
   ·have hc202 : ((rdDone ((rdText ((rdId rq2).2) 200).2)) = true ∧ (changeOk ({ parents := pacc, ph := hp, time := (((rdNum rq 1099511627776).1) : Int), r := (((rdNum ((rdNum rq 1099511627776).2) 65536).1) : Int), ops := oacc, oh := ho, tree := (rdId rq2).1, msg := (rdText ((rdId rq2).2) 200).1 } : ChangeS)) = true) := (And.imp (fun h => (notF h)) (fun h => (notF h)) (orF hc202))
    refine W_skip (Then_n (W_seq (W_reg ?_)))
    refine O_v rfl (R_loadA (cs := [[(slV hp pacc)], [(.int .i64 (((rdNum rq 1099511627776).1) : Int))], [(.int .i64 (((rdNum ((rdNum rq 1099511627776).2) 65536).1) : Int))], [(slV ho oacc)], (idCells ((rdId rq2).1)), [(.string ((rdText ((rdId rq2).2) 200).1))]]) Try.isAgg27 Try.sizeOf27 rfl rfl (H201.bx 2 rfl 0 6 0 0 _ rfl rfl rfl) ?_)
    refine O_u (C_storeW H201 4 rfl (sub := [[(slV hp pacc)], [(.int .i64 (((rdNum rq 1099511627776).1) : Int))], [(.int .i64 (((rdNum ((rdNum rq 1099511627776).2) 65536).1) : Int))], [(slV ho oacc)], (idCells ((rdId rq2).1)), [(.string ((rdText ((rdId rq2).2) 200).1))]]) Try.sizeOf27 rfl rfl rfl rfl rfl ?_)
    intro w210 hg211 H212
    refine O_as (v := (.int .i64 0)) rfl rfl ?_
    refine O_nil (Then_n (W_ret ?_))
    refine ret_ct (v := (.int .i64 0)) Try.results13 (inMem (cs := [[(slV hp pacc)], [(.int .i64 (((rdNum rq 1099511627776).1) : Int))], [(.int .i64 (((rdNum ((rdNum rq 1099511627776).2) 65536).1) : Int))], [(slV ho oacc)], (idCells ((rdId rq2).1)), [(.string ((rdText ((rdId rq2).2) 200).1))]]) rfl Try.isAgg27 Try.sizeOf27 rfl (boxR_at (H212.getOwn 4 rfl))) rfl ?_
    exact ⟨({ parents := pacc, ph := hp, time := (((rdNum rq 1099511627776).1) : Int), r := (((rdNum ((rdNum rq 1099511627776).2) 65536).1) : Int), ops := oacc, oh := ho, tree := (rdId rq2).1, msg := (rdText ((rdId rq2).2) 200).1 } : ChangeS), S, 0, rfl, H212.gr, H212.retRow 1 rfl, H212.retRow 0 rfl, H212.apart2 (by decide) (i := 1) (j := 0) rfl rfl, H212.retDeepC 1 0 rfl rfl 1 rfl hS, H212.getImm 1 rfl, H212.getImm 0 rfl, (change_yes hc202 (change_rd (ids_end hgo (by omega)) (ops_end hgo2 (by omega))))⟩
end Go.Proofs.Ythjdhfoeckfmbaa
namespace Go.Proofs.Ythjdhfoeckfmbaa
open Go
set_option maxRecDepth 100000
set_option linter.unusedVariables false
set_option linter.unusedSimpArgs false
set_option linter.unusedSectionVars false
variable [DD]
set_option maxHeartbeats 1000000 in
theorem obj_getAt (br : Nat) (r : RdS) (Sr : Nat → Prop) (q : List UInt8 × Bool) (w : World) (Qr : RdQ 92 br Sr r w) (Er : r.st = q) :
    Calls Try.prog 53 #[(.pointer (some ⟨br, 0, none⟩))] w (Ret fun v w' => ∃ (r' : RdS), v = (aggOf (stampCh ((rdAt q).1))) ∧ Gr (fun c => c = br) w w' ∧ RdQ 92 br Sr r' w' ∧ r'.st = (rdAt q).2) := by
 refine calls_W Try.func53 rfl Try.ntmps53 rfl ?_
 have H0 := Qr
 refine W_seq (W_reg ?_)
 refine O_v rfl (C_alloc H0 [[(.int .i64 0)], [(.int .i64 0)]] Try.zeroValue46 ?_)
 intro b1 w2 hb3 hx4 H5
 refine O_nil (Then_n (W_seq (W_reg ?_)))
 refine O_mv (v := (.pointer (some ⟨br, 0, none⟩))) rfl rfl ?_
 refine O_v rfl (R_callL (vs := [(.pointer (some ⟨br, 0, none⟩)), (.int .i64 1099511627776)]) cF26 rfl rfl ((Reader_Num br r Sr q 1099511627776 w2 ((H5.pick (B' := [boxR br 92 (rdCh r)]) (I' := [slI Sr encB 1 r.bh r.b]) [1] (by decide) rfl (List.forall_mem_cons.2 ⟨List.mem_of_getElem? (i := 0) rfl, fun _ h => (nomatch h)⟩)).rdStart) Er).ret ?_))
 rintro _ w7 ⟨r6, rfl, hg8, hQ9, hr10⟩
 have H11 := H5.rdUpd (r := r) 1 0 rfl rfl hg8 hQ9
 refine O_as (v := (.int .i64 (((rdNum q 1099511627776).1) : Int))) rfl rfl ?_
 refine O_nil (Then_n (W_seq (W_reg ?_)))
 refine O_mv (v := (.int .i64 (((rdNum q 1099511627776).1) : Int))) rfl rfl (O_mv (v := (.pointer (some ⟨br, 0, none⟩))) rfl rfl ?_)
 refine O_v rfl (R_callL (vs := [(.pointer (some ⟨br, 0, none⟩)), (.int .i64 65536)]) cF26 rfl rfl ((Reader_Num br r6 Sr ((rdNum q 1099511627776).2) 65536 w7 ((H11.pick (B' := [boxR br 92 (rdCh r6)]) (I' := [slI Sr encB 1 r6.bh r6.b]) [1] (by decide) rfl (List.forall_mem_cons.2 ⟨List.mem_of_getElem? (i := 0) rfl, fun _ h => (nomatch h)⟩)).rdStart) hr10).ret ?_))
 rintro _ w13 ⟨r12, rfl, hg14, hQ15, hr16⟩
 have H17 := H11.rdUpd (r := r6) 1 0 rfl rfl hg14 hQ15
 refine O_v rfl (R_buildL (vs := [(0, (.int .i64 (((rdNum q 1099511627776).1) : Int))), (1, (.int .i64 (((rdNum ((rdNum q 1099511627776).2) 65536).1) : Int)))]) (v := aggOf [[(.int .i64 (((rdNum q 1099511627776).1) : Int))], [(.int .i64 (((rdNum ((rdNum q 1099511627776).2) 65536).1) : Int))]]) rfl (fun _ => by kernel_rfl) ?_)
 refine O_u (C_storeW H17 0 rfl (sub := [[(.int .i64 (((rdNum q 1099511627776).1) : Int))], [(.int .i64 (((rdNum ((rdNum q 1099511627776).2) 65536).1) : Int))]]) Try.sizeOf46 rfl rfl rfl rfl rfl ?_)
 intro w18 hg19 H20
 refine O_nil (Then_n (W_ret ?_))
 refine ret_c Try.results53 (inMem (cs := [[(.int .i64 (((rdNum q 1099511627776).1) : Int))], [(.int .i64 (((rdNum ((rdNum q 1099511627776).2) 65536).1) : Int))]]) rfl Try.isAgg46 Try.sizeOf46 rfl (boxR_at (H20.getOwn 0 rfl))) ?_
 have HQ := ((H20.pick (B' := [boxR br 92 (rdCh r12)]) (I' := [slI Sr encB 1 r12.bh r12.b]) [1] (by decide) rfl (List.forall_mem_cons.2 ⟨List.mem_of_getElem? (i := 0) rfl, fun _ h => (nomatch h)⟩)).rdStart)
 exact ⟨r12, rfl, H20.gr, HQ, (hr16)⟩
theorem cF53 : callable Try.prog 53 = true := by kernel_rfl
set_option maxHeartbeats 2000000 in
theorem obj_getItem (br : Nat) (r : RdS) (Sr : Nat → Prop) (q : List UInt8 × Bool) (w : World) (Qr : RdQ 92 br Sr r w) (Er : r.st = q) :
    Calls Try.prog 27 #[(.pointer (some ⟨br, 0, none⟩))] w (Ret fun v w' => ∃ (r' : RdS) (X : ItemS), v = itemV X ∧ Gr (fun c => c = br) w w' ∧ RdQ 92 br Sr r' w' ∧ r'.st = (rdItem q).2 ∧ OwnS w.heap.size 51 34 headCh X.hh X.heads w' ∧ (X.core = (rdItem q).1)) := by
 refine calls_W Try.func27 rfl Try.ntmps27 rfl ?_
 have H0 := Qr
 refine W_seq (W_reg ?_)
 refine O_v rfl (C_alloc H0 [[(.int .i64 0)], [(.int .i64 0)], [(.int .i64 0)], [(.int .i64 0)], [(.string ByteArray.empty)], (idCells zeroId), [(.slice none 0 0)]] Try.zeroValue49 ?_)
 intro b1 w2 hb3 hx4 H5
 refine O_nil (Then_n (W_seq (W_reg ?_)))
 refine O_mv (v := (.pointer (some ⟨br, 0, none⟩))) rfl rfl ?_
 refine O_v rfl (R_callL (vs := [(.pointer (some ⟨br, 0, none⟩))]) cF53 rfl rfl ((obj_getAt br r Sr q w2 ((H5.pick (B' := [boxR br 92 (rdCh r)]) (I' := [slI Sr encB 1 r.bh r.b]) [1] (by decide) rfl (List.forall_mem_cons.2 ⟨List.mem_of_getElem? (i := 0) rfl, fun _ h => (nomatch h)⟩)).rdStart) Er).ret ?_))
 rintro _ w7 ⟨r6, rfl, hg8, hQ9, hr10⟩
 have H11 := H5.rdUpd (r := r) 1 0 rfl rfl hg8 hQ9
 refine O_v rfl (R_buildL (vs := [(0, (aggOf (stampCh ((rdAt q).1))))]) (v := aggOf [[(.int .i64 (((rdAt q).1).T))], [(.int .i64 (((rdAt q).1).R))], [(.int .i64 0)], [(.int .i64 0)], [(.string ByteArray.empty)], (idCells zeroId), [(.slice none 0 0)]]) rfl (fun _ => by kernel_rfl) ?_)
 refine O_v rfl (C_alloc H11 [[(.int .i64 0)], [(.int .i64 0)], [(.int .i64 0)], [(.int .i64 0)], [(.string ByteArray.empty)], (idCells zeroId), [(.slice none 0 0)]] Try.zeroValue49 ?_)
 intro b12 w13 hb14 hx15 H16
 refine O_u (C_storeW H16 0 rfl (sub := [[(.int .i64 (((rdAt q).1).T))], [(.int .i64 (((rdAt q).1).R))], [(.int .i64 0)], [(.int .i64 0)], [(.string ByteArray.empty)], (idCells zeroId), [(.slice none 0 0)]]) Try.sizeOf49 rfl rfl rfl rfl rfl ?_)
 intro w17 hg18 H19
 refine O_nil (Then_n (W_seq (W_reg ?_)))
 refine O_mv (v := (.pointer (some ⟨br, 0, none⟩))) rfl rfl ?_
 refine O_v rfl (R_callL (vs := [(.pointer (some ⟨br, 0, none⟩))]) cF53 rfl rfl ((obj_getAt br r6 Sr ((rdAt q).2) w17 ((H19.pick (B' := [boxR br 92 (rdCh r6)]) (I' := [slI Sr encB 1 r6.bh r6.b]) [2] (by decide) rfl (List.forall_mem_cons.2 ⟨List.mem_of_getElem? (i := 0) rfl, fun _ h => (nomatch h)⟩)).rdStart) hr10).ret ?_))
 rintro _ w21 ⟨r20, rfl, hg22, hQ23, hr24⟩
 have H25 := H19.rdUpd (r := r6) 2 0 rfl rfl hg22 hQ23
 refine O_v rfl (R_fieldAddr (off := 2) (oo := 2) Try.underlying49 rfl rfl Try.sizeOf46 rfl rfl ?_)
 refine O_u (C_storeA H25 0 rfl 2 (sub := [[(.int .i64 (((rdAt ((rdAt q).2)).1).T))], [(.int .i64 (((rdAt ((rdAt q).2)).1).R))]]) [[(.int .i64 (((rdAt q).1).T))], [(.int .i64 (((rdAt q).1).R))], [(.int .i64 (((rdAt ((rdAt q).2)).1).T))], [(.int .i64 (((rdAt ((rdAt q).2)).1).R))], [(.string ByteArray.empty)], (idCells zeroId), [(.slice none 0 0)]] Try.sizeOf46 rfl rfl rfl rfl ⟨[[(.int .i64 0)], [(.int .i64 0)]], [[(.string ByteArray.empty)], (idCells zeroId), [(.slice none 0 0)]], rfl, rfl, rfl⟩ rfl ?_)
 intro w26 hg27 H28
 refine O_nil (Then_n (W_seq (W_reg ?_)))
 refine O_mv (v := (.pointer (some ⟨br, 0, none⟩))) rfl rfl ?_
 refine O_v rfl (R_callL (vs := [(.pointer (some ⟨br, 0, none⟩)), (.int .i64 60)]) cF24 rfl rfl ((Reader_Text br r20 Sr ((rdAt ((rdAt q).2)).2) 60 w26 ((H28.pick (B' := [boxR br 92 (rdCh r20)]) (I' := [slI Sr encB 1 r20.bh r20.b]) [2] (by decide) rfl (List.forall_mem_cons.2 ⟨List.mem_of_getElem? (i := 0) rfl, fun _ h => (nomatch h)⟩)).rdStart) hr24).ret ?_))
 rintro _ w30 ⟨r29, rfl, hg31, hQ32, hr33⟩
 have H34 := H28.rdUpd (r := r20) 2 0 rfl rfl hg31 hQ32
 refine O_v rfl (R_fieldAddr (off := 4) (oo := 4) Try.underlying49 rfl rfl Try.sizeOf9 rfl rfl ?_)
 refine O_u (C_store1 H34 0 rfl 4 (v := (.string ((rdText ((rdAt ((rdAt q).2)).2) 60).1))) [[(.int .i64 (((rdAt q).1).T))], [(.int .i64 (((rdAt q).1).R))], [(.int .i64 (((rdAt ((rdAt q).2)).1).T))], [(.int .i64 (((rdAt ((rdAt q).2)).1).R))], [(.string ((rdText ((rdAt ((rdAt q).2)).2) 60).1))], (idCells zeroId), [(.slice none 0 0)]] Try.sizeOf9 rfl rfl rfl rfl rfl rfl rfl ?_)
 intro w35 hg36 H37
 refine O_nil (Then_n (W_seq (W_reg ?_)))
 refine O_mv (v := (.pointer (some ⟨br, 0, none⟩))) rfl rfl ?_
 refine O_v rfl (R_callL (vs := [(.pointer (some ⟨br, 0, none⟩))]) cF23 rfl rfl ((Reader_Id br r29 Sr ((rdText ((rdAt ((rdAt q).2)).2) 60).2) w35 ((H37.pick (B' := [boxR br 92 (rdCh r29)]) (I' := [slI Sr encB 1 r29.bh r29.b]) [2] (by decide) rfl (List.forall_mem_cons.2 ⟨List.mem_of_getElem? (i := 0) rfl, fun _ h => (nomatch h)⟩)).rdStart) hr33).ret ?_))
 rintro _ w39 ⟨r38, rfl, hg40, hQ41, hr42⟩
 have H43 := H37.rdUpd (r := r29) 2 0 rfl rfl hg40 hQ41
 refine O_v rfl (R_fieldAddr (off := 5) (oo := 5) Try.underlying49 rfl rfl Try.sizeOf25 rfl rfl ?_)
 refine O_u (C_storeA H43 0 rfl 5 (sub := [(idCells ((rdId ((rdText ((rdAt ((rdAt q).2)).2) 60).2)).1))]) [[(.int .i64 (((rdAt q).1).T))], [(.int .i64 (((rdAt q).1).R))], [(.int .i64 (((rdAt ((rdAt q).2)).1).T))], [(.int .i64 (((rdAt ((rdAt q).2)).1).R))], [(.string ((rdText ((rdAt ((rdAt q).2)).2) 60).1))], (idCells ((rdId ((rdText ((rdAt ((rdAt q).2)).2) 60).2)).1)), [(.slice none 0 0)]] Try.sizeOf25 rfl rfl rfl rfl ⟨[(idCells zeroId)], [[(.slice none 0 0)]], rfl, rfl, rfl⟩ rfl ?_)
 intro w44 hg45 H46
 refine O_nil (Then_n (W_seq (W_seq (W_reg ?_))))
 refine O_mv (v := (.pointer (some ⟨br, 0, none⟩))) rfl rfl ?_
 refine O_v rfl (R_callL (vs := [(.pointer (some ⟨br, 0, none⟩)), (.int .i64 1000)]) cF26 rfl rfl ((Reader_Num br r38 Sr ((rdId ((rdText ((rdAt ((rdAt q).2)).2) 60).2)).2) 1000 w44 ((H46.pick (B' := [boxR br 92 (rdCh r38)]) (I' := [slI Sr encB 1 r38.bh r38.b]) [2] (by decide) rfl (List.forall_mem_cons.2 ⟨List.mem_of_getElem? (i := 0) rfl, fun _ h => (nomatch h)⟩)).rdStart) hr42).ret ?_))
 rintro _ w48 ⟨r47, rfl, hg49, hQ50, hr51⟩
 have H52 := H46.rdUpd (r := r38) 2 0 rfl rfl hg49 hQ50
 refine O_mv (v := (.int .i64 0)) rfl rfl ?_
 refine O_nil (Then_n (W_block ?_))
 have H53 := H52.addNil 51 34 headCh
 refine W_loop (fun m54 e55 w56 => ∃ (k : Nat), ∃ (acc : List Head), ∃ (rr : RdS), ∃ (rq : List UInt8 × Bool), ∃ (ho : SlH), m54 = (rdNum (rdId (rdText (rdAt (rdAt q).2).2 60).2).2 1000).1 - k ∧ (k ≤ (rdNum (rdId (rdText (rdAt (rdAt q).2).2 60).2).2 1000).1) ∧ ((rdNum (rdId (rdText (rdAt (rdAt q).2).2 60).2).2 1000).1 ≤ 1000) ∧ (acc.length ≤ k) ∧ (rr.st = rq) ∧ (rdHeads ((rdNum (rdId (rdText (rdAt (rdAt q).2).2 60).2).2 1000).1 - k) acc rq = rdHeads (rdNum (rdId (rdText (rdAt (rdAt q).2).2 60).2).2 1000).1 [] (rdNum (rdId (rdText (rdAt (rdAt q).2).2 60).2).2 1000).2) ∧ ∃ eb57, e55 = envL [(0, (.pointer (some ⟨br, 0, none⟩))), (2, (.pointer (some ⟨b1, 0, none⟩))), (3, (.pointer (some ⟨b12, 0, none⟩))), (18, (.int .i64 (((rdNum ((rdId ((rdText ((rdAt ((rdAt q).2)).2) 60).2)).2) 1000).1) : Int))), (19, (.int .i64 (k : Int)))] eb57 ∧ Ctx w (fun c => c = br) w56 [rowR 51 34 headCh ho acc, boxR b12 49 [[(.int .i64 (((rdAt q).1).T))], [(.int .i64 (((rdAt q).1).R))], [(.int .i64 (((rdAt ((rdAt q).2)).1).T))], [(.int .i64 (((rdAt ((rdAt q).2)).1).R))], [(.string ((rdText ((rdAt ((rdAt q).2)).2) 60).1))], (idCells ((rdId ((rdText ((rdAt ((rdAt q).2)).2) 60).2)).1)), [(slV ho acc)]], boxR b1 49 [[(.int .i64 0)], [(.int .i64 0)], [(.int .i64 0)], [(.int .i64 0)], [(.string ByteArray.empty)], (idCells zeroId), [(.slice none 0 0)]], boxR br 92 [[(slV rr.bh rr.b)], [(.bool rr.bad)]]] [slI Sr encB 1 rr.bh rr.b]) _ ⟨0, [], r47, ((rdNum (rdId (rdText (rdAt (rdAt q).2).2 60).2).2 1000).2), nilH, rfl, (by omega), (rdNum_le _ (by decide)), (by simp), hr51, rfl, _, envL_self ⟨rfl, rfl, rfl, rfl, rfl, trivial⟩, H53⟩ ?_
 rintro m54 _ w56 ⟨k, acc, rr, rq, ho, rfl, hk, hm, hal, hrr, hgo, eb57, rfl, H58⟩
 refine W_seq (W_reg ?_)
 refine O_v rfl (R_cmp (a := (k : Int)) (b := (((rdNum ((rdId ((rdText ((rdAt ((rdAt q).2)).2) 60).2)).2) 1000).1) : Int)) (r := (decide ((k : Int) < (((rdNum ((rdId ((rdText ((rdAt ((rdAt q).2)).2) 60).2)).2) 1000).1) : Int)))) rfl rfl rfl ?_)
 refine O_nil (Then_n (W_seq ?_))
 refine W_cond rfl (fun hc59 => ?_) (fun hc59 => ?_)
 ·have hc59 := (of_decide_eq_true hc59)
  refine W_skip (Then_n (W_seq (W_block (W_seq (W_reg ?_)))))
  refine O_mv (v := (.pointer (some ⟨br, 0, none⟩))) rfl rfl ?_
  refine O_v rfl (R_callL (vs := [(.pointer (some ⟨br, 0, none⟩))]) cF53 rfl rfl ((obj_getAt br rr Sr rq w56 ((H58.pick (B' := [boxR br 92 (rdCh rr)]) (I' := [slI Sr encB 1 rr.bh rr.b]) [3] (by decide) rfl (List.forall_mem_cons.2 ⟨List.mem_of_getElem? (i := 0) rfl, fun _ h => (nomatch h)⟩)).rdStart) hrr).ret ?_))
  rintro _ w61 ⟨r60, rfl, hg62, hQ63, hr64⟩
  have H65 := H58.rdUpd (r := rr) 3 0 rfl rfl hg62 hQ63
  refine O_v rfl (R_buildL (vs := [(0, (aggOf (stampCh ((rdAt rq).1))))]) (v := aggOf [[(.int .i64 (((rdAt rq).1).T))], [(.int .i64 (((rdAt rq).1).R))], (idCells zeroId)]) rfl (fun _ => by kernel_rfl) ?_)
  refine O_v rfl (C_alloc H65 [[(.int .i64 0)], [(.int .i64 0)], (idCells zeroId)] Try.zeroValue51 ?_)
  intro b66 w67 hb68 hx69 H70
  refine O_u (C_storeW H70 0 rfl (sub := [[(.int .i64 (((rdAt rq).1).T))], [(.int .i64 (((rdAt rq).1).R))], (idCells zeroId)]) Try.sizeOf51 rfl rfl rfl rfl rfl ?_)
  intro w71 hg72 H73
  refine O_nil (Then_n (W_seq (W_reg ?_)))
  refine O_mv (v := (.pointer (some ⟨br, 0, none⟩))) rfl rfl ?_
  refine O_v rfl (R_callL (vs := [(.pointer (some ⟨br, 0, none⟩))]) cF23 rfl rfl ((Reader_Id br r60 Sr ((rdAt rq).2) w71 ((H73.pick (B' := [boxR br 92 (rdCh r60)]) (I' := [slI Sr encB 1 r60.bh r60.b]) [4] (by decide) rfl (List.forall_mem_cons.2 ⟨List.mem_of_getElem? (i := 0) rfl, fun _ h => (nomatch h)⟩)).rdStart) hr64).ret ?_))
  rintro _ w75 ⟨r74, rfl, hg76, hQ77, hr78⟩
  have H79 := H73.rdUpd (r := r60) 4 0 rfl rfl hg76 hQ77
  refine O_v rfl (R_fieldAddr (off := 2) (oo := 2) Try.underlying51 rfl rfl Try.sizeOf25 rfl rfl ?_)
  refine O_u (C_storeA H79 0 rfl 2 (sub := [(idCells ((rdId ((rdAt rq).2)).1))]) [[(.int .i64 (((rdAt rq).1).T))], [(.int .i64 (((rdAt rq).1).R))], (idCells ((rdId ((rdAt rq).2)).1))] Try.sizeOf25 rfl rfl rfl rfl ⟨[(idCells zeroId)], [], rfl, rfl, rfl⟩ rfl ?_)
  intro w80 hg81 H82
  refine O_nil (Then_n (W_seq (W_reg ?_)))
  refine O_v rfl (R_fieldAddr (off := 37) (oo := 37) Try.underlying49 rfl rfl Try.sizeOf47 rfl rfl ?_)
  refine O_v rfl (R_load1 (v := (slV ho acc)) Try.isAgg47 rfl (H82.bx 2 rfl 6 1 37 37 _ rfl rfl rfl) ?_)
  refine O_v rfl (R_loadA (cs := [[(.int .i64 (((rdAt rq).1).T))], [(.int .i64 (((rdAt rq).1).R))], (idCells ((rdId ((rdAt rq).2)).1))]) Try.isAgg51 Try.sizeOf51 rfl rfl (H82.bx 0 rfl 0 3 0 0 _ rfl rfl rfl) ?_)
  refine O_v rfl (C_buildSliceL H82 (enc := headCh) (val := headV) ([({ tm := ((rdAt rq).1), data := (rdId ((rdAt rq).2)).1 } : Head)] : List Head) Try.underlying47 Try.sizeOf51 Try.zeroValue51 rfl (by decide) (fun _ => rfl) (fun _ => rfl) rfl rfl (by decide) ?_)
  intro b83 w84 hb85 hx86 H87
  refine O_v rfl (C_append H87 2 rfl (bytes := 48) (l := acc) (ys := ([({ tm := ((rdAt rq).1), data := (rdId ((rdAt rq).2)).1 } : Head)] : List Head)) Try.underlying47 rfl rfl rfl rfl rfl (by decide) rfl rfl (OwnS.sl (H87.getOwn 0 rfl) (fun _ => rfl)) (fun _ => rfl) (fun _ => rfl) (by simp only [List.length_append, List.length_cons, List.length_nil]; omega) (by decide) ?_)
  intro h88 w89 hg90 H91
  refine O_v rfl (R_fieldAddr (off := 37) (oo := 37) Try.underlying49 rfl rfl Try.sizeOf47 rfl rfl ?_)
  refine O_u (C_store1 H91 3 rfl 6 (v := (slV h88 (acc ++ ([({ tm := ((rdAt rq).1), data := (rdId ((rdAt rq).2)).1 } : Head)] : List Head)))) [[(.int .i64 (((rdAt q).1).T))], [(.int .i64 (((rdAt q).1).R))], [(.int .i64 (((rdAt ((rdAt q).2)).1).T))], [(.int .i64 (((rdAt ((rdAt q).2)).1).R))], [(.string ((rdText ((rdAt ((rdAt q).2)).2) 60).1))], (idCells ((rdId ((rdText ((rdAt ((rdAt q).2)).2) 60).2)).1)), [(slV h88 (acc ++ ([({ tm := ((rdAt rq).1), data := (rdId ((rdAt rq).2)).1 } : Head)] : List Head)))]] Try.sizeOf47 rfl rfl rfl rfl rfl rfl rfl ?_)
  intro w92 hg93 H94
  refine O_nil (Then_n (W_seq (W_reg ?_)))
  refine O_mv (v := (.pointer (some ⟨br, 0, none⟩))) rfl rfl ?_
  refine O_v rfl (R_callL (vs := [(.pointer (some ⟨br, 0, none⟩))]) cF28 rfl rfl ((Reader_Good br r74 Sr ((rdId ((rdAt rq).2)).2) w92 ((H94.pick (B' := [boxR br 92 (rdCh r74)]) (I' := [slI Sr encB 1 r74.bh r74.b]) [5] (by decide) rfl (List.forall_mem_cons.2 ⟨List.mem_of_getElem? (i := 0) rfl, fun _ h => (nomatch h)⟩)).rdStart) hr78).ret ?_))
  rintro _ w96 ⟨r95, rfl, hg97, hQ98, hr99⟩
  have H100 := H94.rdUpd (r := r74) 5 0 rfl rfl hg97 hQ98
  refine O_v rfl (R_not rfl ?_)
  refine O_nil (Then_n ?_)
  refine W_cond rfl (fun hc101 => ?_) (fun hc101 => ?_)
  ·have hc101 : (((rdId ((rdAt rq).2)).2).2) = true := (notF (notT hc101))
   refine W_exit ?_
   refine Blk_o rfl ?_
   refine Then_x (Then_x (Blk_x (Then_n (W_seq (W_reg ?_)))))
   refine O_v rfl (R_loadA (cs := [[(.int .i64 (((rdAt q).1).T))], [(.int .i64 (((rdAt q).1).R))], [(.int .i64 (((rdAt ((rdAt q).2)).1).T))], [(.int .i64 (((rdAt ((rdAt q).2)).1).R))], [(.string ((rdText ((rdAt ((rdAt q).2)).2) 60).1))], (idCells ((rdId ((rdText ((rdAt ((rdAt q).2)).2) 60).2)).1)), [(slV h88 (acc ++ ([({ tm := ((rdAt rq).1), data := (rdId ((rdAt rq).2)).1 } : Head)] : List Head)))]]) Try.isAgg49 Try.sizeOf49 rfl rfl (H100.bx 3 rfl 0 7 0 0 _ rfl rfl rfl) ?_)
   refine O_u (C_storeW H100 4 rfl (sub := [[(.int .i64 (((rdAt q).1).T))], [(.int .i64 (((rdAt q).1).R))], [(.int .i64 (((rdAt ((rdAt q).2)).1).T))], [(.int .i64 (((rdAt ((rdAt q).2)).1).R))], [(.string ((rdText ((rdAt ((rdAt q).2)).2) 60).1))], (idCells ((rdId ((rdText ((rdAt ((rdAt q).2)).2) 60).2)).1)), [(slV h88 (acc ++ ([({ tm := ((rdAt rq).1), data := (rdId ((rdAt rq).2)).1 } : Head)] : List Head)))]]) Try.sizeOf49 rfl rfl rfl rfl rfl ?_)
   intro w102 hg103 H104
   refine O_nil (Then_n (W_ret ?_))
   refine ret_c Try.results27 (inMem (cs := [[(.int .i64 (((rdAt q).1).T))], [(.int .i64 (((rdAt q).1).R))], [(.int .i64 (((rdAt ((rdAt q).2)).1).T))], [(.int .i64 (((rdAt ((rdAt q).2)).1).R))], [(.string ((rdText ((rdAt ((rdAt q).2)).2) 60).1))], (idCells ((rdId ((rdText ((rdAt ((rdAt q).2)).2) 60).2)).1)), [(slV h88 (acc ++ ([({ tm := ((rdAt rq).1), data := (rdId ((rdAt rq).2)).1 } : Head)] : List Head)))]]) rfl Try.isAgg49 Try.sizeOf49 rfl (boxR_at (H104.getOwn 4 rfl))) ?_
   have HQ := ((H104.pick (B' := [boxR br 92 (rdCh r95)]) (I' := [slI Sr encB 1 r95.bh r95.b]) [5] (by decide) rfl (List.forall_mem_cons.2 ⟨List.mem_of_getElem? (i := 0) rfl, fun _ h => (nomatch h)⟩)).rdStart)
   exact ⟨r95, ({ node := ((rdAt q).1), tm := ((rdAt ((rdAt q).2)).1), name := (rdText ((rdAt ((rdAt q).2)).2) 60).1, sub := (rdId ((rdText ((rdAt ((rdAt q).2)).2) 60).2)).1, heads := acc ++ ([({ tm := ((rdAt rq).1), data := (rdId ((rdAt rq).2)).1 } : Head)] : List Head), hh := h88 } : ItemS), rfl, H104.gr, HQ, (hr99.trans (congrArg Prod.snd (heads_brk hgo (by omega) hc101))), H104.retRowM 5 2 (by decide) rfl rfl, (congrArg (ItemC.mk _ _ _ _) (congrArg Prod.fst (heads_brk hgo (by omega) hc101)))⟩
  ·have hc101 : (((rdId ((rdAt rq).2)).2).2) = false := (notT (notF hc101))
   refine W_skip (Blk_n (Then_n (W_reg ?_)))
   refine O_v rfl (R_arith (a := (k : Int)) (b := 1) (r0 := (k : Int) + 1) (r := ((k + 1 : Nat) : Int)) rfl rfl rfl (wrapN _ (by omega)) ?_)
   refine O_mv (v := (.int .i64 ((k + 1 : Nat) : Int))) rfl rfl ?_
   refine O_nil (Then_n ?_)
   have H105 := H100.sub (List.Sublist.cons _ (List.Sublist.cons _ (List.Sublist.cons_cons _ (List.Sublist.cons_cons _ (List.Sublist.cons_cons _ (List.Sublist.cons_cons _ List.Sublist.slnil)))))) (List.forall_mem_cons.2 ⟨List.mem_of_getElem? (i := 0) rfl, memN⟩)
   refine ⟨_, ?_, (k + 1), (acc ++ ([({ tm := ((rdAt rq).1), data := (rdId ((rdAt rq).2)).1 } : Head)] : List Head)), r95, ((rdHead rq).2), h88, rfl, (by omega), hm, (by simp only [List.length_append, List.length_cons, List.length_nil]; omega), hr99, (heads_next hgo (by omega) hc101), _, envL_self ⟨rfl, rfl, rfl, rfl, rfl, trivial⟩, H105⟩
   omega
 ·have hc59 := (of_decide_eq_false hc59)
  refine W_exit (Then_x (Then_x (Blk_x (Then_n (W_seq (W_reg ?_))))))
  refine O_v rfl (R_loadA (cs := [[(.int .i64 (((rdAt q).1).T))], [(.int .i64 (((rdAt q).1).R))], [(.int .i64 (((rdAt ((rdAt q).2)).1).T))], [(.int .i64 (((rdAt ((rdAt q).2)).1).R))], [(.string ((rdText ((rdAt ((rdAt q).2)).2) 60).1))], (idCells ((rdId ((rdText ((rdAt ((rdAt q).2)).2) 60).2)).1)), [(slV ho acc)]]) Try.isAgg49 Try.sizeOf49 rfl rfl (H58.bx 1 rfl 0 7 0 0 _ rfl rfl rfl) ?_)
  refine O_u (C_storeW H58 2 rfl (sub := [[(.int .i64 (((rdAt q).1).T))], [(.int .i64 (((rdAt q).1).R))], [(.int .i64 (((rdAt ((rdAt q).2)).1).T))], [(.int .i64 (((rdAt ((rdAt q).2)).1).R))], [(.string ((rdText ((rdAt ((rdAt q).2)).2) 60).1))], (idCells ((rdId ((rdText ((rdAt ((rdAt q).2)).2) 60).2)).1)), [(slV ho acc)]]) Try.sizeOf49 rfl rfl rfl rfl rfl ?_)
  intro w106 hg107 H108
  refine O_nil (Then_n (W_ret ?_))
  refine ret_c Try.results27 (inMem (cs := [[(.int .i64 (((rdAt q).1).T))], [(.int .i64 (((rdAt q).1).R))], [(.int .i64 (((rdAt ((rdAt q).2)).1).T))], [(.int .i64 (((rdAt ((rdAt q).2)).1).R))], [(.string ((rdText ((rdAt ((rdAt q).2)).2) 60).1))], (idCells ((rdId ((rdText ((rdAt ((rdAt q).2)).2) 60).2)).1)), [(slV ho acc)]]) rfl Try.isAgg49 Try.sizeOf49 rfl (boxR_at (H108.getOwn 2 rfl))) ?_
  have HQ := ((H108.pick (B' := [boxR br 92 (rdCh rr)]) (I' := [slI Sr encB 1 rr.bh rr.b]) [3] (by decide) rfl (List.forall_mem_cons.2 ⟨List.mem_of_getElem? (i := 0) rfl, fun _ h => (nomatch h)⟩)).rdStart)
  exact ⟨rr, ({ node := ((rdAt q).1), tm := ((rdAt ((rdAt q).2)).1), name := (rdText ((rdAt ((rdAt q).2)).2) 60).1, sub := (rdId ((rdText ((rdAt ((rdAt q).2)).2) 60).2)).1, heads := acc, hh := ho } : ItemS), rfl, H108.gr, HQ, (hrr.trans (congrArg Prod.snd (heads_end hgo (by omega)))), H108.retRowM 3 0 (by decide) rfl rfl, (congrArg (ItemC.mk _ _ _ _) (congrArg Prod.fst (heads_end hgo (by omega))))⟩
set_option maxHeartbeats 1000000 in
theorem IndexFunc_Item (ha : SlH) (a : List ItemS) (kfn : FuncId) (cfn : Array Value) (f : ItemS → Bool) (w : World) (Sa : Sl (Old w) itemCh 38 ha a w) (Kfn : callable Try.prog kfn = true) (Cfn : ∀ x ∈ a, ∀ w1, Ext w w1 → Calls Try.prog kfn (#[itemV x] ++ cfn) w1 (Ret fun v w2 => v = .bool (f x) ∧ Ext w1 w2)) :
    Calls Try.prog 71 #[(slV ha a), (.func (.func kfn) #[] cfn)] w (Ret fun v w' => v = (.int .i64 (idxBy f a)) ∧ Ext w w') := by
 refine calls_W Try.func71 rfl Try.ntmps71 rfl ?_
 have H0 := Ctx.start w nob
 have H1 := H0.addSl _ Sa (fun b hb => ⟨hb, fun _ ho => (nomatch ho)⟩)
 have LSa := Sa.len
 refine W_seq (W_reg ?_)
 refine O_as (v := (.int .i64 0)) rfl rfl ?_
 refine O_nil (Then_n (W_seq (W_seq (W_reg ?_))))
 refine O_mv (v := (slV ha a)) rfl rfl ?_
 refine O_v rfl (R_len_slice (a := ha.a) (n := a.length) (c := ha.c) Try.underlying39 rfl ?_)
 refine O_mv (v := (.int .i64 0)) rfl rfl ?_
 refine O_nil (Then_n (W_block ?_))
 refine W_loop (fun m2 e3 w4 => ∃ (k : Nat), m2 = a.length - k ∧ (k ≤ a.length) ∧ (∀ i, i < k → f (nth a i) = false) ∧ ∃ eb5, e3 = envL [(0, (slV ha a)), (1, (.func (.func kfn) #[] cfn)), (7, (.int .i64 (a.length : Int))), (8, (.int .i64 (k : Int)))] eb5 ∧ Ctx w nob w4 [] [slI (Old w) itemCh 38 ha a]) _ ⟨0, rfl, (by omega), (all_zero _), _, envL_self ⟨rfl, rfl, rfl, rfl, trivial⟩, H1⟩ ?_
 rintro m2 _ w4 ⟨k, rfl, hk, hn, eb5, rfl, H6⟩
 refine W_seq (W_reg ?_)
 refine O_v rfl (R_cmp (a := (k : Int)) (b := (a.length : Int)) (r := (decide ((k : Int) < (a.length : Int)))) rfl rfl rfl ?_)
 refine O_nil (Then_n (W_seq ?_))
 refine W_cond rfl (fun hc7 => ?_) (fun hc7 => ?_)
 ·have hc7 := (of_decide_eq_true hc7)
  refine W_skip (Then_n (W_seq (W_block (W_seq (W_reg ?_)))))
  refine O_mv (v := (.int .i64 (k : Int))) rfl rfl (O_as (v := (.int .i64 (k : Int))) rfl rfl ?_)
  refine O_nil (Then_n (W_seq (W_reg ?_)))
  refine O_mv (v := (.func (.func kfn) #[] cfn)) rfl rfl (O_mv (v := (slV ha a)) rfl rfl (O_mv (v := (.int .i64 (k : Int))) rfl rfl ?_))
  refine O_v rfl (R_index_pure (H6.sl 0 rfl) (n := a.length) rfl (j := (k : Int)) (oo := (ha.o + k * 38)) Try.underlying39 Try.sizeOf49 rfl rfl (by omega) (by omega) rfl ?_)
  refine O_v rfl (R_loadA (cs := [[(.int .i64 (((nth a k).node).T))], [(.int .i64 (((nth a k).node).R))], [(.int .i64 (((nth a k).tm).T))], [(.int .i64 (((nth a k).tm).R))], [(.string ((nth a k).name))], (idCells ((nth a k).sub)), [(slV ((nth a k).hh) ((nth a k).heads))]]) Try.isAgg49 Try.sizeOf49 rfl rfl ((Sl.elem (H6.sl 0 rfl) (i := k) (by omega) rfl).chunks 0 7 0 (ha.o + k * 38) _ rfl rfl rfl) ?_)
  refine O_v rfl (R_callV (vs := [(aggOf (itemCh (nth a k)))]) Kfn rfl rfl ((Cfn _ (nth_mem (by omega)) w4 H6.gr).ret ?_))
  rintro _ w8 ⟨rfl, hx9⟩
  have H10 := H6.ext hx9
  refine O_nil (Then_n ?_)
  refine W_cond rfl (fun hc11 => ?_) (fun hc11 => ?_)
  ·have hc11 : (f (nth a k)) = true := hc11
   refine W_seq (W_reg ?_)
   refine O_mv (v := (.int .i64 (k : Int))) rfl rfl (O_as (v := (.int .i64 (k : Int))) rfl rfl ?_)
   refine O_nil (Then_n (W_ret (Blk_r (Then_r (Then_r (Blk_r (Then_r ?_)))))))
   refine ret_1 (v := (.int .i64 (k : Int))) Try.results71 rfl ?_
   exact ⟨(by rw [idxBy_at hn (by omega) (by assumption)]), H10.gr⟩
  ·have hc11 : (f (nth a k)) = false := hc11
   refine W_skip (Blk_n (Then_n (W_reg ?_)))
   refine O_v rfl (R_arith (a := (k : Int)) (b := 1) (r0 := (k : Int) + 1) (r := ((k + 1 : Nat) : Int)) rfl rfl rfl (wrapN _ (by omega)) ?_)
   refine O_mv (v := (.int .i64 ((k + 1 : Nat) : Int))) rfl rfl ?_
   refine O_nil (Then_n ?_)
   refine ⟨_, ?_, (k + 1), rfl, (by omega), (all_succ hn (by assumption)), _, envL_self ⟨rfl, rfl, rfl, rfl, trivial⟩, H10⟩
   omega
 ·have hc7 := (of_decide_eq_false hc7)
  refine W_exit (Then_x (Then_x (Blk_x (Then_n (W_seq (W_reg ?_))))))
  refine O_as (v := (.int .i64 (-1))) rfl rfl ?_
  refine O_nil (Then_n (W_ret ?_))
  refine ret_1 (v := (.int .i64 (-1))) Try.results71 rfl ?_
  exact ⟨(by rw [idxBy_none (by rwa [show a.length = k from by omega])]), H6.gr⟩
theorem cF71 : callable Try.prog 71 = true := by kernel_rfl
set_option maxHeartbeats 1000000 in
theorem ContainsFunc_Item (ha : SlH) (a : List ItemS) (kfn : FuncId) (cfn : Array Value) (f : ItemS → Bool) (w : World) (Sa : Sl (Old w) itemCh 38 ha a w) (Kfn : callable Try.prog kfn = true) (Cfn : ∀ x ∈ a, ∀ w1, Ext w w1 → Calls Try.prog kfn (#[itemV x] ++ cfn) w1 (Ret fun v w2 => v = .bool (f x) ∧ Ext w1 w2)) :
    Calls Try.prog 54 #[(slV ha a), (.func (.func kfn) #[] cfn)] w (Ret fun v w' => v = (.bool (a.any f)) ∧ Ext w w') := by
 refine calls_W Try.func54 rfl Try.ntmps54 rfl ?_
 have H0 := Ctx.start w nob
 have H1 := H0.addSl _ Sa (fun b hb => ⟨hb, fun _ ho => (nomatch ho)⟩)
 have LSa := Sa.len
 refine W_seq (W_reg ?_)
 refine O_as (v := (.bool false)) rfl rfl ?_
 refine O_nil (Then_n (W_seq (W_reg ?_)))
 refine O_mv (v := (slV ha a)) rfl rfl (O_mv (v := (.func (.func kfn) #[] cfn)) rfl rfl ?_)
 refine O_v rfl (R_callL (vs := [(slV ha a), (.func (.func kfn) #[] cfn)]) cF71 rfl rfl ((IndexFunc_Item ha a kfn cfn f w (H1.slOld 0 rfl) Kfn (fun x hx w1 he => Cfn x hx w1 (H1.gr.trans he))).ret ?_))
 rintro _ w2 ⟨rfl, hx3⟩
 have H4 := H1.ext hx3
 refine O_v rfl (R_cmp (a := idxBy f a) (b := 0) (r := (decide (0 ≤ idxBy f a))) rfl rfl rfl ?_)
 refine O_as (v := (.bool (decide (0 ≤ idxBy f a)))) rfl rfl ?_
 refine O_nil (Then_n (W_ret ?_))
 refine ret_1 (v := (.bool (decide (0 ≤ idxBy f a)))) Try.results54 rfl ?_
 exact ⟨(boolIdx f a), H4.gr⟩
set_option maxHeartbeats 1000000 in
theorem rightItem_1 (a : Head) (b : Head) (w : World) :
    Calls Try.prog 73 #[(aggOf (headCh a)), (aggOf (headCh b))] w (Ret fun v w' => v = (.int .i64 (cmpSt a.tm b.tm)) ∧ Ext w w') := by
 refine calls_W Try.func73 rfl Try.ntmps73 rfl ?_
 have H0 := Ctx.start w nob
 refine W_seq (W_reg ?_)
 refine O_v rfl (C_box H0 [[(.int .i64 a.tm.T)], [(.int .i64 a.tm.R)], (idCells a.data)] rfl ?_)
 intro b1 w2 hb3 hx4 H5
 refine O_v rfl (C_box H5 [[(.int .i64 b.tm.T)], [(.int .i64 b.tm.R)], (idCells b.data)] rfl ?_)
 intro b6 w7 hb8 hx9 H10
 refine O_as (v := (.int .i64 0)) rfl rfl ?_
 refine O_nil (Then_n (W_seq (W_reg ?_)))
 refine O_v rfl (R_fieldAddr (off := 0) (oo := 0) Try.underlying51 rfl rfl Try.sizeOf46 rfl rfl ?_)
 refine O_v rfl (R_loadA (cs := [[(.int .i64 a.tm.T)], [(.int .i64 a.tm.R)]]) Try.isAgg46 Try.sizeOf46 rfl rfl (H10.bx 1 rfl 0 2 0 0 _ rfl rfl rfl) ?_)
 refine O_v rfl (R_fieldAddr (off := 0) (oo := 0) Try.underlying51 rfl rfl Try.sizeOf46 rfl rfl ?_)
 refine O_v rfl (R_loadA (cs := [[(.int .i64 b.tm.T)], [(.int .i64 b.tm.R)]]) Try.isAgg46 Try.sizeOf46 rfl rfl (H10.bx 0 rfl 0 2 0 0 _ rfl rfl rfl) ?_)
 refine O_v rfl (R_callL (vs := [(aggOf (stampCh a.tm)), (aggOf (stampCh b.tm))]) cF46 rfl rfl ((stamp_Cmp a.tm b.tm w7 ).ret ?_))
 rintro _ w11 ⟨rfl, hx12⟩
 have H13 := H10.ext hx12
 refine O_as (v := (.int .i64 (cmpSt a.tm b.tm))) rfl rfl ?_
 refine O_nil (Then_n (W_ret ?_))
 refine ret_1 (v := (.int .i64 (cmpSt a.tm b.tm))) Try.results73 rfl ?_
 exact ⟨rfl, H13.gr⟩
set_option maxHeartbeats 1000000 in
theorem rise_Head (ha : SlH) (a : List Head) (kcmp : FuncId) (ccmp : Array Value) (f : Head → Head → Int) (w : World) (Sa : Sl (Old w) headCh 34 ha a w) (Kcmp : callable Try.prog kcmp = true) (Ccmp : ∀ x ∈ a, ∀ y ∈ a, ∀ w1, Ext w w1 → Calls Try.prog kcmp (#[headV x, headV y] ++ ccmp) w1 (Ret fun v w2 => v = .int .i64 (f x y) ∧ Ext w1 w2)) :
    Calls Try.prog 72 #[(slV ha a), (.func (.func kcmp) #[] ccmp)] w (Ret fun v w' => v = (.bool (riseBy f a)) ∧ Ext w w') := by
 refine calls_W Try.func72 rfl Try.ntmps72 rfl ?_
 have H0 := Ctx.start w nob
 have H1 := H0.addSl _ Sa (fun b hb => ⟨hb, fun _ ho => (nomatch ho)⟩)
 have LSa := Sa.len
 refine W_seq (W_reg ?_)
 refine O_as (v := (.bool false)) rfl rfl ?_
 refine O_nil (Then_n (W_seq (W_seq (W_reg ?_))))
 refine O_as (v := (.int .i64 1)) rfl rfl ?_
 refine O_nil (Then_n (W_block ?_))
 refine W_loop (fun m2 e3 w4 => ∃ (k : Nat), m2 = a.length - k ∧ (1 ≤ k) ∧ (k ≤ max a.length 1) ∧ (∀ i, i < k → 1 ≤ i → f (nth a (i - 1)) (nth a i) < 0) ∧ ∃ eb5, e3 = envL [(0, (slV ha a)), (1, (.func (.func kcmp) #[] ccmp)), (5, (.int .i64 (k : Int)))] eb5 ∧ Ctx w nob w4 [] [slI (Old w) headCh 34 ha a]) _ ⟨1, rfl, (by omega), (by omega), (fun i h1 h2 => by omega), _, envL_self ⟨rfl, rfl, rfl, trivial⟩, H1⟩ ?_
 rintro m2 _ w4 ⟨k, rfl, h1, hk, hn, eb5, rfl, H6⟩
 refine W_seq (W_seq (W_reg ?_))
 refine O_mv (v := (.int .i64 (k : Int))) rfl rfl (O_mv (v := (slV ha a)) rfl rfl ?_)
 refine O_v rfl (R_len_slice (a := ha.a) (n := a.length) (c := ha.c) Try.underlying47 rfl ?_)
 refine O_v rfl (R_cmp (a := (k : Int)) (b := (a.length : Int)) (r := (decide ((k : Int) < (a.length : Int)))) rfl rfl rfl ?_)
 refine O_nil (Then_n ?_)
 refine W_cond rfl (fun hc7 => ?_) (fun hc7 => ?_)
 ·have hc7 := (of_decide_eq_true hc7)
  refine W_skip (Then_n (W_seq (W_block (W_seq ?_))))
  refine W_rgd TryMixed [(0, .q 0), (1, .q 0), (2, .q 0), (3, .q 0), (4, .q 0), (5, .q 0), (6, .q 0), (7, .q 0), (8, .q 0), (9, .q 0), (10, .q 0), (11, .q 0)] (by kernel_rfl) ?_
  refine Lx_mv (v := (.func (.func kcmp) #[] ccmp)) rfl rfl rfl (Lx_mv (v := (slV ha a)) rfl rfl rfl (Lx_mv (v := (.int .i64 (k : Int))) rfl rfl rfl (Lx_q rfl rfl _ (fun v14 hv15 => R_arith (a := (k : Int)) (b := 1) (r0 := (k : Int) - 1) (r := ((k - 1 : Nat) : Int)) rfl rfl rfl (wrapP _ (by omega) (by omega)) qk) ?_)))
  refine Lx_q rfl rfl _ (fun v16 hv17 => R_index_pure (H6.sl 0 rfl) (n := a.length) rfl (j := ((k - 1 : Nat) : Int)) (oo := (ha.o + (k - 1) * 34)) Try.underlying47 Try.sizeOf51 rfl rfl (by omega) (by omega) rfl qk) (Lx_q rfl rfl _ (fun v18 hv19 => R_loadA (cs := [[(.int .i64 (((nth a (k - 1)).tm).T))], [(.int .i64 (((nth a (k - 1)).tm).R))], (idCells ((nth a (k - 1)).data))]) Try.isAgg51 Try.sizeOf51 rfl rfl ((Sl.elem ((H6.ext hv19).sl 0 rfl) (i := (k - 1)) (by omega) rfl).chunks 0 3 0 (ha.o + (k - 1) * 34) _ rfl rfl rfl) qk) (Lx_mv (v := (slV ha a)) rfl rfl rfl (Lx_mv (v := (.int .i64 (k : Int))) rfl rfl rfl ?_)))
  refine Lx_q rfl rfl _ (fun v24 hv25 => R_index_pure (H6.sl 0 rfl) (n := a.length) rfl (j := (k : Int)) (oo := (ha.o + k * 34)) Try.underlying47 Try.sizeOf51 rfl rfl (by omega) (by omega) rfl qk) (Lx_q rfl rfl _ (fun v26 hv27 => R_loadA (cs := [[(.int .i64 (((nth a k).tm).T))], [(.int .i64 (((nth a k).tm).R))], (idCells ((nth a k).data))]) Try.isAgg51 Try.sizeOf51 rfl rfl ((Sl.elem ((H6.ext hv27).sl 0 rfl) (i := k) (by omega) rfl).chunks 0 3 0 (ha.o + k * 34) _ rfl rfl rfl) qk) (Lx_q rfl rfl (.int .i64 (f (nth a (k - 1)) (nth a k))) (fun v28 hv29 => R_callV (vs := [(aggOf (headCh (nth a (k - 1)))), (aggOf (headCh (nth a k)))]) Kcmp rfl rfl (Ccmp _ (nth_mem (by omega)) _ (nth_mem (by omega)) v28 (H6.ext hv29).gr)) (Lx_q rfl rfl _ (fun v30 hv31 => R_cmp (a := f (nth a (k - 1)) (nth a k)) (b := 0) (r := (decide (0 ≤ f (nth a (k - 1)) (nth a k)))) rfl rfl rfl qk) ?_)))
  refine Lx_nil (fun w32 hw33 => ?_)
  have H34 := H6.ext hw33
  refine Then_n ?_
  refine W_cond rfl (fun hc35 => ?_) (fun hc35 => ?_)
  ·have hc35 := (of_decide_eq_true hc35)
   refine W_seq (W_reg ?_)
   refine O_as (v := (.bool false)) rfl rfl ?_
   refine O_nil (Then_n (W_ret (Blk_r (Then_r (Then_r (Blk_r (Then_r ?_)))))))
   refine ret_1 (v := (.bool false)) Try.results72 rfl ?_
   exact ⟨(boolF (fun h => by have := h k (by omega) (by omega); omega)), H34.gr⟩
  ·have hc35 := (of_decide_eq_false hc35)
   refine W_skip (Blk_n (Then_n (W_reg ?_)))
   refine O_mv (v := (.int .i64 (k : Int))) rfl rfl ?_
   refine O_v rfl (R_arith (a := (k : Int)) (b := 1) (r0 := (k : Int) + 1) (r := ((k + 1 : Nat) : Int)) rfl rfl rfl (wrapN _ (by omega)) ?_)
   refine O_as (v := (.int .i64 ((k + 1 : Nat) : Int))) rfl rfl ?_
   refine O_nil (Then_n ?_)
   refine ⟨_, ?_, (k + 1), rfl, (by omega), (by omega), (rise_succ hn (by omega)), _, envL_self ⟨rfl, rfl, rfl, trivial⟩, H34⟩
   omega
 ·have hc7 := (of_decide_eq_false hc7)
  refine W_exit (Then_x (Then_x (Blk_x (Then_n (W_seq (W_reg ?_))))))
  refine O_as (v := (.bool true)) rfl rfl ?_
  refine O_nil (Then_n (W_ret ?_))
  refine ret_1 (v := (.bool true)) Try.results72 rfl ?_
  exact ⟨(boolT (fun i h1 h2 => hn i (by omega) h2)), H6.gr⟩
end Go.Proofs.Ythjdhfoeckfmbaa
namespace Go.Proofs.Ythjdhfoeckfmbaa
open Go
set_option maxRecDepth 100000
set_option linter.unusedVariables false
set_option linter.unusedSimpArgs false
set_option linter.unusedSectionVars false
theorem cF72 : callable Try.prog 72 = true := by kernel_rfl
theorem cF73 : callable Try.prog 73 = true := by kernel_rfl
set_option maxHeartbeats 2000000 in
theorem obj_rightItem (x : ItemS) (w : World) (Sx_heads : Sl (Old w) headCh 34 x.hh x.heads w) :
    Calls Try.prog 56 #[(aggOf (itemCh x))] w (Ret fun v w' => v = (.bool (itemOkS x)) ∧ Ext w w') := by
 refine calls_W Try.func56 rfl Try.ntmps56 rfl ?_
 have H0 := Ctx.start w nob
 have H1 := H0.addSl _ Sx_heads (fun b hb => ⟨hb, fun _ ho => (nomatch ho)⟩)
 have LSx_heads := Sx_heads.len
 refine W_seq (W_reg ?_)
 refine O_v rfl (C_box H1 [[(.int .i64 x.node.T)], [(.int .i64 x.node.R)], [(.int .i64 x.tm.T)], [(.int .i64 x.tm.R)], [(.string x.name)], (idCells x.sub), [(slV x.hh x.heads)]] rfl ?_)
 intro b2 w3 hb4 hx5 H6
 refine O_as (v := (.bool false)) rfl rfl ?_
 refine O_nil (Then_n (W_seq (W_seq ?_)))
 refine W_rg [(0, .q 0), (1, .q 0), (2, .q 0), (3, .q 0), (4, .q 0), (5, .q 0), (6, .q 0), (7, .q 0), (8, .q 0), (9, .q 0), (10, .q 0), (11, .q 0), (12, .q 0), (13, .q 0), (14, .q 0), (15, .q 0), (16, .q 0), (17, .q 0), (18, .q 0), (19, .q 0), (20, .q 0), (21, .q 0), (22, .q 0), (23, .q 0), (24, .q 0), (25, .q 0), (26, .q 0), (27, .q 0), (28, .q 0), (29, .q 0)] (by kernel_rfl) ?_
 refine Lx_q rfl rfl _ (fun v7 hv8 => R_fieldAddr (off := 0) (oo := 0) Try.underlying49 rfl rfl Try.sizeOf46 rfl rfl qk) (Lx_q rfl rfl _ (fun v9 hv10 => R_loadA (cs := [[(.int .i64 x.node.T)], [(.int .i64 x.node.R)]]) Try.isAgg46 Try.sizeOf46 rfl rfl ((H6.ext hv10).bx 0 rfl 0 2 0 0 _ rfl rfl rfl) qk) (Lx_q rfl rfl (.bool (stRight x.node)) (fun v11 hv12 => R_callL (vs := [(aggOf (stampCh x.node))]) cF41 rfl rfl (stamp_Right x.node v11 )) (Lx_q rfl rfl _ (fun v13 hv14 => R_not rfl qk) ?_)))
 refine Lx_mv (v := (.bool (!(stRight x.node)))) rfl rfl rfl (Lx_qf rfl rfl rfl rfl rfl _ (fun hA v17 hv18 => R_fieldAddr (off := 2) (oo := 2) Try.underlying49 rfl rfl Try.sizeOf46 rfl rfl qk) (Lx_qf rfl rfl rfl rfl rfl _ (fun hA v19 hv20 => R_loadA (cs := [[(.int .i64 x.tm.T)], [(.int .i64 x.tm.R)]]) Try.isAgg46 Try.sizeOf46 rfl (gv_t hA) ((H6.ext hv20).bx 0 rfl 2 2 2 2 _ rfl rfl rfl) qk) (Lx_qf rfl rfl rfl rfl rfl (.bool (stRight x.tm)) (fun hA v21 hv22 => R_callL (vs := [(aggOf (stampCh x.tm))]) cF41 rfl (lst1 (gv_t hA)) (stamp_Right x.tm v21 )) ?_)))
 refine Lx_qf rfl rfl rfl rfl rfl _ (fun hA v23 hv24 => R_not (gv_t hA) qk) (Lx_q rfl rfl _ (fun v25 hv26 => R_pick rfl pk_or qk) (Lx_mv (v := (.bool ((!(stRight x.node)) || (!(stRight x.tm))))) rfl rfl rfl (Lx_qf rfl rfl rfl rfl rfl _ (fun hA v29 hv30 => R_fieldAddr (off := 2) (oo := 2) Try.underlying49 rfl rfl Try.sizeOf46 rfl rfl qk) ?_)))
 refine Lx_qf rfl rfl rfl rfl rfl _ (fun hA v31 hv32 => R_loadA (cs := [[(.int .i64 x.tm.T)], [(.int .i64 x.tm.R)]]) Try.isAgg46 Try.sizeOf46 rfl (gv_t hA) ((H6.ext hv32).bx 0 rfl 2 2 2 2 _ rfl rfl rfl) qk) (Lx_qf rfl rfl rfl rfl rfl _ (fun hA v33 hv34 => R_fieldAddr (off := 0) (oo := 0) Try.underlying49 rfl rfl Try.sizeOf46 rfl rfl qk) (Lx_qf rfl rfl rfl rfl rfl _ (fun hA v35 hv36 => R_loadA (cs := [[(.int .i64 x.node.T)], [(.int .i64 x.node.R)]]) Try.isAgg46 Try.sizeOf46 rfl (gv_t hA) ((H6.ext hv36).bx 0 rfl 0 2 0 0 _ rfl rfl rfl) qk) (Lx_qf rfl rfl rfl rfl rfl (.int .i64 (cmpSt x.tm x.node)) (fun hA v37 hv38 => R_callL (vs := [(aggOf (stampCh x.tm)), (aggOf (stampCh x.node))]) cF46 rfl (lst2 (gv_t hA) (gv_t hA)) (stamp_Cmp x.tm x.node v37 )) ?_)))
 refine Lx_qf rfl rfl rfl rfl rfl _ (fun hA v39 hv40 => R_cmp (a := cmpSt x.tm x.node) (b := 0) (r := (decide (cmpSt x.tm x.node < 0))) (gv_t hA) rfl rfl qk) (Lx_q rfl rfl _ (fun v41 hv42 => R_pick rfl pk_or qk) (Lx_mv (v := (.bool (((!(stRight x.node)) || (!(stRight x.tm))) || (decide (cmpSt x.tm x.node < 0))))) rfl rfl rfl (Lx_qf rfl rfl rfl rfl rfl _ (fun hA v45 hv46 => R_fieldAddr (off := 4) (oo := 4) Try.underlying49 rfl rfl Try.sizeOf9 rfl rfl qk) ?_)))
 refine Lx_qf rfl rfl rfl rfl rfl _ (fun hA v47 hv48 => R_load1 (v := (.string x.name)) Try.isAgg9 (gv_t hA) ((H6.ext hv48).bx 0 rfl 4 1 4 4 _ rfl rfl rfl) qk) (Lx_qf rfl rfl rfl rfl rfl (.bool (nameOk x.name)) (fun hA v49 hv50 => R_callL (vs := [(.string x.name)]) cF49 rfl (lst1 (gv_t hA)) (stamp_Name x.name v49 )) (Lx_qf rfl rfl rfl rfl rfl _ (fun hA v51 hv52 => R_not (gv_t hA) qk) (Lx_q rfl rfl _ (fun v53 hv54 => R_pick rfl pk_or qk) ?_)))
 refine Lx_mv (v := (.bool ((((!(stRight x.node)) || (!(stRight x.tm))) || (decide (cmpSt x.tm x.node < 0))) || (!(nameOk x.name))))) rfl rfl rfl (Lx_qf rfl rfl rfl rfl rfl _ (fun hA v57 hv58 => R_fieldAddr (off := 37) (oo := 37) Try.underlying49 rfl rfl Try.sizeOf47 rfl rfl qk) (Lx_qf rfl rfl rfl rfl rfl _ (fun hA v59 hv60 => R_load1 (v := (slV x.hh x.heads)) Try.isAgg47 (gv_t hA) ((H6.ext hv60).bx 0 rfl 6 1 37 37 _ rfl rfl rfl) qk) (Lx_qf rfl rfl rfl rfl rfl _ (fun hA v61 hv62 => R_len_slice (a := x.hh.a) (n := x.heads.length) (c := x.hh.c) Try.underlying47 (gv_t hA) qk) ?_)))
 refine Lx_qf rfl rfl rfl rfl rfl _ (fun hA v63 hv64 => R_cmp (a := (x.heads.length : Int)) (b := 1000) (r := (decide (1000 < (x.heads.length : Int)))) (gv_t hA) rfl rfl qk) (Lx_q rfl rfl _ (fun v65 hv66 => R_pick rfl pk_or qk) ?_)
 refine Lx_nil (fun w67 hw68 => ?_)
 have H69 := H6.ext hw68
 refine Then_n ?_
 refine W_cond rfl (fun hc70 => ?_) (fun hc70 => ?_)
 ·have hc70 : (((((stRight x.node) = false ∨ (stRight x.tm) = false) ∨ (cmpSt x.tm x.node < 0)) ∨ (nameOk x.name) = false) ∨ (1000 < (x.heads.length : Int))) := (Or.imp (fun h => (Or.imp (fun h => (Or.imp (fun h => (Or.imp (fun h => (notT h)) (fun h => (notT h)) (orT h))) (fun h => (of_decide_eq_true h)) (orT h))) (fun h => (notT h)) (orT h))) (fun h => (of_decide_eq_true h)) (orT hc70))
  refine W_seq (W_reg ?_)
  refine O_as (v := (.bool false)) rfl rfl ?_
  refine O_nil (Then_n (W_ret (Then_r ?_)))
  refine ret_1 (v := (.bool false)) Try.results56 rfl ?_
  exact ⟨(itemOk_f1 (by assumption)), H69.gr⟩
 ·have hc70 : (((((stRight x.node) = true ∧ (stRight x.tm) = true) ∧ ¬ (cmpSt x.tm x.node < 0)) ∧ (nameOk x.name) = true) ∧ ¬ (1000 < (x.heads.length : Int))) := (And.imp (fun h => (And.imp (fun h => (And.imp (fun h => (And.imp (fun h => (notF h)) (fun h => (notF h)) (orF h))) (fun h => (of_decide_eq_false h)) (orF h))) (fun h => (notF h)) (orF h))) (fun h => (of_decide_eq_false h)) (orF hc70))
  refine W_skip (Then_n (W_seq (W_seq (W_reg ?_))))
  refine O_v rfl (R_fieldAddr (off := 37) (oo := 37) Try.underlying49 rfl rfl Try.sizeOf47 rfl rfl ?_)
  refine O_v rfl (R_load1 (v := (slV x.hh x.heads)) Try.isAgg47 rfl (H69.bx 0 rfl 6 1 37 37 _ rfl rfl rfl) ?_)
  refine O_v rfl (R_len_slice (a := x.hh.a) (n := x.heads.length) (c := x.hh.c) Try.underlying47 rfl ?_)
  refine O_mv (v := (.int .i64 0)) rfl rfl ?_
  refine O_nil (Then_n (W_block ?_))
  refine W_loop (fun m71 e72 w73 => ∃ (k : Nat), m71 = x.heads.length - k ∧ (k ≤ x.heads.length) ∧ (∀ i, i < k → itemHead1 x.node x.heads i) ∧ ∃ eb74, e72 = envL [(1, (.pointer (some ⟨b2, 0, none⟩))), (36, (slV x.hh x.heads)), (37, (.int .i64 (x.heads.length : Int))), (38, (.int .i64 (k : Int)))] eb74 ∧ Ctx w nob w73 [boxR b2 49 [[(.int .i64 x.node.T)], [(.int .i64 x.node.R)], [(.int .i64 x.tm.T)], [(.int .i64 x.tm.R)], [(.string x.name)], (idCells x.sub), [(slV x.hh x.heads)]]] [slI (Old w) headCh 34 x.hh x.heads]) _ ⟨0, rfl, (by omega), (all_zero _), _, envL_self ⟨rfl, rfl, rfl, rfl, trivial⟩, H69⟩ ?_
  rintro m71 _ w73 ⟨k, rfl, hk, hn, eb74, rfl, H75⟩
  refine W_seq (W_reg ?_)
  refine O_v rfl (R_cmp (a := (k : Int)) (b := (x.heads.length : Int)) (r := (decide ((k : Int) < (x.heads.length : Int)))) rfl rfl rfl ?_)
  refine O_nil (Then_n (W_seq ?_))
  refine W_cond rfl (fun hc76 => ?_) (fun hc76 => ?_)
  ·have hc76 := (of_decide_eq_true hc76)
   refine W_skip (Then_n (W_seq (W_block (W_seq (W_reg ?_)))))
   refine O_v rfl (R_index_pure (H75.sl 0 rfl) (n := x.heads.length) rfl (j := (k : Int)) (oo := (x.hh.o + k * 34)) Try.underlying47 Try.sizeOf51 rfl rfl (by omega) (by omega) rfl ?_)
   refine O_v rfl (R_loadA (cs := [[(.int .i64 (((nth x.heads k).tm).T))], [(.int .i64 (((nth x.heads k).tm).R))], (idCells ((nth x.heads k).data))]) Try.isAgg51 Try.sizeOf51 rfl rfl ((Sl.elem (H75.sl 0 rfl) (i := k) (by omega) rfl).chunks 0 3 0 (x.hh.o + k * 34) _ rfl rfl rfl) ?_)
   refine O_v rfl (C_alloc H75 [[(.int .i64 0)], [(.int .i64 0)], (idCells zeroId)] Try.zeroValue51 ?_)
   intro b77 w78 hb79 hx80 H81
   refine O_u (C_storeW H81 0 rfl (sub := [[(.int .i64 (((nth x.heads k).tm).T))], [(.int .i64 (((nth x.heads k).tm).R))], (idCells ((nth x.heads k).data))]) Try.sizeOf51 rfl rfl rfl rfl rfl ?_)
   intro w82 hg83 H84
   refine O_nil (Then_n (W_seq ?_))
   refine W_rg [(0, .q 0), (1, .q 0), (2, .q 0), (3, .q 0), (4, .q 0), (5, .q 0), (6, .q 0), (7, .q 0), (8, .q 0), (9, .q 0), (10, .q 0), (11, .q 0), (12, .q 0), (13, .q 0), (14, .q 0), (15, .q 0), (16, .q 0), (17, .q 0)] (by kernel_rfl) ?_
   refine Lx_q rfl rfl _ (fun v85 hv86 => R_fieldAddr (off := 0) (oo := 0) Try.underlying51 rfl rfl Try.sizeOf46 rfl rfl qk) (Lx_q rfl rfl _ (fun v87 hv88 => R_loadA (cs := [[(.int .i64 (((nth x.heads k).tm).T))], [(.int .i64 (((nth x.heads k).tm).R))]]) Try.isAgg46 Try.sizeOf46 rfl rfl ((H84.ext hv88).bx 0 rfl 0 2 0 0 _ rfl rfl rfl) qk) (Lx_q rfl rfl (.bool (stRight ((nth x.heads k).tm))) (fun v89 hv90 => R_callL (vs := [(aggOf (stampCh ((nth x.heads k).tm)))]) cF41 rfl rfl (stamp_Right ((nth x.heads k).tm) v89 )) (Lx_q rfl rfl _ (fun v91 hv92 => R_not rfl qk) ?_)))
   refine Lx_mv (v := (.bool (!(stRight ((nth x.heads k).tm))))) rfl rfl rfl (Lx_qf rfl rfl rfl rfl rfl _ (fun hA v95 hv96 => R_fieldAddr (off := 0) (oo := 0) Try.underlying51 rfl rfl Try.sizeOf46 rfl rfl qk) (Lx_qf rfl rfl rfl rfl rfl _ (fun hA v97 hv98 => R_loadA (cs := [[(.int .i64 (((nth x.heads k).tm).T))], [(.int .i64 (((nth x.heads k).tm).R))]]) Try.isAgg46 Try.sizeOf46 rfl (gv_t hA) ((H84.ext hv98).bx 0 rfl 0 2 0 0 _ rfl rfl rfl) qk) (Lx_qf rfl rfl rfl rfl rfl _ (fun hA v99 hv100 => R_fieldAddr (off := 0) (oo := 0) Try.underlying49 rfl rfl Try.sizeOf46 rfl rfl qk) ?_)))
   refine Lx_qf rfl rfl rfl rfl rfl _ (fun hA v101 hv102 => R_loadA (cs := [[(.int .i64 x.node.T)], [(.int .i64 x.node.R)]]) Try.isAgg46 Try.sizeOf46 rfl (gv_t hA) ((H84.ext hv102).bx 1 rfl 0 2 0 0 _ rfl rfl rfl) qk) (Lx_qf rfl rfl rfl rfl rfl (.int .i64 (cmpSt ((nth x.heads k).tm) x.node)) (fun hA v103 hv104 => R_callL (vs := [(aggOf (stampCh ((nth x.heads k).tm))), (aggOf (stampCh x.node))]) cF46 rfl (lst2 (gv_t hA) (gv_t hA)) (stamp_Cmp ((nth x.heads k).tm) x.node v103 )) (Lx_qf rfl rfl rfl rfl rfl _ (fun hA v105 hv106 => R_cmp (a := cmpSt ((nth x.heads k).tm) x.node) (b := 0) (r := (decide (cmpSt ((nth x.heads k).tm) x.node ≤ 0))) (gv_t hA) rfl rfl qk) (Lx_q rfl rfl _ (fun v107 hv108 => R_pick rfl pk_or qk) ?_)))
   refine Lx_mv (v := (.bool ((!(stRight ((nth x.heads k).tm))) || (decide (cmpSt ((nth x.heads k).tm) x.node ≤ 0))))) rfl rfl rfl (Lx_qf rfl rfl rfl rfl rfl _ (fun hA v111 hv112 => R_fieldAddr (off := 2) (oo := 2) Try.underlying51 rfl rfl Try.sizeOf25 rfl rfl qk) (Lx_qf rfl rfl rfl rfl rfl _ (fun hA v113 hv114 => R_loadA (cs := [(idCells ((nth x.heads k).data))]) Try.isAgg25 Try.sizeOf25 rfl (gv_t hA) ((H84.ext hv114).bx 0 rfl 2 1 2 2 _ rfl rfl rfl) qk) (Lx_qf rfl rfl rfl rfl rfl _ (fun hA v115 hv116 => R_buildL (vs := []) (v := aggOf [(idCells zeroId)]) rfl (fun _ => by kernel_rfl) qk) ?_)))
   refine Lx_qf rfl rfl rfl rfl rfl _ (fun hA v117 hv118 => R_eqv (a := (nth x.heads k).data) (b := zeroId) eqv_ID25 rfl Try.eqGuardType25 (gv_t hA) (gv_t hA) qk) (Lx_q rfl rfl _ (fun v119 hv120 => R_pick rfl pk_or qk) ?_)
   refine Lx_nil (fun w121 hw122 => ?_)
   have H123 := H84.ext hw122
   refine Then_n ?_
   refine W_cond rfl (fun hc124 => ?_) (fun hc124 => ?_)
   ·have hc124 : (((stRight ((nth x.heads k).tm)) = false ∨ (cmpSt ((nth x.heads k).tm) x.node ≤ 0)) ∨ ((nth x.heads k).data = zeroId)) := (Or.imp (fun h => (Or.imp (fun h => (notT h)) (fun h => (of_decide_eq_true h)) (orT h))) (fun h => (of_decide_eq_true h)) (orT hc124))
    refine W_seq (W_reg ?_)
    refine O_as (v := (.bool false)) rfl rfl ?_
    refine O_nil (Then_n (W_ret (Blk_r (Then_r (Then_r (Blk_r (Then_r ?_)))))))
    refine ret_1 (v := (.bool false)) Try.results56 rfl ?_
    exact ⟨(itemOk_f3 (k := k) (by omega) (by assumption)), H123.gr⟩
   ·have hc124 : (((stRight ((nth x.heads k).tm)) = true ∧ ¬ (cmpSt ((nth x.heads k).tm) x.node ≤ 0)) ∧ ¬ ((nth x.heads k).data = zeroId)) := (And.imp (fun h => (And.imp (fun h => (notF h)) (fun h => (of_decide_eq_false h)) (orF h))) (fun h => (of_decide_eq_false h)) (orF hc124))
    refine W_skip (Blk_n (Then_n (W_reg ?_)))
    refine O_v rfl (R_arith (a := (k : Int)) (b := 1) (r0 := (k : Int) + 1) (r := ((k + 1 : Nat) : Int)) rfl rfl rfl (wrapN _ (by omega)) ?_)
    refine O_mv (v := (.int .i64 ((k + 1 : Nat) : Int))) rfl rfl ?_
    refine O_nil (Then_n ?_)
    have H125 := H123.sub (List.Sublist.cons _ (List.Sublist.cons_cons _ List.Sublist.slnil)) (List.forall_mem_cons.2 ⟨List.mem_of_getElem? (i := 0) rfl, memN⟩)
    refine ⟨_, ?_, (k + 1), rfl, (by omega), (all_succ hn (itemHead1_t (by assumption))), _, envL_self ⟨rfl, rfl, rfl, rfl, trivial⟩, H125⟩
    omega
  ·have hc76 := (of_decide_eq_false hc76)
   refine W_exit (Then_x (Then_x (Blk_x (Then_n (W_seq (W_reg ?_))))))
   refine O_v rfl (R_fieldAddr (off := 37) (oo := 37) Try.underlying49 rfl rfl Try.sizeOf47 rfl rfl ?_)
   refine O_v rfl (R_load1 (v := (slV x.hh x.heads)) Try.isAgg47 rfl (H75.bx 0 rfl 6 1 37 37 _ rfl rfl rfl) ?_)
   refine O_v rfl (R_callL (vs := [(slV x.hh x.heads), (.func (.func 73) #[] #[])]) cF72 rfl rfl ((rise_Head x.hh x.heads 73 #[] (fun (a b : Head) => cmpSt a.tm b.tm) w73 (H75.slOld 0 rfl) cF73 (fun x _ y _ w1 _ => callsCap0 (rightItem_1 x y w1))).ret ?_))
   rintro _ w126 ⟨rfl, hx127⟩
   have H128 := H75.ext hx127
   refine O_as (v := (.bool (riseBy (fun (a b : Head) => cmpSt a.tm b.tm) x.heads))) rfl rfl ?_
   refine O_nil (Then_n (W_ret ?_))
   refine ret_1 (v := (.bool (riseBy (fun (a b : Head) => cmpSt a.tm b.tm) x.heads))) Try.results56 rfl ?_
   exact ⟨(itemOk_e (by assumption) (by rwa [show x.heads.length = k from by omega])), H128.gr⟩
theorem cF56 : callable Try.prog 56 = true := by kernel_rfl
set_option maxHeartbeats 1000000 in
theorem rightDir_1 (x : ItemS) (w : World) (Sx_heads : Sl (Old w) headCh 34 x.hh x.heads w) :
    Calls Try.prog 55 #[(aggOf (itemCh x))] w (Ret fun v w' => v = (.bool (!(itemOkS x))) ∧ Ext w w') := by
 refine calls_W Try.func55 rfl Try.ntmps55 rfl ?_
 have H0 := Ctx.start w nob
 have H1 := H0.addSl _ Sx_heads (fun b hb => ⟨hb, fun _ ho => (nomatch ho)⟩)
 have LSx_heads := Sx_heads.len
 refine W_seq (W_reg ?_)
 refine O_v rfl (C_box H1 [[(.int .i64 x.node.T)], [(.int .i64 x.node.R)], [(.int .i64 x.tm.T)], [(.int .i64 x.tm.R)], [(.string x.name)], (idCells x.sub), [(slV x.hh x.heads)]] rfl ?_)
 intro b2 w3 hb4 hx5 H6
 refine O_as (v := (.bool false)) rfl rfl ?_
 refine O_nil (Then_n (W_seq (W_reg ?_)))
 refine O_v rfl (R_loadA (cs := [[(.int .i64 x.node.T)], [(.int .i64 x.node.R)], [(.int .i64 x.tm.T)], [(.int .i64 x.tm.R)], [(.string x.name)], (idCells x.sub), [(slV x.hh x.heads)]]) Try.isAgg49 Try.sizeOf49 rfl rfl (H6.bx 0 rfl 0 7 0 0 _ rfl rfl rfl) ?_)
 refine O_v rfl (R_callL (vs := [(aggOf (itemCh x))]) cF56 rfl rfl ((obj_rightItem x w3 (H6.slOld 0 rfl)).ret ?_))
 rintro _ w7 ⟨rfl, hx8⟩
 have H9 := H6.ext hx8
 refine O_v rfl (R_not rfl ?_)
 refine O_as (v := (.bool (!(itemOkS x)))) rfl rfl ?_
 refine O_nil (Then_n (W_ret ?_))
 refine ret_1 (v := (.bool (!(itemOkS x)))) Try.results55 rfl ?_
 exact ⟨rfl, H9.gr⟩
end Go.Proofs.Ythjdhfoeckfmbaa
namespace Go.Proofs.Ythjdhfoeckfmbaa
open Go
set_option maxRecDepth 100000
set_option linter.unusedVariables false
set_option linter.unusedSimpArgs false
set_option linter.unusedSectionVars false
variable [DD]
set_option maxHeartbeats 1000000 in
theorem rightDir_2 (a : ItemS) (b : ItemS) (w : World) (Sa_heads : Sl (Old w) headCh 34 a.hh a.heads w) (Sb_heads : Sl (Old w) headCh 34 b.hh b.heads w) :
    Calls Try.prog 58 #[(aggOf (itemCh a)), (aggOf (itemCh b))] w (Ret fun v w' => v = (.int .i64 (cmpSt a.node b.node)) ∧ Ext w w') := by
 refine calls_W Try.func58 rfl Try.ntmps58 rfl ?_
 have H0 := Ctx.start w nob
 have H1 := H0.addSl _ Sa_heads (fun b hb => ⟨hb, fun _ ho => (nomatch ho)⟩)
 have LSa_heads := Sa_heads.len
 have H2 := H1.addSl _ Sb_heads (fun b hb => ⟨hb, fun _ ho => (nomatch ho)⟩)
 have LSb_heads := Sb_heads.len
 refine W_seq (W_reg ?_)
 refine O_v rfl (C_box H2 [[(.int .i64 a.node.T)], [(.int .i64 a.node.R)], [(.int .i64 a.tm.T)], [(.int .i64 a.tm.R)], [(.string a.name)], (idCells a.sub), [(slV a.hh a.heads)]] rfl ?_)
 intro b3 w4 hb5 hx6 H7
 refine O_v rfl (C_box H7 [[(.int .i64 b.node.T)], [(.int .i64 b.node.R)], [(.int .i64 b.tm.T)], [(.int .i64 b.tm.R)], [(.string b.name)], (idCells b.sub), [(slV b.hh b.heads)]] rfl ?_)
 intro b8 w9 hb10 hx11 H12
 refine O_as (v := (.int .i64 0)) rfl rfl ?_
 refine O_nil (Then_n (W_seq (W_reg ?_)))
 refine O_v rfl (R_fieldAddr (off := 0) (oo := 0) Try.underlying49 rfl rfl Try.sizeOf46 rfl rfl ?_)
 refine O_v rfl (R_loadA (cs := [[(.int .i64 a.node.T)], [(.int .i64 a.node.R)]]) Try.isAgg46 Try.sizeOf46 rfl rfl (H12.bx 1 rfl 0 2 0 0 _ rfl rfl rfl) ?_)
 refine O_v rfl (R_fieldAddr (off := 0) (oo := 0) Try.underlying49 rfl rfl Try.sizeOf46 rfl rfl ?_)
 refine O_v rfl (R_loadA (cs := [[(.int .i64 b.node.T)], [(.int .i64 b.node.R)]]) Try.isAgg46 Try.sizeOf46 rfl rfl (H12.bx 0 rfl 0 2 0 0 _ rfl rfl rfl) ?_)
 refine O_v rfl (R_callL (vs := [(aggOf (stampCh a.node)), (aggOf (stampCh b.node))]) cF46 rfl rfl ((stamp_Cmp a.node b.node w9 ).ret ?_))
 rintro _ w13 ⟨rfl, hx14⟩
 have H15 := H12.ext hx14
 refine O_as (v := (.int .i64 (cmpSt a.node b.node))) rfl rfl ?_
 refine O_nil (Then_n (W_ret ?_))
 refine ret_1 (v := (.int .i64 (cmpSt a.node b.node))) Try.results58 rfl ?_
 exact ⟨rfl, H15.gr⟩
set_option maxHeartbeats 1000000 in
theorem rise_Item (ha : SlH) (a : List ItemS) (kcmp : FuncId) (ccmp : Array Value) (f : ItemS → ItemS → Int) (w : World) (Sa : Sl (Old w) itemCh 38 ha a w) (Kcmp : callable Try.prog kcmp = true) (Ccmp : ∀ x ∈ a, ∀ y ∈ a, ∀ w1, Ext w w1 → Calls Try.prog kcmp (#[itemV x, itemV y] ++ ccmp) w1 (Ret fun v w2 => v = .int .i64 (f x y) ∧ Ext w1 w2)) :
    Calls Try.prog 57 #[(slV ha a), (.func (.func kcmp) #[] ccmp)] w (Ret fun v w' => v = (.bool (riseBy f a)) ∧ Ext w w') := by
 refine calls_W Try.func57 rfl Try.ntmps57 rfl ?_
 have H0 := Ctx.start w nob
 have H1 := H0.addSl _ Sa (fun b hb => ⟨hb, fun _ ho => (nomatch ho)⟩)
 have LSa := Sa.len
 refine W_seq (W_reg ?_)
 refine O_as (v := (.bool false)) rfl rfl ?_
 refine O_nil (Then_n (W_seq (W_seq (W_reg ?_))))
 refine O_as (v := (.int .i64 1)) rfl rfl ?_
 refine O_nil (Then_n (W_block ?_))
 refine W_loop (fun m2 e3 w4 => ∃ (k : Nat), m2 = a.length - k ∧ (1 ≤ k) ∧ (k ≤ max a.length 1) ∧ (∀ i, i < k → 1 ≤ i → f (nth a (i - 1)) (nth a i) < 0) ∧ ∃ eb5, e3 = envL [(0, (slV ha a)), (1, (.func (.func kcmp) #[] ccmp)), (5, (.int .i64 (k : Int)))] eb5 ∧ Ctx w nob w4 [] [slI (Old w) itemCh 38 ha a]) _ ⟨1, rfl, (by omega), (by omega), (fun i h1 h2 => by omega), _, envL_self ⟨rfl, rfl, rfl, trivial⟩, H1⟩ ?_
 rintro m2 _ w4 ⟨k, rfl, h1, hk, hn, eb5, rfl, H6⟩
 refine W_seq (W_seq (W_reg ?_))
 refine O_mv (v := (.int .i64 (k : Int))) rfl rfl (O_mv (v := (slV ha a)) rfl rfl ?_)
 refine O_v rfl (R_len_slice (a := ha.a) (n := a.length) (c := ha.c) Try.underlying39 rfl ?_)
 refine O_v rfl (R_cmp (a := (k : Int)) (b := (a.length : Int)) (r := (decide ((k : Int) < (a.length : Int)))) rfl rfl rfl ?_)
 refine O_nil (Then_n ?_)
 refine W_cond rfl (fun hc7 => ?_) (fun hc7 => ?_)
 ·have hc7 := (of_decide_eq_true hc7)
  refine W_skip (Then_n (W_seq (W_block (W_seq ?_))))
  refine W_rgd TryMixed [(0, .q 0), (1, .q 0), (2, .q 0), (3, .q 0), (4, .q 0), (5, .q 0), (6, .q 0), (7, .q 0), (8, .q 0), (9, .q 0), (10, .q 0), (11, .q 0)] (by kernel_rfl) ?_
  refine Lx_mv (v := (.func (.func kcmp) #[] ccmp)) rfl rfl rfl (Lx_mv (v := (slV ha a)) rfl rfl rfl (Lx_mv (v := (.int .i64 (k : Int))) rfl rfl rfl (Lx_q rfl rfl _ (fun v14 hv15 => R_arith (a := (k : Int)) (b := 1) (r0 := (k : Int) - 1) (r := ((k - 1 : Nat) : Int)) rfl rfl rfl (wrapP _ (by omega) (by omega)) qk) ?_)))
  refine Lx_q rfl rfl _ (fun v16 hv17 => R_index_pure (H6.sl 0 rfl) (n := a.length) rfl (j := ((k - 1 : Nat) : Int)) (oo := (ha.o + (k - 1) * 38)) Try.underlying39 Try.sizeOf49 rfl rfl (by omega) (by omega) rfl qk) (Lx_q rfl rfl _ (fun v18 hv19 => R_loadA (cs := [[(.int .i64 (((nth a (k - 1)).node).T))], [(.int .i64 (((nth a (k - 1)).node).R))], [(.int .i64 (((nth a (k - 1)).tm).T))], [(.int .i64 (((nth a (k - 1)).tm).R))], [(.string ((nth a (k - 1)).name))], (idCells ((nth a (k - 1)).sub)), [(slV ((nth a (k - 1)).hh) ((nth a (k - 1)).heads))]]) Try.isAgg49 Try.sizeOf49 rfl rfl ((Sl.elem ((H6.ext hv19).sl 0 rfl) (i := (k - 1)) (by omega) rfl).chunks 0 7 0 (ha.o + (k - 1) * 38) _ rfl rfl rfl) qk) (Lx_mv (v := (slV ha a)) rfl rfl rfl (Lx_mv (v := (.int .i64 (k : Int))) rfl rfl rfl ?_)))
  refine Lx_q rfl rfl _ (fun v24 hv25 => R_index_pure (H6.sl 0 rfl) (n := a.length) rfl (j := (k : Int)) (oo := (ha.o + k * 38)) Try.underlying39 Try.sizeOf49 rfl rfl (by omega) (by omega) rfl qk) (Lx_q rfl rfl _ (fun v26 hv27 => R_loadA (cs := [[(.int .i64 (((nth a k).node).T))], [(.int .i64 (((nth a k).node).R))], [(.int .i64 (((nth a k).tm).T))], [(.int .i64 (((nth a k).tm).R))], [(.string ((nth a k).name))], (idCells ((nth a k).sub)), [(slV ((nth a k).hh) ((nth a k).heads))]]) Try.isAgg49 Try.sizeOf49 rfl rfl ((Sl.elem ((H6.ext hv27).sl 0 rfl) (i := k) (by omega) rfl).chunks 0 7 0 (ha.o + k * 38) _ rfl rfl rfl) qk) (Lx_q rfl rfl (.int .i64 (f (nth a (k - 1)) (nth a k))) (fun v28 hv29 => R_callV (vs := [(aggOf (itemCh (nth a (k - 1)))), (aggOf (itemCh (nth a k)))]) Kcmp rfl rfl (Ccmp _ (nth_mem (by omega)) _ (nth_mem (by omega)) v28 (H6.ext hv29).gr)) (Lx_q rfl rfl _ (fun v30 hv31 => R_cmp (a := f (nth a (k - 1)) (nth a k)) (b := 0) (r := (decide (0 ≤ f (nth a (k - 1)) (nth a k)))) rfl rfl rfl qk) ?_)))
  refine Lx_nil (fun w32 hw33 => ?_)
  have H34 := H6.ext hw33
  refine Then_n ?_
  refine W_cond rfl (fun hc35 => ?_) (fun hc35 => ?_)
  ·have hc35 := (of_decide_eq_true hc35)
   refine W_seq (W_reg ?_)
   refine O_as (v := (.bool false)) rfl rfl ?_
   refine O_nil (Then_n (W_ret (Blk_r (Then_r (Then_r (Blk_r (Then_r ?_)))))))
   refine ret_1 (v := (.bool false)) Try.results57 rfl ?_
   exact ⟨(boolF (fun h => by have := h k (by omega) (by omega); omega)), H34.gr⟩
  ·have hc35 := (of_decide_eq_false hc35)
   refine W_skip (Blk_n (Then_n (W_reg ?_)))
   refine O_mv (v := (.int .i64 (k : Int))) rfl rfl ?_
   refine O_v rfl (R_arith (a := (k : Int)) (b := 1) (r0 := (k : Int) + 1) (r := ((k + 1 : Nat) : Int)) rfl rfl rfl (wrapN _ (by omega)) ?_)
   refine O_as (v := (.int .i64 ((k + 1 : Nat) : Int))) rfl rfl ?_
   refine O_nil (Then_n ?_)
   refine ⟨_, ?_, (k + 1), rfl, (by omega), (by omega), (rise_succ hn (by omega)), _, envL_self ⟨rfl, rfl, rfl, trivial⟩, H34⟩
   omega
 ·have hc7 := (of_decide_eq_false hc7)
  refine W_exit (Then_x (Then_x (Blk_x (Then_n (W_seq (W_reg ?_))))))
  refine O_as (v := (.bool true)) rfl rfl ?_
  refine O_nil (Then_n (W_ret ?_))
  refine ret_1 (v := (.bool true)) Try.results57 rfl ?_
  exact ⟨(boolT (fun i h1 h2 => hn i (by omega) h2)), H6.gr⟩
end Go.Proofs.Ythjdhfoeckfmbaa
namespace Go.Proofs.Ythjdhfoeckfmbaa
open Go
set_option maxRecDepth 100000
set_option linter.unusedVariables false
set_option linter.unusedSimpArgs false
set_option linter.unusedSectionVars false
theorem cF54 : callable Try.prog 54 = true := by kernel_rfl
theorem cF55 : callable Try.prog 55 = true := by kernel_rfl
theorem cF57 : callable Try.prog 57 = true := by kernel_rfl
theorem cF58 : callable Try.prog 58 = true := by kernel_rfl
set_option maxHeartbeats 1000000 in
theorem obj_rightDir (hitems : SlH) (items : List ItemS) (w : World) (Sitems : Sl (Old w) itemCh 38 hitems items w) (Ditems_heads : ∀ x ∈ items, Sl (Old w) headCh 34 x.hh x.heads w) :
    Calls Try.prog 29 #[(slV hitems items)] w (Ret fun v w' => v = (.bool (dirOk items)) ∧ Ext w w') := by
 refine calls_W Try.func29 rfl Try.ntmps29 rfl ?_
 have H0 := Ctx.start w nob
 have H1 := H0.addSl _ Sitems (fun b hb => ⟨hb, fun _ ho => (nomatch ho)⟩)
 have LSitems := Sitems.len
 have H2 := H1.addImm' (deepI (Old w) headCh 34 (fun x : ItemS => x.hh) (fun x : ItemS => x.heads) items) Ditems_heads (fun b hb => ⟨hb, fun _ ho => (nomatch ho)⟩)
 refine W_seq (W_reg ?_)
 refine O_as (v := (.bool false)) rfl rfl ?_
 refine O_nil (Then_n (W_seq ?_))
 refine W_rg [(0, .q 0), (1, .q 0), (2, .q 0), (3, .q 0), (4, .q 0), (5, .q 0), (6, .q 0), (7, .q 0), (8, .q 0), (9, .q 0), (10, .q 0), (11, .q 0), (12, .q 0)] (by kernel_rfl) ?_
 refine Lx_mv (v := (slV hitems items)) rfl rfl rfl (Lx_q rfl rfl _ (fun v5 hv6 => R_len_slice (a := hitems.a) (n := items.length) (c := hitems.c) Try.underlying39 rfl qk) (Lx_q rfl rfl _ (fun v7 hv8 => R_cmp (a := (items.length : Int)) (b := 1000) (r := (decide ((items.length : Int) ≤ 1000))) rfl rfl rfl qk) (Lx_mv (v := (.bool (decide ((items.length : Int) ≤ 1000)))) rfl rfl rfl ?_)))
 refine Lx_qt rfl rfl rfl rfl rfl _ (fun hA v11 hv12 => R_move (v := (slV hitems items)) rfl qk) (Lx_qt rfl rfl rfl rfl rfl (.bool (items.any (fun (x : ItemS) => !itemOkS x))) (fun hA v13 hv14 => R_callL (vs := [(slV hitems items), (.func (.func 55) #[] #[])]) cF54 rfl (lst2 (gv_t hA) rfl) (ContainsFunc_Item hitems items 55 #[] (fun (x : ItemS) => !itemOkS x) v13 ((H2.ext hv14).slOld 1 rfl) cF55 (fun x hx w1 he => callsCap0 (rightDir_1 x w1 (((H2.ext hv14).deepOld 0 rfl _ hx).ext he))))) (Lx_qt rfl rfl rfl rfl rfl _ (fun hA v15 hv16 => R_not (gv_t hA) qk) (Lx_q rfl rfl _ (fun v17 hv18 => R_pick rfl pk_and qk) ?_)))
 refine Lx_mv (v := (.bool ((decide ((items.length : Int) ≤ 1000)) && (!(items.any (fun (x : ItemS) => !itemOkS x)))))) rfl rfl rfl (Lx_qt rfl rfl rfl rfl rfl _ (fun hA v21 hv22 => R_move (v := (slV hitems items)) rfl qk) (Lx_qt rfl rfl rfl rfl rfl (.bool (riseBy (fun (a b : ItemS) => cmpSt a.node b.node) items)) (fun hA v23 hv24 => R_callL (vs := [(slV hitems items), (.func (.func 58) #[] #[])]) cF57 rfl (lst2 (gv_t hA) rfl) (rise_Item hitems items 58 #[] (fun (a b : ItemS) => cmpSt a.node b.node) v23 ((H2.ext hv24).slOld 1 rfl) cF58 (fun x hx y hy w1 he => callsCap0 (rightDir_2 x y w1 (((H2.ext hv24).deepOld 0 rfl _ hx).ext he) (((H2.ext hv24).deepOld 0 rfl _ hy).ext he))))) (Lx_q rfl rfl _ (fun v25 hv26 => R_pick rfl pk_and qk) ?_)))
 refine Lx_q rfl rfl _ (fun v27 hv28 => R_assign (v := (.bool (((decide ((items.length : Int) ≤ 1000)) && (!(items.any (fun (x : ItemS) => !itemOkS x)))) && (riseBy (fun (a b : ItemS) => cmpSt a.node b.node) items)))) rfl qk) ?_
 refine Lx_nil (fun w29 hw30 => ?_)
 have H31 := H2.ext hw30
 refine Then_n (W_ret ?_)
 refine ret_1 (v := (.bool (((decide ((items.length : Int) ≤ 1000)) && (!(items.any (fun (x : ItemS) => !itemOkS x)))) && (riseBy (fun (a b : ItemS) => cmpSt a.node b.node) items)))) Try.results29 rfl ?_
 exact ⟨dirOk_e, H31.gr⟩
theorem cF27 : callable Try.prog 27 = true := by kernel_rfl
theorem cF29 : callable Try.prog 29 = true := by kernel_rfl
set_option maxHeartbeats 2000000 in
theorem obj_Dir (hb : SlH) (b : List UInt8) (w : World) (Sb : Sl (Old w) encB 1 hb b w) (hl : b.length ≤ 140737488355328) :
    Calls Try.prog 10 #[(slV hb b)] w (Ret fun v w' => ∃ (h : SlH) (l : List ItemS) (S : Nat → Prop) (e : Int), v = .tuple #[slV h l, (.int .i64 e)] ∧ Ext w w' ∧ OwnS w.heap.size 49 38 itemCh h l w' ∧ (∀ b, S b → w.heap.size ≤ b ∧ b < w'.heap.size ∧ (slV h l).ownBlock ≠ some b) ∧ (∀ x ∈ l, Sl S headCh 34 x.hh x.heads w') ∧ (deepW S 51 34 (fun x : ItemS => x.hh) (fun x : ItemS => x.heads.length) l).p w' ∧ ((l.map ItemS.core, e) = dirOf b)) := by
 refine calls_W Try.func10 rfl Try.ntmps10 rfl ?_
 have H0 := Ctx.start w nob
 have H1 := H0.addSl _ Sb (fun b hb => ⟨hb, fun _ ho => (nomatch ho)⟩)
 have LSb := Sb.len
 refine W_seq (W_reg ?_)
 refine O_as (v := (.slice none 0 0)) rfl rfl (O_as (v := (.int .i64 0)) rfl rfl ?_)
 refine O_nil (Then_n (W_seq (W_reg ?_)))
 refine O_mv (v := (slV hb b)) rfl rfl ?_
 refine O_v rfl (R_callL (vs := [(slV hb b), (.int .u8 2)]) cF22 rfl rfl ((obj_open hb b 2 w (H1.slOld 0 rfl) (by omega)).ret ?_))
 rintro _ w5 ⟨b2, r3, S4, rfl, hx6, hb7, hS8, hQ9, hr10⟩
 have H11 := H1.addRd hx6 hb7 hS8 hQ9
 refine O_as (v := (.pointer (some ⟨b2, 0, none⟩))) rfl rfl ?_
 refine O_nil (Then_n (W_seq (W_reg ?_)))
 refine O_as (v := (.slice none 0 0)) rfl rfl ?_
 refine O_nil (Then_n (W_seq (W_seq (W_reg ?_))))
 refine O_mv (v := (.pointer (some ⟨b2, 0, none⟩))) rfl rfl ?_
 refine O_v rfl (R_callL (vs := [(.pointer (some ⟨b2, 0, none⟩)), (.int .i64 1000)]) cF26 rfl rfl ((Reader_Num b2 r3 S4 (openSt b 2) 1000 w5 ((H11.pick (B' := [boxR b2 92 (rdCh r3)]) (I' := [slI S4 encB 1 r3.bh r3.b]) [0] (by decide) rfl (List.forall_mem_cons.2 ⟨List.mem_of_getElem? (i := 0) rfl, fun _ h => (nomatch h)⟩)).rdStart) hr10).ret ?_))
 rintro _ w13 ⟨r12, rfl, hg14, hQ15, hr16⟩
 have H17 := H11.rdUpd (r := r3) 0 0 rfl rfl hg14 hQ15
 refine O_mv (v := (.int .i64 0)) rfl rfl ?_
 refine O_nil (Then_n (W_block ?_))
 have H18 := H17.addNil 49 38 itemCh
 have H19 := H18.deepNil headCh 34 (fun x : ItemS => x.hh) (fun x : ItemS => x.heads)
 have H20 := H19.deepWNil 51 34 (fun x : ItemS => x.hh) (fun x : ItemS => x.heads.length)
 refine W_loop (fun m22 e23 w24 => ∃ (k : Nat), ∃ (acc : List ItemS), ∃ (S : Nat → Prop), ∃ (rr : RdS), ∃ (rq : List UInt8 × Bool), ∃ (h21 : SlH), m22 = (rdNum (openSt b 2) 1000).1 - k ∧ (k ≤ (rdNum (openSt b 2) 1000).1) ∧ ((rdNum (openSt b 2) 1000).1 ≤ 1000) ∧ (acc.length ≤ k) ∧ (∀ b, S b → w.heap.size ≤ b) ∧ (rr.st = rq) ∧ (rdItems ((rdNum (openSt b 2) 1000).1 - k) (acc.map ItemS.core) rq = rdItems (rdNum (openSt b 2) 1000).1 [] (rdNum (openSt b 2) 1000).2) ∧ ∃ eb25, e23 = envL [(2, (.slice none 0 0)), (3, (.int .i64 0)), (4, (.pointer (some ⟨b2, 0, none⟩))), (5, (slV h21 acc)), (9, (.int .i64 (((rdNum (openSt b 2) 1000).1) : Int))), (10, (.int .i64 (k : Int)))] eb25 ∧ Ctx w nob w24 [rowR 49 38 itemCh h21 acc, boxR b2 92 [[(slV rr.bh rr.b)], [(.bool rr.bad)]]] [deepW S 51 34 (fun x : ItemS => x.hh) (fun x : ItemS => x.heads.length) acc, deepI S headCh 34 (fun x : ItemS => x.hh) (fun x : ItemS => x.heads) acc, slI S4 encB 1 rr.bh rr.b, slI (Old w) encB 1 hb b]) _ ⟨0, [], nob, r12, ((rdNum (openSt b 2) 1000).2), nilH, rfl, (by omega), (rdNum_le _ (by decide)), (by simp), (fun _ h => h.elim), hr16, rfl, _, envL_self ⟨rfl, rfl, rfl, rfl, rfl, rfl, trivial⟩, H20⟩ ?_
 rintro m22 _ w24 ⟨k, acc, S, rr, rq, h21, rfl, hk, hm, hal, hS, hrr, hgo, eb25, rfl, H26⟩
 refine W_seq (W_reg ?_)
 refine O_v rfl (R_cmp (a := (k : Int)) (b := (((rdNum (openSt b 2) 1000).1) : Int)) (r := (decide ((k : Int) < (((rdNum (openSt b 2) 1000).1) : Int)))) rfl rfl rfl ?_)
 refine O_nil (Then_n (W_seq ?_))
 refine W_cond rfl (fun hc27 => ?_) (fun hc27 => ?_)
 ·have hc27 := (of_decide_eq_true hc27)
  refine W_skip (Then_n (W_seq (W_block (W_seq (W_reg ?_)))))
  refine O_mv (v := (slV h21 acc)) rfl rfl (O_mv (v := (.pointer (some ⟨b2, 0, none⟩))) rfl rfl ?_)
  refine O_v rfl (R_callL (vs := [(.pointer (some ⟨b2, 0, none⟩))]) cF27 rfl rfl ((obj_getItem b2 rr S4 rq w24 ((H26.pick (B' := [boxR b2 92 (rdCh rr)]) (I' := [slI S4 encB 1 rr.bh rr.b]) [1] (by decide) rfl (List.forall_mem_cons.2 ⟨List.mem_of_getElem? (i := 2) rfl, fun _ h => (nomatch h)⟩)).rdStart) hrr).ret ?_))
  rintro _ w29 ⟨r28, x34, rfl, hg30, hQ31, hr32, ho35, hx36⟩
  have H33 := H26.rdRow (r := rr) 1 2 rfl rfl hg30 hQ31 ho35
  refine O_v rfl (C_buildSliceL H33 (enc := itemCh) (val := itemV) ([x34] : List ItemS) Try.underlying39 Try.sizeOf49 Try.zeroValue49 rfl (by decide) (fun _ => rfl) (fun _ => rfl) rfl rfl (by decide) ?_)
  intro b37 w38 hb39 hx40 H41
  refine O_v rfl (C_append H41 2 rfl (bytes := 104) (l := acc) (ys := ([x34] : List ItemS)) Try.underlying39 rfl rfl rfl rfl rfl (by decide) rfl rfl (OwnS.sl (H41.getOwn 0 rfl) (fun _ => rfl)) (fun _ => rfl) (fun _ => rfl) (by simp only [List.length_append, List.length_cons, List.length_nil]; omega) (by decide) ?_)
  intro h42 w43 hg44 H45
  refine O_as (v := (slV h42 (acc ++ ([x34] : List ItemS)))) rfl rfl ?_
  refine O_nil (Then_n (W_seq (W_reg ?_)))
  refine O_mv (v := (.pointer (some ⟨b2, 0, none⟩))) rfl rfl ?_
  refine O_v rfl (R_callL (vs := [(.pointer (some ⟨b2, 0, none⟩))]) cF28 rfl rfl ((Reader_Good b2 r28 S4 ((rdItem rq).2) w43 ((H45.pick (B' := [boxR b2 92 (rdCh r28)]) (I' := [slI S4 encB 1 r28.bh r28.b]) [3] (by decide) rfl (List.forall_mem_cons.2 ⟨List.mem_of_getElem? (i := 2) rfl, fun _ h => (nomatch h)⟩)).rdStart) hr32).ret ?_))
  rintro _ w47 ⟨r46, rfl, hg48, hQ49, hr50⟩
  have H51 := H45.rdUpd (r := r28) 3 2 rfl rfl hg48 hQ49
  refine O_v rfl (R_not rfl ?_)
  refine O_nil (Then_n ?_)
  refine W_cond rfl (fun hc52 => ?_) (fun hc52 => ?_)
  ·have hc52 : (((rdItem rq).2).2) = true := (notF (notT hc52))
   have H53 := H51.freezeW 1 rfl (fun _ => rfl)
   have H54 := H53.deepSnoc 3 rfl 1 rfl (x34) rfl rfl
   have H55 := H54.deepWSnoc 3 rfl 1 rfl (x34) rfl rfl
   refine W_exit ?_
   refine Blk_o rfl ?_
   refine Then_x (Then_x (Blk_x (Then_n (W_seq (W_seq ?_)))))
   refine W_rgM (fun c => c = b2) (fun i => if i == 1 then 1 else 0) [(0, .q 2), (1, .c 1), (2, .q 2), (3, .q 2), (4, .q 2), (5, .q 0), (6, .q 2), (7, .q 2)] (by kernel_rfl) ?_
   refine Lx_mv (v := (.pointer (some ⟨b2, 0, none⟩))) rfl rfl rfl ?_
   refine Lx_c rfl rfl (fun w58 hw59 => ?_)
   have H60 := H55.ext hw59
   refine (R_callL (vs := [(.pointer (some ⟨b2, 0, none⟩))]) cF25 rfl rfl ((Reader_Done b2 r46 S4 ((rdItem rq).2) w58 ((H60.pick (B' := [boxR b2 92 (rdCh r46)]) (I' := [slI S4 encB 1 r46.bh r46.b]) [2] (by decide) rfl (List.forall_mem_cons.2 ⟨List.mem_of_getElem? (i := 6) rfl, fun _ h => (nomatch h)⟩)).rdStart) hr50).ret ?_))
   rintro _ w62 ⟨r61, rfl, hg63, hQ64, hr65⟩
   have H66 := H60.rdUpd (r := r46) 2 6 rfl rfl hg63 hQ64
   refine ⟨hg63, ?_⟩
   refine Lx_q rfl rfl _ (fun v67 hv68 => R_not rfl qk) (Lx_mv (v := (.bool (!(rdDone ((rdItem rq).2))))) rfl rfl rfl (Lx_qf rfl rfl rfl rfl rfl _ (fun hA v71 hv72 => R_move (v := (slV h42 (acc ++ ([x34] : List ItemS)))) rfl qk) (Lx_qf rfl rfl rfl rfl rfl (.bool (dirOk (acc ++ ([x34] : List ItemS)))) (fun hA v73 hv74 => R_callL (vs := [(slV h42 (acc ++ ([x34] : List ItemS)))]) cF29 rfl (lst1 (gv_t hA)) (obj_rightDir h42 (acc ++ ([x34] : List ItemS)) v73 ((H66.ext hv74).rowSl 1 rfl (fun _ => rfl)) ((H66.ext hv74).deepOld 1 rfl))) ?_)))
   refine Lx_qf rfl rfl rfl rfl rfl _ (fun hA v75 hv76 => R_not (gv_t hA) qk) (Lx_q rfl rfl _ (fun v77 hv78 => R_pick rfl pk_or qk) ?_)
   refine Lx_nil (fun w79 hw80 => ?_)
   have H81 := H66.ext hw80
   refine Then_n ?_
   refine W_cond rfl (fun hc82 => ?_) (fun hc82 => ?_)
   ·have hc82 : ((rdDone ((rdItem rq).2)) = false ∨ (dirOk (acc ++ ([x34] : List ItemS))) = false) := (Or.imp (fun h => (notT h)) (fun h => (notT h)) (orT hc82))
    refine W_seq (W_reg ?_)
    refine O_as (v := (.slice none 0 0)) rfl rfl (O_as (v := (.int .i64 20)) rfl rfl ?_)
    refine O_nil (Then_n (W_ret (Then_r ?_)))
    refine ret_2 (v := (.slice none 0 0)) (v' := (.int .i64 20)) Try.results10 rfl rfl ?_
    have H83 := H81.addNil 49 38 itemCh
    have H84 := H83.deepNil headCh 34 (fun x : ItemS => x.hh) (fun x : ItemS => x.heads)
    have H85 := H84.deepWNil 51 34 (fun x : ItemS => x.hh) (fun x : ItemS => x.heads.length)
    exact ⟨nilH, ([] : List ItemS), nob, 20, rfl, H85.gr, H85.retRow 0 rfl, H85.retDeep 0 rfl 1 rfl (fun _ h => h.elim), H85.getImm 1 rfl, H85.getImm 0 rfl, (dir_no (items_brk hgo (by omega) hx36 hc52) hc82)⟩
   ·have hc82 : ((rdDone ((rdItem rq).2)) = true ∧ (dirOk (acc ++ ([x34] : List ItemS))) = true) := (And.imp (fun h => (notF h)) (fun h => (notF h)) (orF hc82))
    refine W_skip (Then_n (W_seq (W_reg ?_)))
    refine O_mv (v := (slV h42 (acc ++ ([x34] : List ItemS)))) rfl rfl (O_as (v := (slV h42 (acc ++ ([x34] : List ItemS)))) rfl rfl (O_as (v := (.int .i64 0)) rfl rfl ?_))
    refine O_nil (Then_n (W_ret ?_))
    refine ret_2 (v := (slV h42 (acc ++ ([x34] : List ItemS)))) (v' := (.int .i64 0)) Try.results10 rfl rfl ?_
    exact ⟨h42, acc ++ ([x34] : List ItemS), (fun b => S b ∨ (fun z_ => (slV x34.hh x34.heads).ownBlock = some z_) b), 0, rfl, H81.gr, H81.retRow 1 rfl, H81.retDeep 1 rfl 1 rfl (fun b hb => hb.elim (hS b) (H51.newRow 1 rfl b)), H81.getImm 1 rfl, H81.getImm 0 rfl, (dir_yes (items_brk hgo (by omega) hx36 hc52) hc82)⟩
  ·have hc52 : (((rdItem rq).2).2) = false := (notT (notF hc52))
   refine W_skip (Blk_n (Then_n (W_reg ?_)))
   refine O_v rfl (R_arith (a := (k : Int)) (b := 1) (r0 := (k : Int) + 1) (r := ((k + 1 : Nat) : Int)) rfl rfl rfl (wrapN _ (by omega)) ?_)
   refine O_mv (v := (.int .i64 ((k + 1 : Nat) : Int))) rfl rfl ?_
   refine O_nil (Then_n ?_)
   have H86 := H51.freezeW 1 rfl (fun _ => rfl)
   have H87 := H86.deepSnoc 3 rfl 1 rfl (x34) rfl rfl
   have H88 := H87.deepWSnoc 3 rfl 1 rfl (x34) rfl rfl
   have H89 := H88.sub (List.Sublist.cons _ (List.Sublist.cons_cons _ (List.Sublist.cons_cons _ List.Sublist.slnil))) (List.forall_mem_cons.2 ⟨List.mem_of_getElem? (i := 0) rfl, List.forall_mem_cons.2 ⟨List.mem_of_getElem? (i := 1) rfl, List.forall_mem_cons.2 ⟨List.mem_of_getElem? (i := 6) rfl, List.forall_mem_cons.2 ⟨List.mem_of_getElem? (i := 7) rfl, memN⟩⟩⟩⟩)
   refine ⟨_, ?_, (k + 1), (acc ++ ([x34] : List ItemS)), (fun b => S b ∨ (fun z_ => (slV x34.hh x34.heads).ownBlock = some z_) b), r46, ((rdItem rq).2), h42, rfl, (by omega), hm, (by simp only [List.length_append, List.length_cons, List.length_nil]; omega), (fun b hb => hb.elim (hS b) (H51.newRow 1 rfl b)), hr50, (items_next hgo (by omega) hx36 hc52), _, envL_self ⟨rfl, rfl, rfl, rfl, rfl, rfl, trivial⟩, H89⟩
   omega
 ·have hc27 := (of_decide_eq_false hc27)
  refine W_exit (Then_x (Then_x (Blk_x (Then_n (W_seq (W_seq ?_))))))
  refine W_rgM (fun c => c = b2) (fun i => if i == 1 then 1 else 0) [(0, .q 2), (1, .c 1), (2, .q 2), (3, .q 2), (4, .q 2), (5, .q 0), (6, .q 2), (7, .q 2)] (by kernel_rfl) ?_
  refine Lx_mv (v := (.pointer (some ⟨b2, 0, none⟩))) rfl rfl rfl ?_
  refine Lx_c rfl rfl (fun w92 hw93 => ?_)
  have H94 := H26.ext hw93
  refine (R_callL (vs := [(.pointer (some ⟨b2, 0, none⟩))]) cF25 rfl rfl ((Reader_Done b2 rr S4 rq w92 ((H94.pick (B' := [boxR b2 92 (rdCh rr)]) (I' := [slI S4 encB 1 rr.bh rr.b]) [1] (by decide) rfl (List.forall_mem_cons.2 ⟨List.mem_of_getElem? (i := 2) rfl, fun _ h => (nomatch h)⟩)).rdStart) hrr).ret ?_))
  rintro _ w96 ⟨r95, rfl, hg97, hQ98, hr99⟩
  have H100 := H94.rdUpd (r := rr) 1 2 rfl rfl hg97 hQ98
  refine ⟨hg97, ?_⟩
  refine Lx_q rfl rfl _ (fun v101 hv102 => R_not rfl qk) (Lx_mv (v := (.bool (!(rdDone rq)))) rfl rfl rfl (Lx_qf rfl rfl rfl rfl rfl _ (fun hA v105 hv106 => R_move (v := (slV h21 acc)) rfl qk) (Lx_qf rfl rfl rfl rfl rfl (.bool (dirOk acc)) (fun hA v107 hv108 => R_callL (vs := [(slV h21 acc)]) cF29 rfl (lst1 (gv_t hA)) (obj_rightDir h21 acc v107 ((H100.ext hv108).rowSl 0 rfl (fun _ => rfl)) ((H100.ext hv108).deepOld 1 rfl))) ?_)))
  refine Lx_qf rfl rfl rfl rfl rfl _ (fun hA v109 hv110 => R_not (gv_t hA) qk) (Lx_q rfl rfl _ (fun v111 hv112 => R_pick rfl pk_or qk) ?_)
  refine Lx_nil (fun w113 hw114 => ?_)
  have H115 := H100.ext hw114
  refine Then_n ?_
  refine W_cond rfl (fun hc116 => ?_) (fun hc116 => ?_)
  ·have hc116 : ((rdDone rq) = false ∨ (dirOk acc) = false) := (Or.imp (fun h => (notT h)) (fun h => (notT h)) (orT hc116))
   refine W_seq (W_reg ?_)
   refine O_as (v := (.slice none 0 0)) rfl rfl (O_as (v := (.int .i64 20)) rfl rfl ?_)
   refine O_nil (Then_n (W_ret (Then_r ?_)))
   refine ret_2 (v := (.slice none 0 0)) (v' := (.int .i64 20)) Try.results10 rfl rfl ?_
   have H117 := H115.addNil 49 38 itemCh
   have H118 := H117.deepNil headCh 34 (fun x : ItemS => x.hh) (fun x : ItemS => x.heads)
   have H119 := H118.deepWNil 51 34 (fun x : ItemS => x.hh) (fun x : ItemS => x.heads.length)
   exact ⟨nilH, ([] : List ItemS), nob, 20, rfl, H119.gr, H119.retRow 0 rfl, H119.retDeep 0 rfl 1 rfl (fun _ h => h.elim), H119.getImm 1 rfl, H119.getImm 0 rfl, (dir_no (items_end hgo (by omega)) hc116)⟩
  ·have hc116 : ((rdDone rq) = true ∧ (dirOk acc) = true) := (And.imp (fun h => (notF h)) (fun h => (notF h)) (orF hc116))
   refine W_skip (Then_n (W_seq (W_reg ?_)))
   refine O_mv (v := (slV h21 acc)) rfl rfl (O_as (v := (slV h21 acc)) rfl rfl (O_as (v := (.int .i64 0)) rfl rfl ?_))
   refine O_nil (Then_n (W_ret ?_))
   refine ret_2 (v := (slV h21 acc)) (v' := (.int .i64 0)) Try.results10 rfl rfl ?_
   exact ⟨h21, acc, S, 0, rfl, H115.gr, H115.retRow 0 rfl, H115.retDeep 0 rfl 1 rfl hS, H115.getImm 1 rfl, H115.getImm 0 rfl, (dir_yes (items_end hgo (by omega)) hc116)⟩
set_option maxHeartbeats 1000000 in
theorem obj_rightLabel (l : Label) (w : World) :
    Calls Try.prog 21 #[(aggOf (labelCh l))] w (Ret fun v w' => v = (.bool (labelOk l)) ∧ Ext w w') := by
 refine calls_W Try.func21 rfl Try.ntmps21 rfl ?_
 have H0 := Ctx.start w nob
 refine W_seq (W_reg ?_)
 refine O_v rfl (C_box H0 [(idCells l.target), [(.string l.name)], [(.string l.msg)]] rfl ?_)
 intro b1 w2 hb3 hx4 H5
 refine O_as (v := (.bool false)) rfl rfl ?_
 refine O_nil (Then_n (W_seq ?_))
 refine W_rg [(0, .q 0), (1, .q 0), (2, .q 0), (3, .q 0), (4, .q 0), (5, .q 0), (6, .q 0), (7, .q 0), (8, .q 0), (9, .q 0), (10, .q 0), (11, .q 0), (12, .q 0), (13, .q 0), (14, .q 0), (15, .q 0)] (by kernel_rfl) ?_
 refine Lx_q rfl rfl _ (fun v6 hv7 => R_fieldAddr (off := 0) (oo := 0) Try.underlying29 rfl rfl Try.sizeOf25 rfl rfl qk) (Lx_q rfl rfl _ (fun v8 hv9 => R_loadA (cs := [(idCells l.target)]) Try.isAgg25 Try.sizeOf25 rfl rfl ((H5.ext hv9).bx 0 rfl 0 1 0 0 _ rfl rfl rfl) qk) (Lx_q rfl rfl _ (fun v10 hv11 => R_buildL (vs := []) (v := aggOf [(idCells zeroId)]) rfl (fun _ => by kernel_rfl) qk) (Lx_q rfl rfl _ (fun v12 hv13 => R_nev (a := l.target) (b := zeroId) eqv_ID25 rfl Try.eqGuardType25 rfl rfl qk) ?_)))
 refine Lx_mv (v := (.bool (!(decide (l.target = zeroId))))) rfl rfl rfl (Lx_qt rfl rfl rfl rfl rfl _ (fun hA v16 hv17 => R_fieldAddr (off := 32) (oo := 32) Try.underlying29 rfl rfl Try.sizeOf9 rfl rfl qk) (Lx_qt rfl rfl rfl rfl rfl _ (fun hA v18 hv19 => R_load1 (v := (.string l.name)) Try.isAgg9 (gv_t hA) ((H5.ext hv19).bx 0 rfl 1 1 32 32 _ rfl rfl rfl) qk) (Lx_qt rfl rfl rfl rfl rfl (.bool (nameOk l.name)) (fun hA v20 hv21 => R_callL (vs := [(.string l.name)]) cF49 rfl (lst1 (gv_t hA)) (stamp_Name l.name v20 )) ?_)))
 refine Lx_q rfl rfl _ (fun v22 hv23 => R_pick rfl pk_and qk) (Lx_mv (v := (.bool ((!(decide (l.target = zeroId))) && (nameOk l.name)))) rfl rfl rfl (Lx_qt rfl rfl rfl rfl rfl _ (fun hA v26 hv27 => R_fieldAddr (off := 33) (oo := 33) Try.underlying29 rfl rfl Try.sizeOf9 rfl rfl qk) (Lx_qt rfl rfl rfl rfl rfl _ (fun hA v28 hv29 => R_load1 (v := (.string l.msg)) Try.isAgg9 (gv_t hA) ((H5.ext hv29).bx 0 rfl 2 1 33 33 _ rfl rfl rfl) qk) ?_)))
 refine Lx_qt rfl rfl rfl rfl rfl _ (fun hA v30 hv31 => R_len_string Try.underlying9 (gv_t hA) qk) (Lx_qt rfl rfl rfl rfl rfl _ (fun hA v32 hv33 => R_cmp (a := (l.msg.size : Int)) (b := 200) (r := (decide ((l.msg.size : Int) ≤ 200))) (gv_t hA) rfl rfl qk) (Lx_q rfl rfl _ (fun v34 hv35 => R_pick rfl pk_and qk) (Lx_q rfl rfl _ (fun v36 hv37 => R_assign (v := (.bool (((!(decide (l.target = zeroId))) && (nameOk l.name)) && (decide ((l.msg.size : Int) ≤ 200))))) rfl qk) ?_)))
 refine Lx_nil (fun w38 hw39 => ?_)
 have H40 := H5.ext hw39
 refine Then_n (W_ret ?_)
 refine ret_1 (v := (.bool (((!(decide (l.target = zeroId))) && (nameOk l.name)) && (decide ((l.msg.size : Int) ≤ 200))))) Try.results21 rfl ?_
 exact ⟨label_eq, H40.gr⟩
theorem cF21 : callable Try.prog 21 = true := by kernel_rfl
set_option maxHeartbeats 1000000 in
theorem obj_Label (hb : SlH) (b : List UInt8) (w : World) (Sb : Sl (Old w) encB 1 hb b w) (hl : b.length ≤ 140737488355328) :
    Calls Try.prog 9 #[(slV hb b)] w (Ret fun v w' => v = .tuple #[(aggOf (labelCh ((labelOf b).1))), (.int .i64 ((labelOf b).2))] ∧ Ext w w') := by
 refine calls_W Try.func9 rfl Try.ntmps9 rfl ?_
 have H0 := Ctx.start w nob
 have H1 := H0.addSl _ Sb (fun b hb => ⟨hb, fun _ ho => (nomatch ho)⟩)
 have LSb := Sb.len
 refine W_seq (W_reg ?_)
 refine O_v rfl (C_alloc H1 [(idCells zeroId), [(.string ByteArray.empty)], [(.string ByteArray.empty)]] Try.zeroValue29 ?_)
 intro b2 w3 hb4 hx5 H6
 refine O_as (v := (.int .i64 0)) rfl rfl ?_
 refine O_nil (Then_n (W_seq (W_reg ?_)))
 refine O_mv (v := (slV hb b)) rfl rfl ?_
 refine O_v rfl (R_callL (vs := [(slV hb b), (.int .u8 4)]) cF22 rfl rfl ((obj_open hb b 4 w3 (H6.slOld 0 rfl) (by omega)).ret ?_))
 rintro _ w10 ⟨b7, r8, S9, rfl, hx11, hb12, hS13, hQ14, hr15⟩
 have H16 := H6.addRd hx11 hb12 hS13 hQ14
 refine O_as (v := (.pointer (some ⟨b7, 0, none⟩))) rfl rfl ?_
 refine O_nil (Then_n (W_seq (W_reg ?_)))
 refine O_mv (v := (.pointer (some ⟨b7, 0, none⟩))) rfl rfl ?_
 refine O_v rfl (R_callL (vs := [(.pointer (some ⟨b7, 0, none⟩))]) cF23 rfl rfl ((Reader_Id b7 r8 S9 (openSt b 4) w10 ((H16.pick (B' := [boxR b7 92 (rdCh r8)]) (I' := [slI S9 encB 1 r8.bh r8.b]) [0] (by decide) rfl (List.forall_mem_cons.2 ⟨List.mem_of_getElem? (i := 0) rfl, fun _ h => (nomatch h)⟩)).rdStart) hr15).ret ?_))
 rintro _ w18 ⟨r17, rfl, hg19, hQ20, hr21⟩
 have H22 := H16.rdUpd (r := r8) 0 0 rfl rfl hg19 hQ20
 refine O_v rfl (R_buildL (vs := [(0, (aggOf (idCh ((rdId (openSt b 4)).1))))]) (v := aggOf [(idCells ((rdId (openSt b 4)).1)), [(.string ByteArray.empty)], [(.string ByteArray.empty)]]) rfl (fun _ => by kernel_rfl) ?_)
 refine O_v rfl (C_alloc H22 [(idCells zeroId), [(.string ByteArray.empty)], [(.string ByteArray.empty)]] Try.zeroValue29 ?_)
 intro b23 w24 hb25 hx26 H27
 refine O_u (C_storeW H27 0 rfl (sub := [(idCells ((rdId (openSt b 4)).1)), [(.string ByteArray.empty)], [(.string ByteArray.empty)]]) Try.sizeOf29 rfl rfl rfl rfl rfl ?_)
 intro w28 hg29 H30
 refine O_nil (Then_n (W_seq (W_reg ?_)))
 refine O_mv (v := (.pointer (some ⟨b7, 0, none⟩))) rfl rfl ?_
 refine O_v rfl (R_callL (vs := [(.pointer (some ⟨b7, 0, none⟩)), (.int .i64 60)]) cF24 rfl rfl ((Reader_Text b7 r17 S9 ((rdId (openSt b 4)).2) 60 w28 ((H30.pick (B' := [boxR b7 92 (rdCh r17)]) (I' := [slI S9 encB 1 r17.bh r17.b]) [1] (by decide) rfl (List.forall_mem_cons.2 ⟨List.mem_of_getElem? (i := 0) rfl, fun _ h => (nomatch h)⟩)).rdStart) hr21).ret ?_))
 rintro _ w32 ⟨r31, rfl, hg33, hQ34, hr35⟩
 have H36 := H30.rdUpd (r := r17) 1 0 rfl rfl hg33 hQ34
 refine O_v rfl (R_fieldAddr (off := 32) (oo := 32) Try.underlying29 rfl rfl Try.sizeOf9 rfl rfl ?_)
 refine O_u (C_store1 H36 0 rfl 1 (v := (.string ((rdText ((rdId (openSt b 4)).2) 60).1))) [(idCells ((rdId (openSt b 4)).1)), [(.string ((rdText ((rdId (openSt b 4)).2) 60).1))], [(.string ByteArray.empty)]] Try.sizeOf9 rfl rfl rfl rfl rfl rfl rfl ?_)
 intro w37 hg38 H39
 refine O_nil (Then_n (W_seq (W_reg ?_)))
 refine O_mv (v := (.pointer (some ⟨b7, 0, none⟩))) rfl rfl ?_
 refine O_v rfl (R_callL (vs := [(.pointer (some ⟨b7, 0, none⟩)), (.int .i64 200)]) cF24 rfl rfl ((Reader_Text b7 r31 S9 ((rdText ((rdId (openSt b 4)).2) 60).2) 200 w37 ((H39.pick (B' := [boxR b7 92 (rdCh r31)]) (I' := [slI S9 encB 1 r31.bh r31.b]) [1] (by decide) rfl (List.forall_mem_cons.2 ⟨List.mem_of_getElem? (i := 0) rfl, fun _ h => (nomatch h)⟩)).rdStart) hr35).ret ?_))
 rintro _ w41 ⟨r40, rfl, hg42, hQ43, hr44⟩
 have H45 := H39.rdUpd (r := r31) 1 0 rfl rfl hg42 hQ43
 refine O_v rfl (R_fieldAddr (off := 33) (oo := 33) Try.underlying29 rfl rfl Try.sizeOf9 rfl rfl ?_)
 refine O_u (C_store1 H45 0 rfl 2 (v := (.string ((rdText ((rdText ((rdId (openSt b 4)).2) 60).2) 200).1))) [(idCells ((rdId (openSt b 4)).1)), [(.string ((rdText ((rdId (openSt b 4)).2) 60).1))], [(.string ((rdText ((rdText ((rdId (openSt b 4)).2) 60).2) 200).1))]] Try.sizeOf9 rfl rfl rfl rfl rfl rfl rfl ?_)
 intro w46 hg47 H48
 refine O_nil (Then_n (W_seq (W_seq ?_)))
 refine W_rgM (fun c => c = b7) (fun i => if i == 1 then 1 else 0) [(0, .q 2), (1, .c 1), (2, .q 2), (3, .q 2), (4, .q 1), (5, .q 0), (6, .q 2), (7, .q 2)] (by kernel_rfl) ?_
 refine Lx_mv (v := (.pointer (some ⟨b7, 0, none⟩))) rfl rfl rfl ?_
 refine Lx_c rfl rfl (fun w51 hw52 => ?_)
 have H53 := H48.ext hw52
 refine (R_callL (vs := [(.pointer (some ⟨b7, 0, none⟩))]) cF25 rfl rfl ((Reader_Done b7 r40 S9 ((rdText ((rdText ((rdId (openSt b 4)).2) 60).2) 200).2) w51 ((H53.pick (B' := [boxR b7 92 (rdCh r40)]) (I' := [slI S9 encB 1 r40.bh r40.b]) [1] (by decide) rfl (List.forall_mem_cons.2 ⟨List.mem_of_getElem? (i := 0) rfl, fun _ h => (nomatch h)⟩)).rdStart) hr44).ret ?_))
 rintro _ w55 ⟨r54, rfl, hg56, hQ57, hr58⟩
 have H59 := H53.rdUpd (r := r40) 1 0 rfl rfl hg56 hQ57
 refine ⟨hg56, ?_⟩
 refine Lx_q rfl rfl _ (fun v60 hv61 => R_not rfl qk) (Lx_mv (v := (.bool (!(rdDone ((rdText ((rdText ((rdId (openSt b 4)).2) 60).2) 200).2))))) rfl rfl rfl (Lx_qf rfl rfl rfl rfl rfl _ (fun hA v64 hv65 => R_loadA (cs := [(idCells ((rdId (openSt b 4)).1)), [(.string ((rdText ((rdId (openSt b 4)).2) 60).1))], [(.string ((rdText ((rdText ((rdId (openSt b 4)).2) 60).2) 200).1))]]) Try.isAgg29 Try.sizeOf29 rfl rfl ((boxR_at (H59.ownGr 0 1 (by decide) rfl rfl hv65 (fun _ h => congrArg some h.symm))).chunks 0 3 0 0 _ rfl rfl rfl) qk) (Lx_qf rfl rfl rfl rfl rfl (.bool (labelOk ({ target := (rdId (openSt b 4)).1, name := (rdText ((rdId (openSt b 4)).2) 60).1, msg := (rdText ((rdText ((rdId (openSt b 4)).2) 60).2) 200).1 } : Label))) (fun hA v66 hv67 => R_callL (vs := [(aggOf [(idCells ((rdId (openSt b 4)).1)), [(.string ((rdText ((rdId (openSt b 4)).2) 60).1))], [(.string ((rdText ((rdText ((rdId (openSt b 4)).2) 60).2) 200).1))]])]) cF21 rfl (lst1 (gv_t hA)) (obj_rightLabel ({ target := (rdId (openSt b 4)).1, name := (rdText ((rdId (openSt b 4)).2) 60).1, msg := (rdText ((rdText ((rdId (openSt b 4)).2) 60).2) 200).1 } : Label) v66 )) ?_)))
 refine Lx_qf rfl rfl rfl rfl rfl _ (fun hA v68 hv69 => R_not (gv_t hA) qk) (Lx_q rfl rfl _ (fun v70 hv71 => R_pick rfl pk_or qk) ?_)
 refine Lx_nil (fun w72 hw73 => ?_)
 have H74 := H59.ext hw73
 refine Then_n ?_
 refine W_cond rfl (fun hc75 => ?_) (fun hc75 => ?_)
 ·have hc75 : ((rdDone ((rdText ((rdText ((rdId (openSt b 4)).2) 60).2) 200).2)) = false ∨ (labelOk ({ target := (rdId (openSt b 4)).1, name := (rdText ((rdId (openSt b 4)).2) 60).1, msg := (rdText ((rdText ((rdId (openSt b 4)).2) 60).2) 200).1 } : Label)) = false) := (Or.imp (fun h => (notT h)) (fun h => (notT h)) (orT hc75))
  refine W_seq (W_reg ?_)
  refine O_v rfl (R_buildL (vs := []) (v := aggOf [(idCells zeroId), [(.string ByteArray.empty)], [(.string ByteArray.empty)]]) rfl (fun _ => by kernel_rfl) ?_)
  refine O_u (C_storeW H74 2 rfl (sub := [(idCells zeroId), [(.string ByteArray.empty)], [(.string ByteArray.empty)]]) Try.sizeOf29 rfl rfl rfl rfl rfl ?_)
  intro w76 hg77 H78
  refine O_as (v := (.int .i64 20)) rfl rfl ?_
  refine O_nil (Then_n (W_ret (Then_r ?_)))
  refine ret_ct (v := (.int .i64 20)) Try.results9 (inMem (cs := [(idCells zeroId), [(.string ByteArray.empty)], [(.string ByteArray.empty)]]) rfl Try.isAgg29 Try.sizeOf29 rfl (boxR_at (H78.getOwn 2 rfl))) rfl ?_
  exact ⟨(labelOf_f (by assumption)), H78.gr⟩
 ·have hc75 : ((rdDone ((rdText ((rdText ((rdId (openSt b 4)).2) 60).2) 200).2)) = true ∧ (labelOk ({ target := (rdId (openSt b 4)).1, name := (rdText ((rdId (openSt b 4)).2) 60).1, msg := (rdText ((rdText ((rdId (openSt b 4)).2) 60).2) 200).1 } : Label)) = true) := (And.imp (fun h => (notF h)) (fun h => (notF h)) (orF hc75))
  refine W_skip (Then_n (W_seq (W_reg ?_)))
  refine O_v rfl (R_loadA (cs := [(idCells ((rdId (openSt b 4)).1)), [(.string ((rdText ((rdId (openSt b 4)).2) 60).1))], [(.string ((rdText ((rdText ((rdId (openSt b 4)).2) 60).2) 200).1))]]) Try.isAgg29 Try.sizeOf29 rfl rfl (H74.bx 0 rfl 0 3 0 0 _ rfl rfl rfl) ?_)
  refine O_u (C_storeW H74 2 rfl (sub := [(idCells ((rdId (openSt b 4)).1)), [(.string ((rdText ((rdId (openSt b 4)).2) 60).1))], [(.string ((rdText ((rdText ((rdId (openSt b 4)).2) 60).2) 200).1))]]) Try.sizeOf29 rfl rfl rfl rfl rfl ?_)
  intro w79 hg80 H81
  refine O_as (v := (.int .i64 0)) rfl rfl ?_
  refine O_nil (Then_n (W_ret ?_))
  refine ret_ct (v := (.int .i64 0)) Try.results9 (inMem (cs := [(idCells ((rdId (openSt b 4)).1)), [(.string ((rdText ((rdId (openSt b 4)).2) 60).1))], [(.string ((rdText ((rdText ((rdId (openSt b 4)).2) 60).2) 200).1))]]) rfl Try.isAgg29 Try.sizeOf29 rfl (boxR_at (H81.getOwn 2 rfl))) rfl ?_
  exact ⟨(labelOf_t (by assumption)), H81.gr⟩
theorem cF9 : callable Try.prog 9 = true := by kernel_rfl
theorem cF10 : callable Try.prog 10 = true := by kernel_rfl
theorem cF11 : callable Try.prog 11 = true := by kernel_rfl
theorem cF13 : callable Try.prog 13 = true := by kernel_rfl
set_option maxHeartbeats 2000000 in
theorem obj_Kind (hb : SlH) (b : List UInt8) (w : World) (Sb : Sl (Old w) encB 1 hb b w) (hl : b.length ≤ 140737488355328) :
    Calls Try.prog 8 #[(slV hb b)] w (Ret fun v w' => v = (.int .i64 (kindOf b)) ∧ Ext w w') := by
 refine calls_W Try.func8 rfl Try.ntmps8 rfl ?_
 have H0 := Ctx.start w nob
 have H1 := H0.addSl _ Sb (fun b hb => ⟨hb, fun _ ho => (nomatch ho)⟩)
 have LSb := Sb.len
 refine W_seq (W_reg ?_)
 refine O_as (v := (.int .i64 0)) rfl rfl ?_
 refine O_nil (Then_n (W_seq (W_seq (W_reg ?_))))
 refine O_mv (v := (slV hb b)) rfl rfl ?_
 refine O_v rfl (R_len_slice (a := hb.a) (n := b.length) (c := hb.c) Try.underlying31 rfl ?_)
 refine O_v rfl (R_cmp (a := (b.length : Int)) (b := 0) (r := (decide ((b.length : Int) = 0))) rfl rfl rfl ?_)
 refine O_nil (Then_n ?_)
 refine W_cond rfl (fun hc2 => ?_) (fun hc2 => ?_)
 ·have hc2 := (of_decide_eq_true hc2)
  refine W_seq (W_reg ?_)
  refine O_as (v := (.int .i64 0)) rfl rfl ?_
  refine O_nil (Then_n (W_ret (Then_r ?_)))
  refine ret_1 (v := (.int .i64 0)) Try.results8 rfl ?_
  exact ⟨(by rw [kind_0 (by assumption)]), H1.gr⟩
 ·have hc2 := (of_decide_eq_false hc2)
  refine W_skip (Then_n (W_seq (W_reg ?_)))
  refine O_as (v := (.int .i64 20)) rfl rfl ?_
  refine O_nil (Then_n (W_seq (W_seq (W_reg ?_))))
  refine O_mv (v := (slV hb b)) rfl rfl ?_
  refine O_v rfl (R_index_pure (H1.sl 0 rfl) (n := b.length) rfl (j := 0) (oo := (hb.o + 0 * 1)) Try.underlying31 Try.sizeOf5 rfl rfl (by omega) (by omega) rfl ?_)
  refine O_v rfl (R_load1 (v := (.int .u8 ((nth b 0).toNat : Int))) Try.isAgg5 rfl ((Sl.elem (H1.sl 0 rfl) (i := 0) (by omega) rfl).chunks 0 1 0 (hb.o + 0 * 1) _ rfl rfl rfl) ?_)
  refine O_nil (Then_n (W_block (W_seq (W_reg ?_))))
  refine O_v rfl (R_cmp (a := ((nth b 0).toNat : Int)) (b := 1) (r := (decide (((nth b 0).toNat : Int) = 1))) rfl rfl rfl ?_)
  refine O_as (v := (.bool (decide (((nth b 0).toNat : Int) = 1)))) rfl rfl ?_
  refine O_nil (Then_n ?_)
  refine W_cond rfl (fun hc3 => ?_) (fun hc3 => ?_)
  ·have hc3 := (of_decide_eq_true hc3)
   refine W_reg ?_
   refine O_mv (v := (slV hb b)) rfl rfl ?_
   refine O_v rfl (R_callL (vs := [(slV hb b)]) cF11 rfl rfl ((obj_Blob hb b w (H1.slOld 0 rfl)).ret ?_))
   rintro _ w5 ⟨h4, rfl, hx6, ho7⟩
   have H8 := H1.addRow hx6 ho7
   refine O_mv (v := (.tuple #[(slV h4 (blobB b)), (.int .i64 (blobE b))])) rfl rfl (O_ex (v := (slV h4 (blobB b))) rfl rfl rfl (O_ex (v := (.int .i64 (blobE b))) rfl rfl rfl (O_as (v := (.int .i64 (blobE b))) rfl rfl ?_)))
   refine O_nil (Blk_n (Then_n (W_seq (W_seq (W_reg ?_)))))
   refine O_mv (v := (.int .i64 (blobE b))) rfl rfl ?_
   refine O_v rfl (R_cmp (a := blobE b) (b := 0) (r := (!(decide (blobE b = 0)))) rfl rfl rfl ?_)
   refine O_nil (Then_n ?_)
   refine W_cond rfl (fun hc9 => ?_) (fun hc9 => ?_)
   ·have hc9 : ¬ (blobE b = 0) := (of_decide_eq_false (notT hc9))
    refine W_seq (W_reg ?_)
    refine O_as (v := (.int .i64 0)) rfl rfl ?_
    refine O_nil (Then_n (W_ret (Then_r ?_)))
    refine ret_1 (v := (.int .i64 0)) Try.results8 rfl ?_
    exact ⟨(by rw [(kind_1 (by assumption) (by assumption)), if_neg (fun e0 => hc9 (e0))]), H8.gr⟩
   ·have hc9 : (blobE b = 0) := (of_decide_eq_true (notF hc9))
    refine W_skip (Then_n (W_seq (W_reg ?_)))
    refine O_mv (v := (slV hb b)) rfl rfl ?_
    refine O_v rfl (R_index_pure (H8.sl 0 rfl) (n := b.length) rfl (j := 0) (oo := (hb.o + 0 * 1)) Try.underlying31 Try.sizeOf5 rfl rfl (by omega) (by omega) rfl ?_)
    refine O_v rfl (R_load1 (v := (.int .u8 ((nth b 0).toNat : Int))) Try.isAgg5 rfl ((Sl.elem (H8.sl 0 rfl) (i := 0) (by omega) rfl).chunks 0 1 0 (hb.o + 0 * 1) _ rfl rfl rfl) ?_)
    refine O_v rfl (R_conv_int (a := ((nth b 0).toNat : Int)) (r := ((nth b 0).toNat : Int)) Try.underlying5 Try.underlying3 rfl (w64 _ (by have := u8_lt (nth b 0); omega)) ?_)
    refine O_as (v := (.int .i64 ((nth b 0).toNat : Int))) rfl rfl ?_
    refine O_nil (Then_n (W_ret ?_))
    refine ret_1 (v := (.int .i64 ((nth b 0).toNat : Int))) Try.results8 rfl ?_
    exact ⟨(by rw [(kind_1 (by assumption) (by assumption)), if_pos (hc9)]; exact congrArg (Value.int .i64) (by omega)), H8.gr⟩
  ·have hc3 := (of_decide_eq_false hc3)
   refine W_seq (W_reg ?_)
   refine O_v rfl (R_cmp (a := ((nth b 0).toNat : Int)) (b := 2) (r := (decide (((nth b 0).toNat : Int) = 2))) rfl rfl rfl ?_)
   refine O_as (v := (.bool (decide (((nth b 0).toNat : Int) = 2)))) rfl rfl ?_
   refine O_nil (Then_n ?_)
   refine W_cond rfl (fun hc10 => ?_) (fun hc10 => ?_)
   ·have hc10 := (of_decide_eq_true hc10)
    refine W_reg ?_
    refine O_mv (v := (slV hb b)) rfl rfl ?_
    refine O_v rfl (R_callL (vs := [(slV hb b)]) cF10 rfl rfl ((obj_Dir hb b w (H1.slOld 0 rfl) (by omega)).ret ?_))
    rintro _ w14 ⟨h11, l12, S13, e21, rfl, hx15, ho16, hS17, hd18, hW22, hr19⟩
    have H20 := H1.addRowDeep (h := fun x : ItemS => x.hh) (f := fun x : ItemS => x.heads) hx15 ho16 hS17 hd18
    have H23 := H20.immOf 0 rfl (deepW S13 51 34 (fun x : ItemS => x.hh) (fun x : ItemS => x.heads.length) l12) (fun _ h => h) (fun _ => hW22)
    refine O_mv (v := (.tuple #[(slV h11 l12), (.int .i64 e21)])) rfl rfl (O_ex (v := (slV h11 l12)) rfl rfl rfl (O_ex (v := (.int .i64 e21)) rfl rfl rfl (O_as (v := (.int .i64 e21)) rfl rfl ?_)))
    refine O_nil (Blk_n (Then_n (W_seq (W_seq (W_reg ?_)))))
    refine O_mv (v := (.int .i64 e21)) rfl rfl ?_
    refine O_v rfl (R_cmp (a := e21) (b := 0) (r := (!(decide (e21 = 0)))) rfl rfl rfl ?_)
    refine O_nil (Then_n ?_)
    refine W_cond rfl (fun hc24 => ?_) (fun hc24 => ?_)
    ·have hc24 : ¬ (e21 = 0) := (of_decide_eq_false (notT hc24))
     refine W_seq (W_reg ?_)
     refine O_as (v := (.int .i64 0)) rfl rfl ?_
     refine O_nil (Then_n (W_ret (Then_r ?_)))
     refine ret_1 (v := (.int .i64 0)) Try.results8 rfl ?_
     exact ⟨(by rw [(kind_2 (by assumption) (by assumption) (by assumption)), if_neg (fun e0 => hc24 ((congrArg Prod.snd hr19).trans e0))]), H23.gr⟩
    ·have hc24 : (e21 = 0) := (of_decide_eq_true (notF hc24))
     refine W_skip (Then_n (W_seq (W_reg ?_)))
     refine O_mv (v := (slV hb b)) rfl rfl ?_
     refine O_v rfl (R_index_pure (H23.sl 2 rfl) (n := b.length) rfl (j := 0) (oo := (hb.o + 0 * 1)) Try.underlying31 Try.sizeOf5 rfl rfl (by omega) (by omega) rfl ?_)
     refine O_v rfl (R_load1 (v := (.int .u8 ((nth b 0).toNat : Int))) Try.isAgg5 rfl ((Sl.elem (H23.sl 2 rfl) (i := 0) (by omega) rfl).chunks 0 1 0 (hb.o + 0 * 1) _ rfl rfl rfl) ?_)
     refine O_v rfl (R_conv_int (a := ((nth b 0).toNat : Int)) (r := ((nth b 0).toNat : Int)) Try.underlying5 Try.underlying3 rfl (w64 _ (by have := u8_lt (nth b 0); omega)) ?_)
     refine O_as (v := (.int .i64 ((nth b 0).toNat : Int))) rfl rfl ?_
     refine O_nil (Then_n (W_ret ?_))
     refine ret_1 (v := (.int .i64 ((nth b 0).toNat : Int))) Try.results8 rfl ?_
     exact ⟨(by rw [(kind_2 (by assumption) (by assumption) (by assumption)), if_pos ((congrArg Prod.snd hr19).symm.trans hc24)]; exact congrArg (Value.int .i64) (by omega)), H23.gr⟩
   ·have hc10 := (of_decide_eq_false hc10)
    refine W_seq (W_reg ?_)
    refine O_v rfl (R_cmp (a := ((nth b 0).toNat : Int)) (b := 3) (r := (decide (((nth b 0).toNat : Int) = 3))) rfl rfl rfl ?_)
    refine O_as (v := (.bool (decide (((nth b 0).toNat : Int) = 3)))) rfl rfl ?_
    refine O_nil (Then_n ?_)
    refine W_cond rfl (fun hc25 => ?_) (fun hc25 => ?_)
    ·have hc25 := (of_decide_eq_true hc25)
     refine W_reg ?_
     refine O_mv (v := (slV hb b)) rfl rfl ?_
     refine O_v rfl (R_callL (vs := [(slV hb b)]) cF13 rfl rfl ((obj_Change hb b w (H1.slOld 0 rfl) (by omega)).ret ?_))
     rintro _ w29 ⟨x26, S27, e28, rfl, hx30, ho31, ho32, h33, hS34, hs35, hW36, hr37⟩
     have H38 := H1.addChg hx30 ho31 ho32 h33 hS34 (deepI S27 stampCh 2 (fun x : OpS => x.oh) (fun x : OpS => x.over) x26.ops) (fun _ h => h) hs35
     have H39 := H38.immOf 0 rfl (deepW S27 46 2 (fun x : OpS => x.oh) (fun x : OpS => x.over.length) x26.ops) (fun _ h => h) (fun _ => hW36)
     refine O_mv (v := (.tuple #[(aggOf (changeCh x26)), (.int .i64 e28)])) rfl rfl (O_ex (v := (aggOf (changeCh x26))) rfl rfl rfl (O_ex (v := (.int .i64 e28)) rfl rfl rfl (O_as (v := (.int .i64 e28)) rfl rfl ?_)))
     refine O_nil (Blk_n (Then_n (W_seq (W_seq (W_reg ?_)))))
     refine O_mv (v := (.int .i64 e28)) rfl rfl ?_
     refine O_v rfl (R_cmp (a := e28) (b := 0) (r := (!(decide (e28 = 0)))) rfl rfl rfl ?_)
     refine O_nil (Then_n ?_)
     refine W_cond rfl (fun hc40 => ?_) (fun hc40 => ?_)
     ·have hc40 : ¬ (e28 = 0) := (of_decide_eq_false (notT hc40))
      refine W_seq (W_reg ?_)
      refine O_as (v := (.int .i64 0)) rfl rfl ?_
      refine O_nil (Then_n (W_ret (Then_r ?_)))
      refine ret_1 (v := (.int .i64 0)) Try.results8 rfl ?_
      exact ⟨(by rw [(kind_3 (by assumption) (by assumption) (by assumption) (by assumption)), if_neg (fun e0 => hc40 ((congrArg Prod.snd hr37).trans e0))]), H39.gr⟩
     ·have hc40 : (e28 = 0) := (of_decide_eq_true (notF hc40))
      refine W_skip (Then_n (W_seq (W_reg ?_)))
      refine O_mv (v := (slV hb b)) rfl rfl ?_
      refine O_v rfl (R_index_pure (H39.sl 2 rfl) (n := b.length) rfl (j := 0) (oo := (hb.o + 0 * 1)) Try.underlying31 Try.sizeOf5 rfl rfl (by omega) (by omega) rfl ?_)
      refine O_v rfl (R_load1 (v := (.int .u8 ((nth b 0).toNat : Int))) Try.isAgg5 rfl ((Sl.elem (H39.sl 2 rfl) (i := 0) (by omega) rfl).chunks 0 1 0 (hb.o + 0 * 1) _ rfl rfl rfl) ?_)
      refine O_v rfl (R_conv_int (a := ((nth b 0).toNat : Int)) (r := ((nth b 0).toNat : Int)) Try.underlying5 Try.underlying3 rfl (w64 _ (by have := u8_lt (nth b 0); omega)) ?_)
      refine O_as (v := (.int .i64 ((nth b 0).toNat : Int))) rfl rfl ?_
      refine O_nil (Then_n (W_ret ?_))
      refine ret_1 (v := (.int .i64 ((nth b 0).toNat : Int))) Try.results8 rfl ?_
      exact ⟨(by rw [(kind_3 (by assumption) (by assumption) (by assumption) (by assumption)), if_pos ((congrArg Prod.snd hr37).symm.trans hc40)]; exact congrArg (Value.int .i64) (by omega)), H39.gr⟩
    ·have hc25 := (of_decide_eq_false hc25)
     refine W_seq (W_reg ?_)
     refine O_v rfl (R_cmp (a := ((nth b 0).toNat : Int)) (b := 4) (r := (decide (((nth b 0).toNat : Int) = 4))) rfl rfl rfl ?_)
     refine O_as (v := (.bool (decide (((nth b 0).toNat : Int) = 4)))) rfl rfl ?_
     refine O_nil (Then_n ?_)
     refine W_cond rfl (fun hc41 => ?_) (fun hc41 => ?_)
     ·have hc41 := (of_decide_eq_true hc41)
      refine W_reg ?_
      refine O_mv (v := (slV hb b)) rfl rfl ?_
      refine O_v rfl (R_callL (vs := [(slV hb b)]) cF9 rfl rfl ((obj_Label hb b w (H1.slOld 0 rfl) (by omega)).ret ?_))
      rintro _ w42 ⟨rfl, hx43⟩
      have H44 := H1.ext hx43
      refine O_mv (v := (.tuple #[(aggOf (labelCh ((labelOf b).1))), (.int .i64 ((labelOf b).2))])) rfl rfl (O_ex (v := (aggOf (labelCh ((labelOf b).1)))) rfl rfl rfl (O_ex (v := (.int .i64 ((labelOf b).2))) rfl rfl rfl (O_as (v := (.int .i64 ((labelOf b).2))) rfl rfl ?_)))
      refine O_nil (Blk_n (Then_n (W_seq (W_seq (W_reg ?_)))))
      refine O_mv (v := (.int .i64 ((labelOf b).2))) rfl rfl ?_
      refine O_v rfl (R_cmp (a := (labelOf b).2) (b := 0) (r := (!(decide ((labelOf b).2 = 0)))) rfl rfl rfl ?_)
      refine O_nil (Then_n ?_)
      refine W_cond rfl (fun hc45 => ?_) (fun hc45 => ?_)
      ·have hc45 : ¬ ((labelOf b).2 = 0) := (of_decide_eq_false (notT hc45))
       refine W_seq (W_reg ?_)
       refine O_as (v := (.int .i64 0)) rfl rfl ?_
       refine O_nil (Then_n (W_ret (Then_r ?_)))
       refine ret_1 (v := (.int .i64 0)) Try.results8 rfl ?_
       exact ⟨(by rw [(kind_4 (by assumption) (by assumption) (by assumption) (by assumption) (by assumption)), if_neg (fun e0 => hc45 (e0))]), H44.gr⟩
      ·have hc45 : ((labelOf b).2 = 0) := (of_decide_eq_true (notF hc45))
       refine W_skip (Then_n (W_seq (W_reg ?_)))
       refine O_mv (v := (slV hb b)) rfl rfl ?_
       refine O_v rfl (R_index_pure (H44.sl 0 rfl) (n := b.length) rfl (j := 0) (oo := (hb.o + 0 * 1)) Try.underlying31 Try.sizeOf5 rfl rfl (by omega) (by omega) rfl ?_)
       refine O_v rfl (R_load1 (v := (.int .u8 ((nth b 0).toNat : Int))) Try.isAgg5 rfl ((Sl.elem (H44.sl 0 rfl) (i := 0) (by omega) rfl).chunks 0 1 0 (hb.o + 0 * 1) _ rfl rfl rfl) ?_)
       refine O_v rfl (R_conv_int (a := ((nth b 0).toNat : Int)) (r := ((nth b 0).toNat : Int)) Try.underlying5 Try.underlying3 rfl (w64 _ (by have := u8_lt (nth b 0); omega)) ?_)
       refine O_as (v := (.int .i64 ((nth b 0).toNat : Int))) rfl rfl ?_
       refine O_nil (Then_n (W_ret ?_))
       refine ret_1 (v := (.int .i64 ((nth b 0).toNat : Int))) Try.results8 rfl ?_
       exact ⟨(by rw [(kind_4 (by assumption) (by assumption) (by assumption) (by assumption) (by assumption)), if_pos (hc45)]; exact congrArg (Value.int .i64) (by omega)), H44.gr⟩
     ·have hc41 := (of_decide_eq_false hc41)
      refine W_skip (Blk_n (Then_n (W_seq (W_seq (W_reg ?_)))))
      refine O_mv (v := (.int .i64 20)) rfl rfl ?_
      refine O_v rfl (R_cmp (a := 20) (b := 0) (r := (!(decide ((20 : Int) = 0)))) rfl rfl rfl ?_)
      refine O_nil (Then_n ?_)
      refine W_cond rfl (fun hc46 => ?_) (fun hc46 => ?_)
      ·have hc46 : ¬ ((20 : Int) = 0) := (of_decide_eq_false (notT hc46))
       refine W_seq (W_reg ?_)
       refine O_as (v := (.int .i64 0)) rfl rfl ?_
       refine O_nil (Then_n (W_ret (Then_r ?_)))
       refine ret_1 (v := (.int .i64 0)) Try.results8 rfl ?_
       exact ⟨(by rw [kind_5 (by assumption) (by assumption) (by assumption) (by assumption) (by assumption)]), H1.gr⟩
      ·have hc46 : ((20 : Int) = 0) := (of_decide_eq_true (notF hc46))
       refine W_skip (Then_n (W_seq (W_reg ?_)))
       refine O_mv (v := (slV hb b)) rfl rfl ?_
       refine O_v rfl (R_index_pure (H1.sl 0 rfl) (n := b.length) rfl (j := 0) (oo := (hb.o + 0 * 1)) Try.underlying31 Try.sizeOf5 rfl rfl (by omega) (by omega) rfl ?_)
       refine O_v rfl (R_load1 (v := (.int .u8 ((nth b 0).toNat : Int))) Try.isAgg5 rfl ((Sl.elem (H1.sl 0 rfl) (i := 0) (by omega) rfl).chunks 0 1 0 (hb.o + 0 * 1) _ rfl rfl rfl) ?_)
       refine O_v rfl (R_conv_int (a := ((nth b 0).toNat : Int)) (r := ((nth b 0).toNat : Int)) Try.underlying5 Try.underlying3 rfl (w64 _ (by have := u8_lt (nth b 0); omega)) ?_)
       refine O_as (v := (.int .i64 ((nth b 0).toNat : Int))) rfl rfl ?_
       refine O_nil (Then_n (W_ret ?_))
       refine ret_1 (v := (.int .i64 ((nth b 0).toNat : Int))) Try.results8 rfl ?_
       exact ⟨(absurd (by assumption : (20 : Int) = 0) (by decide)), H1.gr⟩
end Go.Proofs.Ythjdhfoeckfmbaa
namespace Go.Proofs.Ythjdhfoeckfmbaa
open Go
set_option maxRecDepth 100000
set_option linter.unusedVariables false
set_option linter.unusedSimpArgs false
set_option linter.unusedSectionVars false
variable [DD]
set_option maxHeartbeats 1000000 in
theorem Clone_ID (hs : SlH) (s : List ID) (w : World) (Ss : Sl (Old w) idCh 32 hs s w) (hl : s.length * 32 ≤ 140737488355328) :
    Calls Try.prog 33 #[(slV hs s)] w (Ret fun v w' => ∃ h, v = slV h (s) ∧ Ext w w' ∧ OwnS w.heap.size 25 32 idCh h (s) w') := by
 refine calls_W Try.func33 rfl Try.ntmps33 rfl ?_
 have H0 := Ctx.start w nob
 have H1 := H0.addSl _ Ss (fun b hb => ⟨hb, fun _ ho => (nomatch ho)⟩)
 have LSs := Ss.len
 refine W_seq (W_reg ?_)
 refine O_as (v := (.slice none 0 0)) rfl rfl ?_
 refine O_nil (Then_n (W_seq (W_seq (W_reg ?_))))
 refine O_mv (v := (slV hs s)) rfl rfl ?_
 refine O_v rfl (R_slice_nil (a := hs.a) Try.underlying22 rfl rfl ?_)
 refine O_nil (Then_n ?_)
 refine W_cond rfl (fun hc2 => ?_) (fun hc2 => ?_)
 ·have hc2 : hs.a.isNone = true := hc2
  refine W_seq (W_reg ?_)
  refine O_as (v := (.slice none 0 0)) rfl rfl ?_
  refine O_nil (Then_n (W_ret (Then_r ?_)))
  refine ret_1 (v := (.slice none 0 0)) Try.results33 rfl ?_
  have H3 := H1.addNil 25 32 idCh
  have hE : [] = s := (Sl.isNil Ss (by assumption)).symm
  refine ⟨nilH, ?_, H3.gr, ?_⟩
  · exact congrArg (fun l => slV nilH l) hE
  · have hO := H3.retRow 0 rfl
    exact hE ▸ hO
 ·have hc2 : hs.a.isNone = false := hc2
  refine W_skip (Then_n (W_seq (W_reg ?_)))
  refine O_v rfl (C_buildSliceL H1 (enc := idCh) (val := idV) ([] : List ID) Try.underlying22 Try.sizeOf25 Try.zeroValue25 rfl (by decide) (fun _ => rfl) (fun _ => rfl) rfl rfl (by decide) ?_)
  intro b4 w5 hb6 hx7 H8
  refine O_mv (v := (slV hs s)) rfl rfl ?_
  refine O_v rfl (C_append H8 0 rfl (bytes := 32) (l := ([] : List ID)) (ys := s) Try.underlying22 rfl rfl rfl rfl rfl (by decide) rfl rfl (H8.sl 0 rfl) (fun _ => rfl) (fun _ => rfl) (by simpa using hl) (by decide) ?_)
  intro h9 w10 hg11 H12
  refine O_as (v := (slV h9 (([] : List ID) ++ s))) rfl rfl ?_
  refine O_nil (Then_n (W_ret ?_))
  refine ret_1 (v := (slV h9 (([] : List ID) ++ s))) Try.results33 rfl ?_
  have hE : ([] : List ID) ++ s = s := List.nil_append _
  refine ⟨h9, ?_, H12.gr, ?_⟩
  · exact congrArg (fun l => slV h9 l) hE
  · have hO := H12.retRow 0 rfl
    exact hE ▸ hO
set_option maxHeartbeats 1000000 in
theorem Compact_ID (hs : SlH) (s : List ID) (w : World) (Os : OwnS 0 25 32 idCh hs s w) (hl : s.length ≤ 1) :
    Calls Try.prog 36 #[(slV hs s)] w (Ret fun v w' => v = (slV hs s) ∧ Gr (fun b => (slV hs s).ownBlock = some b) w w' ∧ OwnS 0 25 32 idCh hs (s) w') := by
 refine calls_W Try.func36 rfl Try.ntmps36 rfl ?_
 have H0 := Ctx.startRow Os
 have LSs := (OwnS.sl Os (fun _ => rfl)).len
 refine W_seq (W_reg ?_)
 refine O_as (v := (.slice none 0 0)) rfl rfl ?_
 refine O_nil (Then_n (W_seq (W_seq (W_reg ?_))))
 refine O_mv (v := (slV hs s)) rfl rfl ?_
 refine O_v rfl (R_len_slice (a := hs.a) (n := s.length) (c := hs.c) Try.underlying22 rfl ?_)
 refine O_v rfl (R_cmp (a := (s.length : Int)) (b := 2) (r := (decide ((s.length : Int) < 2))) rfl rfl rfl ?_)
 refine O_nil (Then_n ?_)
 refine W_cond rfl (fun hc1 => ?_) (fun hc1 => ?_)
 ·have hc1 := (of_decide_eq_true hc1)
  refine W_seq (W_reg ?_)
  refine O_mv (v := (slV hs s)) rfl rfl (O_as (v := (slV hs s)) rfl rfl ?_)
  refine O_nil (Then_n (W_ret (Then_r ?_)))
  refine ret_1 (v := (slV hs s)) Try.results36 rfl ⟨rfl, H0.gr, ?_⟩
  exact H0.getOwn 0 rfl
 ·have hc1 := (of_decide_eq_false hc1)
  refine W_skip (Then_n ?_)
  exfalso; omega
set_option maxHeartbeats 1000000 in
theorem bits_Len64 (x : Nat) (w : World) (hx : x ≤ 1) :
    Calls Try.prog 83 #[(.int .u64 ((x : Nat) : Int))] w (Ret fun v w' => v = (.int .i64 ((x : Nat) : Int)) ∧ Ext w w') := by
 refine calls_W Try.func83 rfl Try.ntmps83 rfl ?_
 have H0 := Ctx.start w nob
 refine W_seq (W_reg ?_)
 refine O_as (v := (.int .i64 0)) rfl rfl ?_
 refine O_nil (Then_n (W_seq (W_seq (W_reg ?_))))
 refine O_mv (v := (.int .u64 (x : Int))) rfl rfl ?_
 refine O_v rfl (R_cmp (a := (x : Int)) (b := 4294967296) (r := (decide (4294967296 ≤ (x : Int)))) rfl rfl rfl ?_)
 refine O_nil (Then_n ?_)
 refine W_cond rfl (fun hc1 => ?_) (fun hc1 => ?_)
 ·have hc1 := (of_decide_eq_true hc1)
  exfalso; omega
 ·have hc1 := (of_decide_eq_false hc1)
  refine W_skip (Then_n (W_seq (W_seq (W_reg ?_))))
  refine O_mv (v := (.int .u64 (x : Int))) rfl rfl ?_
  refine O_v rfl (R_cmp (a := (x : Int)) (b := 65536) (r := (decide (65536 ≤ (x : Int)))) rfl rfl rfl ?_)
  refine O_nil (Then_n ?_)
  refine W_cond rfl (fun hc2 => ?_) (fun hc2 => ?_)
  ·have hc2 := (of_decide_eq_true hc2)
   exfalso; omega
  ·have hc2 := (of_decide_eq_false hc2)
   refine W_skip (Then_n (W_seq (W_seq (W_reg ?_))))
   refine O_mv (v := (.int .u64 (x : Int))) rfl rfl ?_
   refine O_v rfl (R_cmp (a := (x : Int)) (b := 256) (r := (decide (256 ≤ (x : Int)))) rfl rfl rfl ?_)
   refine O_nil (Then_n ?_)
   refine W_cond rfl (fun hc3 => ?_) (fun hc3 => ?_)
   ·have hc3 := (of_decide_eq_true hc3)
    exfalso; omega
   ·have hc3 := (of_decide_eq_false hc3)
    refine W_skip (Then_n (W_seq (W_reg ?_)))
    refine O_mv (v := (.int .i64 0)) rfl rfl (O_mv (v := (.int .u64 (x : Int))) rfl rfl ?_)
    refine O_v rfl (R_conv_int (a := (x : Int)) (r := ((UInt8.ofNat x).toNat : Int)) Try.underlying86 Try.underlying5 rfl (conv_u8 _) ?_)
    refine O_v rfl (R_index_s (s := lenTab) (k := (UInt8.ofNat x).toNat) Try.underlying9 rfl rfl rfl (by have := u8_lt (UInt8.ofNat x); show _ < 256; omega) ?_)
    refine O_v rfl (R_conv_int (a := ((sbyte lenTab ((UInt8.ofNat x).toNat)).toNat : Int)) (r := ((sbyte lenTab ((UInt8.ofNat x).toNat)).toNat : Int)) Try.underlying5 Try.underlying3 rfl (w64 _ (by have h1 := u8_lt (sbyte lenTab (UInt8.ofNat x).toNat); omega)) ?_)
    refine O_v rfl (R_arith (a := 0) (b := ((sbyte lenTab ((UInt8.ofNat x).toNat)).toNat : Int)) (r0 := 0 + ((sbyte lenTab ((UInt8.ofNat x).toNat)).toNat : Int)) (r := 0 + ((sbyte lenTab ((UInt8.ofNat x).toNat)).toNat : Int)) rfl rfl rfl (w64 _ (by have h1 := u8_lt (sbyte lenTab (UInt8.ofNat x).toNat); omega)) ?_)
    refine O_as (v := (.int .i64 (0 + ((sbyte lenTab ((UInt8.ofNat x).toNat)).toNat : Int)))) rfl rfl ?_
    refine O_nil (Then_n (W_ret ?_))
    refine ret_1 (v := (.int .i64 (0 + ((sbyte lenTab ((UInt8.ofNat x).toNat)).toNat : Int)))) Try.results83 rfl ?_
    exact ⟨(len01 hx), H0.gr⟩
theorem cF83 : callable Try.prog 83 = true := by kernel_rfl
set_option maxHeartbeats 1000000 in
theorem bits_Len (x : Nat) (w : World) (hx : x ≤ 1) :
    Calls Try.prog 61 #[(.int .u64 ((x : Nat) : Int))] w (Ret fun v w' => v = (.int .i64 ((x : Nat) : Int)) ∧ Ext w w') := by
 refine calls_W Try.func61 rfl Try.ntmps61 rfl ?_
 have H0 := Ctx.start w nob
 refine W_seq (W_reg ?_)
 refine O_as (v := (.int .i64 0)) rfl rfl ?_
 refine O_nil (Then_n (W_seq ?_))
 refine W_cond_f rfl ?_
 refine W_skip (Then_n (W_seq (W_reg ?_)))
 refine O_mv (v := (.int .u64 (x : Int))) rfl rfl ?_
 refine O_v rfl (R_callL (vs := [(.int .u64 (x : Int))]) cF83 rfl rfl ((bits_Len64 x w (by omega)).ret ?_))
 rintro _ w1 ⟨rfl, hx2⟩
 have H3 := H0.ext hx2
 refine O_as (v := (.int .i64 (x : Int))) rfl rfl ?_
 refine O_nil (Then_n (W_ret ?_))
 refine ret_1 (v := (.int .i64 (x : Int))) Try.results61 rfl ?_
 exact ⟨rfl, H3.gr⟩
set_option maxHeartbeats 1000000 in
theorem insSort_ID (hs : SlH) (s : List ID) (a : Int) (b : Int) (kcmp : FuncId) (ccmp : Array Value) (w : World) (Os : OwnS 0 25 32 idCh hs s w) (Kcmp : callable Try.prog kcmp = true) (Ccmp : True) (ha : a = 0 ∧ b ≤ 1) :
    Calls Try.prog 74 #[(slV hs s), (.int .i64 a), (.int .i64 b), (.func (.func kcmp) #[] ccmp)] w (Ret fun v w' => v = .tuple #[] ∧ Gr (fun b => (slV hs s).ownBlock = some b) w w' ∧ OwnS 0 25 32 idCh hs (s) w') := by
 refine calls_W Try.func74 rfl Try.ntmps74 rfl ?_
 have H0 := Ctx.startRow Os
 have LSs := (OwnS.sl Os (fun _ => rfl)).len
 refine W_seq (W_reg ?_)
 refine O_mv (v := (.int .i64 a)) rfl rfl ?_
 refine O_v rfl (R_arith (a := a) (b := 1) (r0 := a + 1) (r := a + 1) rfl rfl rfl (w64 _ (by omega)) ?_)
 refine O_as (v := (.int .i64 (a + 1))) rfl rfl ?_
 refine O_nil (Then_n (W_block ?_))
 refine W_loop (fun m1 e2 w3 => ∃ (i : Int), m1 = 0 ∧ (1 ≤ i) ∧ ∃ eb4, e2 = envL [(0, (slV hs s)), (1, (.int .i64 a)), (2, (.int .i64 b)), (3, (.func (.func kcmp) #[] ccmp)), (8, (.int .i64 i))] eb4 ∧ Ctx w (fun b => (slV hs s).ownBlock = some b) w3 [rowR 25 32 idCh hs s] []) _ ⟨(a + 1), rfl, (by omega), _, envL_self ⟨rfl, rfl, rfl, rfl, rfl, trivial⟩, H0⟩ ?_
 rintro m1 _ w3 ⟨i, rfl, hi, eb4, rfl, H5⟩
 refine W_seq (W_seq (W_reg ?_))
 refine O_mv (v := (.int .i64 i)) rfl rfl (O_mv (v := (.int .i64 b)) rfl rfl ?_)
 refine O_v rfl (R_cmp (a := i) (b := b) (r := (decide (i < b))) rfl rfl rfl ?_)
 refine O_nil (Then_n ?_)
 refine W_cond rfl (fun hc6 => ?_) (fun hc6 => ?_)
 ·have hc6 := (of_decide_eq_true hc6)
  refine W_skip (Then_n ?_)
  exfalso; omega
 ·have hc6 := (of_decide_eq_false hc6)
  refine W_exit (Then_x (Then_x (Blk_x (ret_n ?_))))
  refine ret_0 Try.results74 ⟨rfl, H5.gr, ?_⟩
  exact H5.getOwn 0 rfl
theorem cF74 : callable Try.prog 74 = true := by kernel_rfl
set_option maxHeartbeats 1000000 in
theorem pdq_ID (hs : SlH) (s : List ID) (a : Int) (b : Int) (limit : Int) (kcmp : FuncId) (ccmp : Array Value) (w : World) (Os : OwnS 0 25 32 idCh hs s w) (Kcmp : callable Try.prog kcmp = true) (Ccmp : True) (ha : a = 0 ∧ 0 ≤ b ∧ b ≤ 1) :
    Calls Try.prog 60 #[(slV hs s), (.int .i64 a), (.int .i64 b), (.int .i64 limit), (.func (.func kcmp) #[] ccmp)] w (Ret fun v w' => v = .tuple #[] ∧ Gr (fun b => (slV hs s).ownBlock = some b) w w' ∧ OwnS 0 25 32 idCh hs (s) w') := by
 refine calls_W Try.func60 rfl Try.ntmps60 rfl ?_
 have H0 := Ctx.startRow Os
 have LSs := (OwnS.sl Os (fun _ => rfl)).len
 refine W_seq (W_reg ?_)
 refine O_as (v := (.bool true)) rfl rfl ?_
 refine O_nil (Then_n (W_seq (W_reg ?_)))
 refine O_as (v := (.bool true)) rfl rfl ?_
 refine O_nil (Then_n (W_block ?_))
 refine W_loop (fun m1 e2 w3 => m1 = 0 ∧ ∃ eb4, e2 = envL [(0, (slV hs s)), (1, (.int .i64 a)), (2, (.int .i64 b)), (3, (.int .i64 limit)), (4, (.func (.func kcmp) #[] ccmp)), (10, (.bool true)), (11, (.bool true))] eb4 ∧ Ctx w (fun b => (slV hs s).ownBlock = some b) w3 [rowR 25 32 idCh hs s] []) _ ⟨rfl, _, envL_self ⟨rfl, rfl, rfl, rfl, rfl, rfl, rfl, trivial⟩, H0⟩ ?_
 rintro m1 _ w3 ⟨rfl, eb4, rfl, H5⟩
 refine W_block (W_seq (W_reg ?_))
 refine O_mv (v := (.int .i64 b)) rfl rfl (O_mv (v := (.int .i64 a)) rfl rfl ?_)
 refine O_v rfl (R_arith (a := b) (b := a) (r0 := b - a) (r := b - a) rfl rfl rfl (w64 _ (by omega)) ?_)
 refine O_as (v := (.int .i64 (b - a))) rfl rfl ?_
 refine O_nil (Then_n (W_seq (W_seq (W_reg ?_))))
 refine O_mv (v := (.int .i64 (b - a))) rfl rfl ?_
 refine O_v rfl (R_cmp (a := (b - a)) (b := 12) (r := (decide ((b - a) ≤ 12))) rfl rfl rfl ?_)
 refine O_nil (Then_n ?_)
 refine W_cond rfl (fun hc6 => ?_) (fun hc6 => ?_)
 ·have hc6 := (of_decide_eq_true hc6)
  refine W_seq (W_reg ?_)
  refine O_mv (v := (slV hs s)) rfl rfl (O_mv (v := (.int .i64 a)) rfl rfl (O_mv (v := (.int .i64 b)) rfl rfl (O_mv (v := (.func (.func kcmp) #[] ccmp)) rfl rfl ?_)))
  refine O_v rfl (R_callL (vs := [(slV hs s), (.int .i64 a), (.int .i64 b), (.func (.func kcmp) #[] ccmp)]) cF74 rfl rfl ((insSort_ID hs s a b kcmp ccmp w3 (H5.getOwn 0 rfl) Kcmp trivial (by omega)).ret ?_))
  rintro _ w7 ⟨rfl, hg8, ho9⟩
  have H10 := H5.updRow 0 rfl hg8 ho9
  refine O_nil (Then_n (W_ret (Then_r (Blk_r (Then_r (Blk_r ?_))))))
  refine ret_0 Try.results60 ⟨rfl, H10.gr, ?_⟩
  exact H10.getOwn 0 rfl
 ·have hc6 := (of_decide_eq_false hc6)
  refine W_skip (Then_n ?_)
  exfalso; omega
theorem cF60 : callable Try.prog 60 = true := by kernel_rfl
theorem cF61 : callable Try.prog 61 = true := by kernel_rfl
set_option maxHeartbeats 1000000 in
theorem SortFunc_ID (hs : SlH) (s : List ID) (kcmp : FuncId) (ccmp : Array Value) (w : World) (Os : OwnS 0 25 32 idCh hs s w) (Kcmp : callable Try.prog kcmp = true) (Ccmp : True) (hl : s.length ≤ 1) :
    Calls Try.prog 34 #[(slV hs s), (.func (.func kcmp) #[] ccmp)] w (Ret fun v w' => v = .tuple #[] ∧ Gr (fun b => (slV hs s).ownBlock = some b) w w' ∧ OwnS 0 25 32 idCh hs (s) w') := by
 refine calls_W Try.func34 rfl Try.ntmps34 rfl ?_
 have H0 := Ctx.startRow Os
 have LSs := (OwnS.sl Os (fun _ => rfl)).len
 refine W_seq (W_reg ?_)
 refine O_mv (v := (slV hs s)) rfl rfl ?_
 refine O_v rfl (R_len_slice (a := hs.a) (n := s.length) (c := hs.c) Try.underlying22 rfl ?_)
 refine O_as (v := (.int .i64 (s.length : Int))) rfl rfl ?_
 refine O_nil (Then_n (W_reg ?_))
 refine O_mv (v := (slV hs s)) rfl rfl (O_mv (v := (.int .i64 (s.length : Int))) rfl rfl (O_mv (v := (.int .i64 (s.length : Int))) rfl rfl ?_))
 refine O_v rfl (R_conv_int (a := (s.length : Int)) (r := (s.length : Int)) Try.underlying3 Try.underlying87 rfl (u64_in _ (by omega)) ?_)
 refine O_v rfl (R_callL (vs := [(.int .u64 (s.length : Int))]) cF61 rfl rfl ((bits_Len s.length w (by omega)).ret ?_))
 rintro _ w1 ⟨rfl, hx2⟩
 have H3 := H0.ext hx2
 refine O_mv (v := (.func (.func kcmp) #[] ccmp)) rfl rfl ?_
 refine O_v rfl (R_callL (vs := [(slV hs s), (.int .i64 0), (.int .i64 (s.length : Int)), (.int .i64 (s.length : Int)), (.func (.func kcmp) #[] ccmp)]) cF60 rfl rfl ((pdq_ID hs s 0 (s.length : Int) (s.length : Int) kcmp ccmp w1 (H3.getOwn 0 rfl) Kcmp trivial (by omega)).ret ?_))
 rintro _ w4 ⟨rfl, hg5, ho6⟩
 have H7 := H3.updRow 0 rfl hg5 ho6
 refine O_nil (ret_n ?_)
 refine ret_0 Try.results34 ⟨rfl, H7.gr, ?_⟩
 exact H7.getOwn 0 rfl
end Go.Proofs.Ythjdhfoeckfmbaa
namespace Go.Proofs.Ythjdhfoeckfmbaa
open Go
set_option maxRecDepth 100000
set_option linter.unusedVariables false
set_option linter.unusedSimpArgs false
set_option linter.unusedSectionVars false
theorem cF8 : callable Try.prog 8 = true := by kernel_rfl
theorem cF33 : callable Try.prog 33 = true := by kernel_rfl
theorem cF34 : callable Try.prog 34 = true := by kernel_rfl
theorem cF36 : callable Try.prog 36 = true := by kernel_rfl
set_option maxHeartbeats 4000000 in
theorem obj_Links (hb : SlH) (b : List UInt8) (w : World) (Sb : Sl (Old w) encB 1 hb b w) (hl : b.length ≤ 140737488355328) (hl1 : (linksRaw b).length ≤ 1) :
    Calls Try.prog 15 #[(slV hb b)] w (Ret fun v w' => ∃ (hN : SlH) (SN : Nat → Prop), v = slV hN (links1 b) ∧ Ext w w' ∧ (∀ b, SN b → w.heap.size ≤ b ∧ b < w'.heap.size) ∧ Sl SN idCh 32 hN (links1 b) w') := by
 refine calls_W Try.func15 rfl Try.ntmps15 rfl ?_
 have H0 := Ctx.start w nob
 have H1 := H0.addSl _ Sb (fun b hb => ⟨hb, fun _ ho => (nomatch ho)⟩)
 have LSb := Sb.len
 refine W_seq (W_reg ?_)
 refine O_as (v := (.slice none 0 0)) rfl rfl ?_
 refine O_nil (Then_n (W_seq (W_reg ?_)))
 refine O_as (v := (.slice none 0 0)) rfl rfl ?_
 refine O_nil (Then_n (W_seq (W_seq (W_reg ?_))))
 refine O_mv (v := (slV hb b)) rfl rfl ?_
 refine O_v rfl (R_callL (vs := [(slV hb b)]) cF8 rfl rfl ((obj_Kind hb b w (H1.slOld 0 rfl) (by omega)).ret ?_))
 rintro _ w2 ⟨rfl, hx3⟩
 have H4 := H1.ext hx3
 refine O_nil (Then_n (W_block (W_seq (W_reg ?_))))
 refine O_v rfl (R_cmp (a := kindOf b) (b := 2) (r := (decide (kindOf b = 2))) rfl rfl rfl ?_)
 refine O_as (v := (.bool (decide (kindOf b = 2)))) rfl rfl ?_
 refine O_nil (Then_n ?_)
 refine W_cond rfl (fun hc5 => ?_) (fun hc5 => ?_)
 ·have hc5 := (of_decide_eq_true hc5)
  have hK := hc5
  refine W_seq (W_reg ?_)
  refine O_mv (v := (slV hb b)) rfl rfl ?_
  refine O_v rfl (R_callL (vs := [(slV hb b)]) cF10 rfl rfl ((obj_Dir hb b w2 (H4.slOld 0 rfl) (by omega)).ret ?_))
  rintro _ w9 ⟨h6, l7, S8, e16, rfl, hx10, ho11, hS12, hd13, hW17, hr14⟩
  have H15 := H4.addRowDeep (h := fun x : ItemS => x.hh) (f := fun x : ItemS => x.heads) hx10 ho11 hS12 hd13
  have H18 := H15.immOf 0 rfl (deepW S8 51 34 (fun x : ItemS => x.hh) (fun x : ItemS => x.heads.length) l7) (fun _ h => h) (fun _ => hW17)
  refine O_mv (v := (.tuple #[(slV h6 l7), (.int .i64 e16)])) rfl rfl (O_ex (v := (slV h6 l7)) rfl rfl rfl (O_ex (v := (.int .i64 e16)) rfl rfl rfl (O_as (v := (slV h6 l7)) rfl rfl ?_)))
  refine O_as (v := (.int .i64 e16)) rfl rfl ?_
  refine O_nil (Then_n (W_seq (W_reg ?_)))
  refine O_mv (v := (slV h6 l7)) rfl rfl ?_
  refine O_v rfl (R_len_slice (a := h6.a) (n := l7.length) (c := h6.c) Try.underlying39 rfl ?_)
  refine O_mv (v := (.int .i64 0)) rfl rfl ?_
  refine O_nil (Then_n (W_block ?_))
  have H19 := H18.addNil 25 32 idCh
  refine W_loop (fun m21 e22 w23 => ∃ (k : Nat), ∃ (acc : List ID), ∃ (h20 : SlH), m21 = l7.length - k ∧ (k ≤ l7.length) ∧ (acc = rawTo (l7.map ItemS.core) k) ∧ ∃ eb24, e22 = envL [(2, (.slice none 0 0)), (3, (slV h20 acc)), (25, (slV h6 l7)), (26, (.int .i64 (l7.length : Int))), (27, (.int .i64 (k : Int)))] eb24 ∧ Ctx w nob w23 [rowR 25 32 idCh h20 acc, rowR 49 38 itemCh h6 l7] [deepW S8 51 34 (fun x : ItemS => x.hh) (fun x : ItemS => x.heads.length) l7, deepI S8 headCh 34 (fun x : ItemS => x.hh) (fun x : ItemS => x.heads) l7, slI (Old w) encB 1 hb b]) _ ⟨0, [], nilH, rfl, (by omega), rfl, _, envL_self ⟨rfl, rfl, rfl, rfl, rfl, trivial⟩, H19⟩ ?_
  rintro m21 _ w23 ⟨k, acc, h20, rfl, hk, ha, eb24, rfl, H25⟩
  refine W_seq (W_reg ?_)
  refine O_v rfl (R_cmp (a := (k : Int)) (b := (l7.length : Int)) (r := (decide ((k : Int) < (l7.length : Int)))) rfl rfl rfl ?_)
  refine O_nil (Then_n (W_seq ?_))
  refine W_cond rfl (fun hc26 => ?_) (fun hc26 => ?_)
  ·have hc26 := (of_decide_eq_true hc26)
   refine W_skip (Then_n (W_seq (W_block (W_seq (W_reg ?_)))))
   refine O_v rfl (R_index_pure (OwnS.sl (H25.getOwn 1 rfl) (fun _ => rfl)) (n := l7.length) rfl (j := (k : Int)) (oo := (h6.o + k * 38)) Try.underlying39 Try.sizeOf49 rfl rfl (by omega) (by omega) rfl ?_)
   refine O_v rfl (R_loadA (cs := [[(.int .i64 (((nth l7 k).node).T))], [(.int .i64 (((nth l7 k).node).R))], [(.int .i64 (((nth l7 k).tm).T))], [(.int .i64 (((nth l7 k).tm).R))], [(.string ((nth l7 k).name))], (idCells ((nth l7 k).sub)), [(slV ((nth l7 k).hh) ((nth l7 k).heads))]]) Try.isAgg49 Try.sizeOf49 rfl rfl ((Sl.elem (OwnS.sl (H25.getOwn 1 rfl) (fun _ => rfl)) (i := k) (by omega) rfl).chunks 0 7 0 (h6.o + k * 38) _ rfl rfl rfl) ?_)
   refine O_v rfl (C_alloc H25 [[(.int .i64 0)], [(.int .i64 0)], [(.int .i64 0)], [(.int .i64 0)], [(.string ByteArray.empty)], (idCells zeroId), [(.slice none 0 0)]] Try.zeroValue49 ?_)
   intro b27 w28 hb29 hx30 H31
   refine O_u (C_storeW H31 0 rfl (sub := [[(.int .i64 (((nth l7 k).node).T))], [(.int .i64 (((nth l7 k).node).R))], [(.int .i64 (((nth l7 k).tm).T))], [(.int .i64 (((nth l7 k).tm).R))], [(.string ((nth l7 k).name))], (idCells ((nth l7 k).sub)), [(slV ((nth l7 k).hh) ((nth l7 k).heads))]]) Try.sizeOf49 rfl rfl rfl rfl rfl ?_)
   intro w32 hg33 H34
   refine O_nil (Then_n (W_seq (W_reg ?_)))
   refine O_mv (v := (slV h20 acc)) rfl rfl ?_
   refine O_v rfl (R_fieldAddr (off := 5) (oo := 5) Try.underlying49 rfl rfl Try.sizeOf25 rfl rfl ?_)
   refine O_v rfl (R_loadA (cs := [(idCells ((nth l7 k).sub))]) Try.isAgg25 Try.sizeOf25 rfl rfl (H34.bx 0 rfl 5 1 5 5 _ rfl rfl rfl) ?_)
   refine O_v rfl (C_buildSliceL H34 (enc := idCh) (val := idV) ([(nth l7 k).sub] : List ID) Try.underlying22 Try.sizeOf25 Try.zeroValue25 rfl (by decide) (fun _ => rfl) (fun _ => rfl) rfl rfl (by decide) ?_)
   intro b35 w36 hb37 hx38 H39
   refine O_v rfl (C_append H39 2 rfl (bytes := 32) (l := acc) (ys := ([(nth l7 k).sub] : List ID)) Try.underlying22 rfl rfl rfl rfl rfl (by decide) rfl rfl (OwnS.sl (H39.getOwn 0 rfl) (fun _ => rfl)) (fun _ => rfl) (fun _ => rfl) (by rw [(links_in hK hr14 ha (by omega) hl1).1]; simp) (by decide) ?_)
   intro h40 w41 hg42 H43
   refine O_as (v := (slV h40 (acc ++ ([(nth l7 k).sub] : List ID)))) rfl rfl ?_
   refine O_nil (Then_n (W_seq (W_reg ?_)))
   refine O_v rfl (R_fieldAddr (off := 37) (oo := 37) Try.underlying49 rfl rfl Try.sizeOf47 rfl rfl ?_)
   refine O_v rfl (R_load1 (v := (slV ((nth l7 k).hh) ((nth l7 k).heads))) Try.isAgg47 rfl (H43.bx 1 rfl 6 1 37 37 _ rfl rfl rfl) ?_)
   refine O_v rfl (R_len_slice (a := ((nth l7 k).hh).a) (n := ((nth l7 k).heads).length) (c := ((nth l7 k).hh).c) Try.underlying47 rfl ?_)
   refine O_mv (v := (.int .i64 0)) rfl rfl ?_
   refine O_nil (Then_n (W_block ?_))
   refine W_loop (fun m45 e46 w47 => ∃ (j : Nat), ∃ (acc2 : List ID), ∃ (h44 : SlH), m45 = 0 ∧ ((nth l7 k).heads = []) ∧ (acc2 = acc ++ [(nth l7 k).sub]) ∧ ∃ eb48, e46 = envL [(2, (.slice none 0 0)), (3, (slV h44 acc2)), (7, (.pointer (some ⟨b27, 0, none⟩))), (25, (slV h6 l7)), (26, (.int .i64 (l7.length : Int))), (27, (.int .i64 (k : Int))), (28, (.bool (decide ((k : Int) < (l7.length : Int))))), (29, (.pointer (some ⟨h6.b, (h6.o + k * 38), none⟩))), (30, (aggOf (itemCh (nth l7 k)))), (31, (slV h20 acc)), (32, (.pointer (some ⟨b27, 5, none⟩))), (33, (aggOf (idCh ((nth l7 k).sub)))), (34, (slV ⟨some ⟨b35, 0, none⟩, b35, 0, 1⟩ ([(nth l7 k).sub] : List ID))), (35, (slV h40 (acc ++ ([(nth l7 k).sub] : List ID)))), (36, (.pointer (some ⟨b27, 37, none⟩))), (37, (slV ((nth l7 k).hh) ((nth l7 k).heads))), (38, (.int .i64 ((((nth l7 k).heads).length : Nat) : Int))), (39, (.int .i64 (j : Int)))] eb48 ∧ Ctx w nob w47 [rowR 25 32 idCh ⟨some ⟨b35, 0, none⟩, b35, 0, 1⟩ ([(nth l7 k).sub] : List ID), boxR b27 49 [[(.int .i64 (((nth l7 k).node).T))], [(.int .i64 (((nth l7 k).node).R))], [(.int .i64 (((nth l7 k).tm).T))], [(.int .i64 (((nth l7 k).tm).R))], [(.string ((nth l7 k).name))], (idCells ((nth l7 k).sub)), [(slV ((nth l7 k).hh) ((nth l7 k).heads))]], rowR 25 32 idCh h44 acc2, rowR 49 38 itemCh h6 l7] [deepW S8 51 34 (fun x : ItemS => x.hh) (fun x : ItemS => x.heads.length) l7, deepI S8 headCh 34 (fun x : ItemS => x.hh) (fun x : ItemS => x.heads) l7, slI (Old w) encB 1 hb b]) _ ⟨0, (acc ++ ([(nth l7 k).sub] : List ID)), h40, rfl, (links_in hK hr14 ha (by omega) hl1).2, rfl, _, envL_self ⟨rfl, rfl, rfl, rfl, rfl, rfl, rfl, rfl, rfl, rfl, rfl, rfl, rfl, rfl, rfl, rfl, rfl, rfl, trivial⟩, H43⟩ ?_
   rintro m45 _ w47 ⟨j, acc2, h44, rfl, hh, ha2, eb48, rfl, H49⟩
   refine W_seq (W_reg ?_)
   refine O_v rfl (R_cmp (a := (j : Int)) (b := ((((nth l7 k).heads).length : Nat) : Int)) (r := (decide ((j : Int) < ((((nth l7 k).heads).length : Nat) : Int)))) rfl rfl rfl ?_)
   refine O_nil (Then_n (W_seq ?_))
   refine W_cond rfl (fun hc50 => ?_) (fun hc50 => ?_)
   ·have hc50 := (of_decide_eq_true hc50)
    refine W_skip (Then_n ?_)
    exfalso; have hz := congrArg List.length hh; simp only [List.length_nil] at hz; omega
   ·have hc50 := (of_decide_eq_false hc50)
    refine W_exit (Then_x (Then_x (Blk_x (Blk_n (Then_n (W_reg ?_))))))
    refine O_v rfl (R_arith (a := (k : Int)) (b := 1) (r0 := (k : Int) + 1) (r := ((k + 1 : Nat) : Int)) rfl rfl rfl (wrapN _ (by have := links_len hK hr14 hl1; omega)) ?_)
    refine O_mv (v := (.int .i64 ((k + 1 : Nat) : Int))) rfl rfl ?_
    refine O_nil (Then_n ?_)
    have H51 := H49.sub (List.Sublist.cons _ (List.Sublist.cons _ (List.Sublist.cons_cons _ (List.Sublist.cons_cons _ List.Sublist.slnil)))) (List.forall_mem_cons.2 ⟨List.mem_of_getElem? (i := 0) rfl, List.forall_mem_cons.2 ⟨List.mem_of_getElem? (i := 1) rfl, List.forall_mem_cons.2 ⟨List.mem_of_getElem? (i := 2) rfl, memN⟩⟩⟩)
    refine ⟨_, ?_, (k + 1), acc2, h44, rfl, (by omega), (by rw [ha2]; exact links_step ha (by omega) hh), _, envL_self ⟨rfl, rfl, rfl, rfl, rfl, trivial⟩, H51⟩
    omega
  ·have hc26 := (of_decide_eq_false hc26)
   refine W_exit (Then_x (Then_x (Blk_x (Blk_n (Then_n (W_seq (W_reg ?_)))))))
   refine O_mv (v := (slV h20 acc)) rfl rfl ?_
   refine O_v rfl (R_callL (vs := [(slV h20 acc), (.func (.func 35) #[] #[])]) cF34 rfl rfl ((SortFunc_ID h20 acc 35 #[] w23 (H25.getOwn 0 rfl) cF35 trivial (lenraw (links_dirE hK hr14 ha (by omega)) hl1)).ret ?_))
   rintro _ w52 ⟨rfl, hg53, ho54⟩
   have H55 := H25.updRow 0 rfl hg53 ho54
   refine O_nil (Then_n (W_seq (W_reg ?_)))
   refine O_mv (v := (slV h20 acc)) rfl rfl ?_
   refine O_v rfl (R_callL (vs := [(slV h20 acc)]) cF36 rfl rfl ((Compact_ID h20 acc w52 (H55.getOwn 0 rfl) (lenraw (links_dirE hK hr14 ha (by omega)) hl1)).ret ?_))
   rintro _ w56 ⟨rfl, hg57, ho58⟩
   have H59 := H55.updRow 0 rfl hg57 ho58
   refine O_as (v := (slV h20 acc)) rfl rfl ?_
   refine O_nil (Then_n (W_seq (W_seq ?_)))
   refine W_rg [(0, .q 0), (1, .q 0), (2, .q 0), (3, .q 0), (4, .q 0), (5, .q 0), (6, .q 0), (7, .q 0), (8, .q 0), (9, .q 0)] (by kernel_rfl) ?_
   refine Lx_mv (v := (slV h20 acc)) rfl rfl rfl (Lx_q rfl rfl _ (fun v62 hv63 => R_len_slice (a := h20.a) (n := acc.length) (c := h20.c) Try.underlying22 rfl qk) (Lx_q rfl rfl _ (fun v64 hv65 => R_cmp (a := (acc.length : Int)) (b := 0) (r := (decide (0 < (acc.length : Int)))) rfl rfl rfl qk) (Lx_mv (v := (.bool (decide (0 < (acc.length : Int))))) rfl rfl rfl ?_)))
   refine Lx_qt rfl rfl rfl rfl rfl _ (fun hA v68 hv69 => R_move (v := (slV h20 acc)) rfl qk) ?_
   refine Lx_qt rfl rfl rfl rfl rfl _ (fun hA v70 hv71 => by
          have hP : (0 < (acc.length : Int)) := (of_decide_eq_true hA)
          exact R_index_pure (OwnS.sl (H59.getOwn 0 rfl) (fun _ => rfl)) (n := acc.length) rfl (j := 0) (oo := (h20.o + 0 * 32)) Try.underlying22 Try.sizeOf25 (gv_t hA) rfl (by omega) (by omega) rfl qk) ?_
   refine Lx_qt rfl rfl rfl rfl rfl _ (fun hA v72 hv73 => by
          have hP : (0 < (acc.length : Int)) := (of_decide_eq_true hA)
          exact R_loadA (cs := [(idCells (nth acc 0))]) Try.isAgg25 Try.sizeOf25 rfl (gv_t hA) ((Sl.elem (OwnS.sl ((H59.ext hv73).getOwn 0 rfl) (fun _ => rfl)) (i := 0) (by omega) rfl).chunks 0 1 0 (h20.o + 0 * 32) _ rfl rfl rfl) qk) ?_
   refine Lx_qt rfl rfl rfl rfl rfl _ (fun hA v74 hv75 => R_buildL (vs := []) (v := aggOf [(idCells zeroId)]) rfl (fun _ => by kernel_rfl) qk) (Lx_qt rfl rfl rfl rfl rfl _ (fun hA v76 hv77 => R_eqv (a := (nth acc 0)) (b := zeroId) eqv_ID25 rfl Try.eqGuardType25 (gv_t hA) (gv_t hA) qk) (Lx_q rfl rfl _ (fun v78 hv79 => R_pick rfl pk_and qk) ?_))
   refine Lx_nil (fun w80 hw81 => ?_)
   have H82 := H59.ext hw81
   refine Then_n ?_
   refine W_cond rfl (fun hc83 => ?_) (fun hc83 => ?_)
   ·have hc83 : ((0 < (acc.length : Int)) ∧ ((nth acc 0) = zeroId)) := (And.imp (fun h => (of_decide_eq_true h)) (fun h => (of_decide_eq_true h)) (andT hc83))
    refine W_reg ?_
    refine O_mv (v := (slV h20 acc)) rfl rfl ?_
    refine O_v rfl (R_sliceS (h := h20) (l := acc) (a := 1) (b := acc.length) (m := h20.c) (acc.drop 1) Try.underlying22 Try.sizeOf25 rfl rfl rfl rfl (by decide) (by omega) (by first | omega | exact Nat.le_refl _) (by have := Sl.cap (OwnS.sl (H82.getOwn 0 rfl) (fun _ => rfl)); omega) (by first | omega | exact Nat.le_refl _ | (have := Sl.cap (OwnS.sl (H82.getOwn 0 rfl) (fun _ => rfl)); omega)) (by rw [List.take_length])  ?_)
    refine O_as (v := (slV (hSub h20 32 1 h20.c) (acc.drop 1))) rfl rfl ?_
    refine O_nil (Then_n (W_seq (W_reg ?_)))
    refine O_mv (v := (slV (hSub h20 32 1 h20.c) (acc.drop 1))) rfl rfl (O_as (v := (slV (hSub h20 32 1 h20.c) (acc.drop 1))) rfl rfl ?_)
    refine O_nil (Then_n (W_ret ?_))
    refine ret_1 (v := (slV (hSub h20 32 1 h20.c) (acc.drop 1))) Try.results15 rfl ?_
    have hn84 := H82.newRow 0 rfl
    have H85 := H82.freeze 0 rfl (fun _ => rfl)
    have hE : acc.drop 1 = links1 b := (links_z (links_dirE hK hr14 ha (by omega)) hl1 hc83)
    exact hE ▸ ⟨hSub h20 32 1 h20.c, (fun z_ => (slV h20 acc).ownBlock = some z_), rfl, H85.gr, fun b hb => ⟨(hn84 b) hb, ((H85.imm _ (List.mem_of_getElem? (i := 0) rfl)).2 b) hb⟩, (Sl.sub (H85.sl 0 rfl) 1 acc.length h20.c (by omega) (by first | omega | exact Nat.le_refl _) (by have := Sl.cap (OwnS.sl (H82.getOwn 0 rfl) (fun _ => rfl)); omega) (by first | omega | exact Nat.le_refl _ | (have := Sl.cap (OwnS.sl (H82.getOwn 0 rfl) (fun _ => rfl)); omega)) (by rw [List.take_length]))⟩
   ·have hc83 : (¬ (0 < (acc.length : Int)) ∨ ¬ ((nth acc 0) = zeroId)) := (Or.imp (fun h => (of_decide_eq_false h)) (fun h => (of_decide_eq_false h)) (andF hc83))
    refine W_skip (Then_n (W_seq (W_reg ?_)))
    refine O_mv (v := (slV h20 acc)) rfl rfl (O_as (v := (slV h20 acc)) rfl rfl ?_)
    refine O_nil (Then_n (W_ret ?_))
    refine ret_1 (v := (slV h20 acc)) Try.results15 rfl ?_
    have hn86 := H82.newRow 0 rfl
    have H87 := H82.freeze 0 rfl (fun _ => rfl)
    have hE : acc = links1 b := (links_n (links_dirE hK hr14 ha (by omega)) hl1 hc83)
    exact hE ▸ ⟨h20, (fun z_ => (slV h20 acc).ownBlock = some z_), rfl, H87.gr, fun b hb => ⟨(hn86 b) hb, ((H87.imm _ (List.mem_of_getElem? (i := 0) rfl)).2 b) hb⟩, (H87.sl 0 rfl)⟩
 ·have hc5 := (of_decide_eq_false hc5)
  have h2 := hc5
  refine W_seq (W_reg ?_)
  refine O_v rfl (R_cmp (a := kindOf b) (b := 3) (r := (decide (kindOf b = 3))) rfl rfl rfl ?_)
  refine O_as (v := (.bool (decide (kindOf b = 3)))) rfl rfl ?_
  refine O_nil (Then_n ?_)
  refine W_cond rfl (fun hc88 => ?_) (fun hc88 => ?_)
  ·have hc88 := (of_decide_eq_true hc88)
   have hK := hc88
   refine W_seq (W_reg ?_)
   refine O_mv (v := (slV hb b)) rfl rfl ?_
   refine O_v rfl (R_callL (vs := [(slV hb b)]) cF13 rfl rfl ((obj_Change hb b w2 (H4.slOld 0 rfl) (by omega)).ret ?_))
   rintro _ w92 ⟨x89, S90, e91, rfl, hx93, ho94, ho95, h96, hS97, hs98, hW99, hr100⟩
   have H101 := H4.addChg hx93 ho94 ho95 h96 hS97 (deepI S90 stampCh 2 (fun x : OpS => x.oh) (fun x : OpS => x.over) x89.ops) (fun _ h => h) hs98
   have H102 := H101.immOf 0 rfl (deepW S90 46 2 (fun x : OpS => x.oh) (fun x : OpS => x.over.length) x89.ops) (fun _ h => h) (fun _ => hW99)
   refine O_mv (v := (.tuple #[(aggOf (changeCh x89)), (.int .i64 e91)])) rfl rfl (O_ex (v := (aggOf (changeCh x89))) rfl rfl rfl (O_ex (v := (.int .i64 e91)) rfl rfl rfl ?_))
   refine O_v rfl (C_alloc H102 [[(.slice none 0 0)], [(.int .i64 0)], [(.int .i64 0)], [(.slice none 0 0)], (idCells zeroId), [(.string ByteArray.empty)]] Try.zeroValue27 ?_)
   intro b103 w104 hb105 hx106 H107
   refine O_u (C_storeW H107 0 rfl (sub := [[(slV x89.ph x89.parents)], [(.int .i64 x89.time)], [(.int .i64 x89.r)], [(slV x89.oh x89.ops)], (idCells x89.tree), [(.string x89.msg)]]) Try.sizeOf27 rfl rfl rfl rfl rfl ?_)
   intro w108 hg109 H110
   refine O_as (v := (.int .i64 e91)) rfl rfl ?_
   refine O_nil (Then_n (W_seq ?_))
   refine W_forkd TryMixed nob (fun i => if i == 6 then 2 else 0) [(0, .q 2), (1, .q 0), (3, .q 2), (4, .q 0)] [(2, .c 0), (5, .c 0), (6, .c 2), (7, .q 2)] [(5, .c 0), (2, .c 0), (6, .c 2), (7, .q 2)] (by kernel_rfl) ?_
   refine Lx_q rfl rfl _ (fun v111 hv112 => R_fieldAddr (off := 0) (oo := 0) Try.underlying27 rfl rfl Try.sizeOf22 rfl rfl qk) (Lx_q rfl rfl _ (fun v113 hv114 => R_load1 (v := (slV x89.ph x89.parents)) Try.isAgg22 rfl ((H110.ext hv114).bx 0 rfl 0 1 0 0 _ rfl rfl rfl) qk) (Lx_q rfl rfl _ (fun v115 hv116 => R_fieldAddr (off := 4) (oo := 4) Try.underlying27 rfl rfl Try.sizeOf25 rfl rfl qk) (Lx_q rfl rfl _ (fun v117 hv118 => R_loadA (cs := [(idCells x89.tree)]) Try.isAgg25 Try.sizeOf25 rfl rfl ((H110.ext hv118).bx 0 rfl 4 1 4 4 _ rfl rfl rfl) qk) ?_)))
   refine Lx_nil (fun w119 hw120 => ⟨?_, ?_⟩)
   ·have H121 := H110.ext hw120
    refine Lx_c rfl rfl (fun w122 hw123 => ?_)
    have H124 := H121.ext hw123
    refine (R_callL (vs := [(slV x89.ph x89.parents)]) cF33 rfl rfl ((Clone_ID x89.ph x89.parents w122 (H124.rowSl 1 rfl (fun _ => rfl)) (by rw [(links_one hK hr100 hl1).1]; simp)).ret ?_))
    rintro _ w126 ⟨h125, rfl, hx127, ho128⟩
    have H129 := H124.addRow hx127 ho128
    refine ⟨GrF.ofExt hx127, ?_⟩
    refine Lx_c rfl rfl (fun w130 hw131 => ?_)
    have H132 := H129.ext hw131
    refine (C_buildSliceL H132 (enc := idCh) (val := idV) ([x89.tree] : List ID) Try.underlying22 Try.sizeOf25 Try.zeroValue25 rfl (by decide) (fun _ => rfl) (fun _ => rfl) rfl rfl (by decide) ?_)
    intro b133 w134 hb135 hx136 H137
    refine ⟨GrF.ofExt hx136, ?_⟩
    refine Lx_c rfl rfl (fun w138 hw139 => ?_)
    have H140 := H137.ext hw139
    refine (C_append H140 1 rfl (bytes := 32) (l := x89.parents) (ys := ([x89.tree] : List ID)) Try.underlying22 rfl rfl rfl rfl rfl (by decide) rfl rfl (OwnS.sl (H140.getOwn 0 rfl) (fun _ => rfl)) (fun _ => rfl) (fun _ => rfl) (by rw [(links_one hK hr100 hl1).1]; simp) (by decide) ?_)
    intro h141 w142 hg143 H144
    refine ⟨Gr.mono (M' := fun _ => True) hg143 (fun _ _ => trivial), ?_⟩
    refine Lx_q rfl rfl _ (fun v145 hv146 => R_assign (v := (slV h141 (x89.parents ++ ([x89.tree] : List ID)))) rfl qk) ?_
    refine Lx_nil (fun w147 hw148 => ?_)
    have H149 := H144.ext hw148
    refine Then_n (W_seq (W_reg ?_))
    refine O_v rfl (R_fieldAddr (off := 3) (oo := 3) Try.underlying27 rfl rfl Try.sizeOf23 rfl rfl ?_)
    refine O_v rfl (R_load1 (v := (slV x89.oh x89.ops)) Try.isAgg23 rfl (H149.bx 2 rfl 3 1 3 3 _ rfl rfl rfl) ?_)
    refine O_v rfl (R_len_slice (a := x89.oh.a) (n := x89.ops.length) (c := x89.oh.c) Try.underlying23 rfl ?_)
    refine O_mv (v := (.int .i64 0)) rfl rfl ?_
    refine O_nil (Then_n (W_block ?_))
    refine W_loop (fun m151 e152 w153 => ∃ (j : Nat), ∃ (acc3 : List ID), ∃ (h150 : SlH), m151 = 0 ∧ (x89.ops = []) ∧ (acc3 = x89.parents ++ [x89.tree]) ∧ ∃ eb154, e152 = envL [(2, (.slice none 0 0)), (3, (slV h150 acc3)), (65, (slV x89.oh x89.ops)), (66, (.int .i64 (x89.ops.length : Int))), (67, (.int .i64 (j : Int)))] eb154 ∧ Ctx w nob w153 [rowR 25 32 idCh ⟨some ⟨b133, 0, none⟩, b133, 0, 1⟩ ([x89.tree] : List ID), rowR 25 32 idCh h150 acc3, boxR b103 27 [[(slV x89.ph x89.parents)], [(.int .i64 x89.time)], [(.int .i64 x89.r)], [(slV x89.oh x89.ops)], (idCells x89.tree), [(.string x89.msg)]], rowR 25 32 idCh x89.ph x89.parents, rowR 56 41 opCh x89.oh x89.ops] [deepW S90 46 2 (fun x : OpS => x.oh) (fun x : OpS => x.over.length) x89.ops, deepI S90 stampCh 2 (fun x : OpS => x.oh) (fun x : OpS => x.over) x89.ops, slI (Old w) encB 1 hb b]) _ ⟨0, (x89.parents ++ ([x89.tree] : List ID)), h141, rfl, (links_one hK hr100 hl1).2, rfl, _, envL_self ⟨rfl, rfl, rfl, rfl, rfl, trivial⟩, H149⟩ ?_
    rintro m151 _ w153 ⟨j, acc3, h150, rfl, hh, ha3, eb154, rfl, H155⟩
    refine W_seq (W_reg ?_)
    refine O_v rfl (R_cmp (a := (j : Int)) (b := (x89.ops.length : Int)) (r := (decide ((j : Int) < (x89.ops.length : Int)))) rfl rfl rfl ?_)
    refine O_nil (Then_n (W_seq ?_))
    refine W_cond rfl (fun hc156 => ?_) (fun hc156 => ?_)
    ·have hc156 := (of_decide_eq_true hc156)
     refine W_skip (Then_n ?_)
     exfalso; have hz := congrArg List.length hh; simp only [List.length_nil] at hz; omega
    ·have hc156 := (of_decide_eq_false hc156)
     refine W_exit (Then_x (Then_x (Blk_x (Blk_n (Then_n (W_seq (W_reg ?_)))))))
     refine O_mv (v := (slV h150 acc3)) rfl rfl ?_
     refine O_v rfl (R_callL (vs := [(slV h150 acc3), (.func (.func 35) #[] #[])]) cF34 rfl rfl ((SortFunc_ID h150 acc3 35 #[] w153 (H155.getOwn 1 rfl) cF35 trivial (lenraw (links_chgE hK hr100 ha3 hh) hl1)).ret ?_))
     rintro _ w157 ⟨rfl, hg158, ho159⟩
     have H160 := H155.updRow 1 rfl hg158 ho159
     refine O_nil (Then_n (W_seq (W_reg ?_)))
     refine O_mv (v := (slV h150 acc3)) rfl rfl ?_
     refine O_v rfl (R_callL (vs := [(slV h150 acc3)]) cF36 rfl rfl ((Compact_ID h150 acc3 w157 (H160.getOwn 1 rfl) (lenraw (links_chgE hK hr100 ha3 hh) hl1)).ret ?_))
     rintro _ w161 ⟨rfl, hg162, ho163⟩
     have H164 := H160.updRow 1 rfl hg162 ho163
     refine O_as (v := (slV h150 acc3)) rfl rfl ?_
     refine O_nil (Then_n (W_seq (W_seq ?_)))
     refine W_rg [(0, .q 0), (1, .q 0), (2, .q 0), (3, .q 0), (4, .q 0), (5, .q 0), (6, .q 0), (7, .q 0), (8, .q 0), (9, .q 0)] (by kernel_rfl) ?_
     refine Lx_mv (v := (slV h150 acc3)) rfl rfl rfl (Lx_q rfl rfl _ (fun v167 hv168 => R_len_slice (a := h150.a) (n := acc3.length) (c := h150.c) Try.underlying22 rfl qk) (Lx_q rfl rfl _ (fun v169 hv170 => R_cmp (a := (acc3.length : Int)) (b := 0) (r := (decide (0 < (acc3.length : Int)))) rfl rfl rfl qk) (Lx_mv (v := (.bool (decide (0 < (acc3.length : Int))))) rfl rfl rfl ?_)))
     refine Lx_qt rfl rfl rfl rfl rfl _ (fun hA v173 hv174 => R_move (v := (slV h150 acc3)) rfl qk) ?_
     refine Lx_qt rfl rfl rfl rfl rfl _ (fun hA v175 hv176 => by
              have hP : (0 < (acc3.length : Int)) := (of_decide_eq_true hA)
              exact R_index_pure (OwnS.sl (H164.getOwn 1 rfl) (fun _ => rfl)) (n := acc3.length) rfl (j := 0) (oo := (h150.o + 0 * 32)) Try.underlying22 Try.sizeOf25 (gv_t hA) rfl (by omega) (by omega) rfl qk) ?_
     refine Lx_qt rfl rfl rfl rfl rfl _ (fun hA v177 hv178 => by
              have hP : (0 < (acc3.length : Int)) := (of_decide_eq_true hA)
              exact R_loadA (cs := [(idCells (nth acc3 0))]) Try.isAgg25 Try.sizeOf25 rfl (gv_t hA) ((Sl.elem (OwnS.sl ((H164.ext hv178).getOwn 1 rfl) (fun _ => rfl)) (i := 0) (by omega) rfl).chunks 0 1 0 (h150.o + 0 * 32) _ rfl rfl rfl) qk) ?_
     refine Lx_qt rfl rfl rfl rfl rfl _ (fun hA v179 hv180 => R_buildL (vs := []) (v := aggOf [(idCells zeroId)]) rfl (fun _ => by kernel_rfl) qk) (Lx_qt rfl rfl rfl rfl rfl _ (fun hA v181 hv182 => R_eqv (a := (nth acc3 0)) (b := zeroId) eqv_ID25 rfl Try.eqGuardType25 (gv_t hA) (gv_t hA) qk) (Lx_q rfl rfl _ (fun v183 hv184 => R_pick rfl pk_and qk) ?_))
     refine Lx_nil (fun w185 hw186 => ?_)
     have H187 := H164.ext hw186
     refine Then_n ?_
     refine W_cond rfl (fun hc188 => ?_) (fun hc188 => ?_)
     ·have hc188 : ((0 < (acc3.length : Int)) ∧ ((nth acc3 0) = zeroId)) := (And.imp (fun h => (of_decide_eq_true h)) (fun h => (of_decide_eq_true h)) (andT hc188))
      refine W_reg ?_
      refine O_mv (v := (slV h150 acc3)) rfl rfl ?_
      refine O_v rfl (R_sliceS (h := h150) (l := acc3) (a := 1) (b := acc3.length) (m := h150.c) (acc3.drop 1) Try.underlying22 Try.sizeOf25 rfl rfl rfl rfl (by decide) (by omega) (by first | omega | exact Nat.le_refl _) (by have := Sl.cap (OwnS.sl (H187.getOwn 1 rfl) (fun _ => rfl)); omega) (by first | omega | exact Nat.le_refl _ | (have := Sl.cap (OwnS.sl (H187.getOwn 1 rfl) (fun _ => rfl)); omega)) (by rw [List.take_length])  ?_)
      refine O_as (v := (slV (hSub h150 32 1 h150.c) (acc3.drop 1))) rfl rfl ?_
      refine O_nil (Then_n (W_seq (W_reg ?_)))
      refine O_mv (v := (slV (hSub h150 32 1 h150.c) (acc3.drop 1))) rfl rfl (O_as (v := (slV (hSub h150 32 1 h150.c) (acc3.drop 1))) rfl rfl ?_)
      refine O_nil (Then_n (W_ret ?_))
      refine ret_1 (v := (slV (hSub h150 32 1 h150.c) (acc3.drop 1))) Try.results15 rfl ?_
      have hn189 := H187.newRow 1 rfl
      have H190 := H187.freeze 1 rfl (fun _ => rfl)
      have hE : acc3.drop 1 = links1 b := (links_z (links_chgE hK hr100 ha3 hh) hl1 hc188)
      exact hE ▸ ⟨hSub h150 32 1 h150.c, (fun z_ => (slV h150 acc3).ownBlock = some z_), rfl, H190.gr, fun b hb => ⟨(hn189 b) hb, ((H190.imm _ (List.mem_of_getElem? (i := 0) rfl)).2 b) hb⟩, (Sl.sub (H190.sl 0 rfl) 1 acc3.length h150.c (by omega) (by first | omega | exact Nat.le_refl _) (by have := Sl.cap (OwnS.sl (H187.getOwn 1 rfl) (fun _ => rfl)); omega) (by first | omega | exact Nat.le_refl _ | (have := Sl.cap (OwnS.sl (H187.getOwn 1 rfl) (fun _ => rfl)); omega)) (by rw [List.take_length]))⟩
     ·have hc188 : (¬ (0 < (acc3.length : Int)) ∨ ¬ ((nth acc3 0) = zeroId)) := (Or.imp (fun h => (of_decide_eq_false h)) (fun h => (of_decide_eq_false h)) (andF hc188))
      refine W_skip (Then_n (W_seq (W_reg ?_)))
      refine O_mv (v := (slV h150 acc3)) rfl rfl (O_as (v := (slV h150 acc3)) rfl rfl ?_)
      refine O_nil (Then_n (W_ret ?_))
      refine ret_1 (v := (slV h150 acc3)) Try.results15 rfl ?_
      have hn191 := H187.newRow 1 rfl
      have H192 := H187.freeze 1 rfl (fun _ => rfl)
      have hE : acc3 = links1 b := (links_n (links_chgE hK hr100 ha3 hh) hl1 hc188)
      exact hE ▸ ⟨h150, (fun z_ => (slV h150 acc3).ownBlock = some z_), rfl, H192.gr, fun b hb => ⟨(hn191 b) hb, ((H192.imm _ (List.mem_of_getElem? (i := 0) rfl)).2 b) hb⟩, (H192.sl 0 rfl)⟩
   ·have H121 := H110.ext hw120
    refine Lx_c rfl rfl (fun w193 hw194 => ?_)
    have H195 := H121.ext hw194
    refine (C_buildSliceL H195 (enc := idCh) (val := idV) ([x89.tree] : List ID) Try.underlying22 Try.sizeOf25 Try.zeroValue25 rfl (by decide) (fun _ => rfl) (fun _ => rfl) rfl rfl (by decide) ?_)
    intro b196 w197 hb198 hx199 H200
    refine ⟨GrF.ofExt hx199, ?_⟩
    refine Lx_c rfl rfl (fun w201 hw202 => ?_)
    have H203 := H200.ext hw202
    refine (R_callL (vs := [(slV x89.ph x89.parents)]) cF33 rfl rfl ((Clone_ID x89.ph x89.parents w201 (H203.rowSl 2 rfl (fun _ => rfl)) (by rw [(links_one hK hr100 hl1).1]; simp)).ret ?_))
    rintro _ w205 ⟨h204, rfl, hx206, ho207⟩
    have H208 := H203.addRow hx206 ho207
    refine ⟨GrF.ofExt hx206, ?_⟩
    refine Lx_c rfl rfl (fun w209 hw210 => ?_)
    have H211 := H208.ext hw210
    refine (C_append H211 0 rfl (bytes := 32) (l := x89.parents) (ys := ([x89.tree] : List ID)) Try.underlying22 rfl rfl rfl rfl rfl (by decide) rfl rfl (OwnS.sl (H211.getOwn 1 rfl) (fun _ => rfl)) (fun _ => rfl) (fun _ => rfl) (by rw [(links_one hK hr100 hl1).1]; simp) (by decide) ?_)
    intro h212 w213 hg214 H215
    refine ⟨Gr.mono (M' := fun _ => True) hg214 (fun _ _ => trivial), ?_⟩
    refine Lx_q rfl rfl _ (fun v216 hv217 => R_assign (v := (slV h212 (x89.parents ++ ([x89.tree] : List ID)))) rfl qk) ?_
    refine Lx_nil (fun w218 hw219 => ?_)
    have H220 := H215.ext hw219
    refine Then_n (W_seq (W_reg ?_))
    refine O_v rfl (R_fieldAddr (off := 3) (oo := 3) Try.underlying27 rfl rfl Try.sizeOf23 rfl rfl ?_)
    refine O_v rfl (R_load1 (v := (slV x89.oh x89.ops)) Try.isAgg23 rfl (H220.bx 2 rfl 3 1 3 3 _ rfl rfl rfl) ?_)
    refine O_v rfl (R_len_slice (a := x89.oh.a) (n := x89.ops.length) (c := x89.oh.c) Try.underlying23 rfl ?_)
    refine O_mv (v := (.int .i64 0)) rfl rfl ?_
    refine O_nil (Then_n (W_block ?_))
    refine W_loop (fun m222 e223 w224 => ∃ (j : Nat), ∃ (acc3 : List ID), ∃ (h221 : SlH), m222 = 0 ∧ (x89.ops = []) ∧ (acc3 = x89.parents ++ [x89.tree]) ∧ ∃ eb225, e223 = envL [(2, (.slice none 0 0)), (3, (slV h221 acc3)), (65, (slV x89.oh x89.ops)), (66, (.int .i64 (x89.ops.length : Int))), (67, (.int .i64 (j : Int)))] eb225 ∧ Ctx w nob w224 [rowR 25 32 idCh h221 acc3, rowR 25 32 idCh ⟨some ⟨b196, 0, none⟩, b196, 0, 1⟩ ([x89.tree] : List ID), boxR b103 27 [[(slV x89.ph x89.parents)], [(.int .i64 x89.time)], [(.int .i64 x89.r)], [(slV x89.oh x89.ops)], (idCells x89.tree), [(.string x89.msg)]], rowR 25 32 idCh x89.ph x89.parents, rowR 56 41 opCh x89.oh x89.ops] [deepW S90 46 2 (fun x : OpS => x.oh) (fun x : OpS => x.over.length) x89.ops, deepI S90 stampCh 2 (fun x : OpS => x.oh) (fun x : OpS => x.over) x89.ops, slI (Old w) encB 1 hb b]) _ ⟨0, (x89.parents ++ ([x89.tree] : List ID)), h212, rfl, (links_one hK hr100 hl1).2, rfl, _, envL_self ⟨rfl, rfl, rfl, rfl, rfl, trivial⟩, H220⟩ ?_
    rintro m222 _ w224 ⟨j, acc3, h221, rfl, hh, ha3, eb225, rfl, H226⟩
    refine W_seq (W_reg ?_)
    refine O_v rfl (R_cmp (a := (j : Int)) (b := (x89.ops.length : Int)) (r := (decide ((j : Int) < (x89.ops.length : Int)))) rfl rfl rfl ?_)
    refine O_nil (Then_n (W_seq ?_))
    refine W_cond rfl (fun hc227 => ?_) (fun hc227 => ?_)
    ·have hc227 := (of_decide_eq_true hc227)
     refine W_skip (Then_n ?_)
     exfalso; have hz := congrArg List.length hh; simp only [List.length_nil] at hz; omega
    ·have hc227 := (of_decide_eq_false hc227)
     refine W_exit (Then_x (Then_x (Blk_x (Blk_n (Then_n (W_seq (W_reg ?_)))))))
     refine O_mv (v := (slV h221 acc3)) rfl rfl ?_
     refine O_v rfl (R_callL (vs := [(slV h221 acc3), (.func (.func 35) #[] #[])]) cF34 rfl rfl ((SortFunc_ID h221 acc3 35 #[] w224 (H226.getOwn 0 rfl) cF35 trivial (lenraw (links_chgE hK hr100 ha3 hh) hl1)).ret ?_))
     rintro _ w228 ⟨rfl, hg229, ho230⟩
     have H231 := H226.updRow 0 rfl hg229 ho230
     refine O_nil (Then_n (W_seq (W_reg ?_)))
     refine O_mv (v := (slV h221 acc3)) rfl rfl ?_
     refine O_v rfl (R_callL (vs := [(slV h221 acc3)]) cF36 rfl rfl ((Compact_ID h221 acc3 w228 (H231.getOwn 0 rfl) (lenraw (links_chgE hK hr100 ha3 hh) hl1)).ret ?_))
     rintro _ w232 ⟨rfl, hg233, ho234⟩
     have H235 := H231.updRow 0 rfl hg233 ho234
     refine O_as (v := (slV h221 acc3)) rfl rfl ?_
     refine O_nil (Then_n (W_seq (W_seq ?_)))
     refine W_rg [(0, .q 0), (1, .q 0), (2, .q 0), (3, .q 0), (4, .q 0), (5, .q 0), (6, .q 0), (7, .q 0), (8, .q 0), (9, .q 0)] (by kernel_rfl) ?_
     refine Lx_mv (v := (slV h221 acc3)) rfl rfl rfl (Lx_q rfl rfl _ (fun v238 hv239 => R_len_slice (a := h221.a) (n := acc3.length) (c := h221.c) Try.underlying22 rfl qk) (Lx_q rfl rfl _ (fun v240 hv241 => R_cmp (a := (acc3.length : Int)) (b := 0) (r := (decide (0 < (acc3.length : Int)))) rfl rfl rfl qk) (Lx_mv (v := (.bool (decide (0 < (acc3.length : Int))))) rfl rfl rfl ?_)))
     refine Lx_qt rfl rfl rfl rfl rfl _ (fun hA v244 hv245 => R_move (v := (slV h221 acc3)) rfl qk) ?_
     refine Lx_qt rfl rfl rfl rfl rfl _ (fun hA v246 hv247 => by
              have hP : (0 < (acc3.length : Int)) := (of_decide_eq_true hA)
              exact R_index_pure (OwnS.sl (H235.getOwn 0 rfl) (fun _ => rfl)) (n := acc3.length) rfl (j := 0) (oo := (h221.o + 0 * 32)) Try.underlying22 Try.sizeOf25 (gv_t hA) rfl (by omega) (by omega) rfl qk) ?_
     refine Lx_qt rfl rfl rfl rfl rfl _ (fun hA v248 hv249 => by
              have hP : (0 < (acc3.length : Int)) := (of_decide_eq_true hA)
              exact R_loadA (cs := [(idCells (nth acc3 0))]) Try.isAgg25 Try.sizeOf25 rfl (gv_t hA) ((Sl.elem (OwnS.sl ((H235.ext hv249).getOwn 0 rfl) (fun _ => rfl)) (i := 0) (by omega) rfl).chunks 0 1 0 (h221.o + 0 * 32) _ rfl rfl rfl) qk) ?_
     refine Lx_qt rfl rfl rfl rfl rfl _ (fun hA v250 hv251 => R_buildL (vs := []) (v := aggOf [(idCells zeroId)]) rfl (fun _ => by kernel_rfl) qk) (Lx_qt rfl rfl rfl rfl rfl _ (fun hA v252 hv253 => R_eqv (a := (nth acc3 0)) (b := zeroId) eqv_ID25 rfl Try.eqGuardType25 (gv_t hA) (gv_t hA) qk) (Lx_q rfl rfl _ (fun v254 hv255 => R_pick rfl pk_and qk) ?_))
     refine Lx_nil (fun w256 hw257 => ?_)
     have H258 := H235.ext hw257
     refine Then_n ?_
     refine W_cond rfl (fun hc259 => ?_) (fun hc259 => ?_)
     ·have hc259 : ((0 < (acc3.length : Int)) ∧ ((nth acc3 0) = zeroId)) := (And.imp (fun h => (of_decide_eq_true h)) (fun h => (of_decide_eq_true h)) (andT hc259))
      refine W_reg ?_
      refine O_mv (v := (slV h221 acc3)) rfl rfl ?_
      refine O_v rfl (R_sliceS (h := h221) (l := acc3) (a := 1) (b := acc3.length) (m := h221.c) (acc3.drop 1) Try.underlying22 Try.sizeOf25 rfl rfl rfl rfl (by decide) (by omega) (by first | omega | exact Nat.le_refl _) (by have := Sl.cap (OwnS.sl (H258.getOwn 0 rfl) (fun _ => rfl)); omega) (by first | omega | exact Nat.le_refl _ | (have := Sl.cap (OwnS.sl (H258.getOwn 0 rfl) (fun _ => rfl)); omega)) (by rw [List.take_length])  ?_)
      refine O_as (v := (slV (hSub h221 32 1 h221.c) (acc3.drop 1))) rfl rfl ?_
      refine O_nil (Then_n (W_seq (W_reg ?_)))
      refine O_mv (v := (slV (hSub h221 32 1 h221.c) (acc3.drop 1))) rfl rfl (O_as (v := (slV (hSub h221 32 1 h221.c) (acc3.drop 1))) rfl rfl ?_)
      refine O_nil (Then_n (W_ret ?_))
      refine ret_1 (v := (slV (hSub h221 32 1 h221.c) (acc3.drop 1))) Try.results15 rfl ?_
      have hn260 := H258.newRow 0 rfl
      have H261 := H258.freeze 0 rfl (fun _ => rfl)
      have hE : acc3.drop 1 = links1 b := (links_z (links_chgE hK hr100 ha3 hh) hl1 hc259)
      exact hE ▸ ⟨hSub h221 32 1 h221.c, (fun z_ => (slV h221 acc3).ownBlock = some z_), rfl, H261.gr, fun b hb => ⟨(hn260 b) hb, ((H261.imm _ (List.mem_of_getElem? (i := 0) rfl)).2 b) hb⟩, (Sl.sub (H261.sl 0 rfl) 1 acc3.length h221.c (by omega) (by first | omega | exact Nat.le_refl _) (by have := Sl.cap (OwnS.sl (H258.getOwn 0 rfl) (fun _ => rfl)); omega) (by first | omega | exact Nat.le_refl _ | (have := Sl.cap (OwnS.sl (H258.getOwn 0 rfl) (fun _ => rfl)); omega)) (by rw [List.take_length]))⟩
     ·have hc259 : (¬ (0 < (acc3.length : Int)) ∨ ¬ ((nth acc3 0) = zeroId)) := (Or.imp (fun h => (of_decide_eq_false h)) (fun h => (of_decide_eq_false h)) (andF hc259))
      refine W_skip (Then_n (W_seq (W_reg ?_)))
      refine O_mv (v := (slV h221 acc3)) rfl rfl (O_as (v := (slV h221 acc3)) rfl rfl ?_)
      refine O_nil (Then_n (W_ret ?_))
      refine ret_1 (v := (slV h221 acc3)) Try.results15 rfl ?_
      have hn262 := H258.newRow 0 rfl
      have H263 := H258.freeze 0 rfl (fun _ => rfl)
      have hE : acc3 = links1 b := (links_n (links_chgE hK hr100 ha3 hh) hl1 hc259)
      exact hE ▸ ⟨h221, (fun z_ => (slV h221 acc3).ownBlock = some z_), rfl, H263.gr, fun b hb => ⟨(hn262 b) hb, ((H263.imm _ (List.mem_of_getElem? (i := 0) rfl)).2 b) hb⟩, (H263.sl 0 rfl)⟩
  ·have hc88 := (of_decide_eq_false hc88)
   have h3 := hc88
   refine W_seq (W_reg ?_)
   refine O_v rfl (R_cmp (a := kindOf b) (b := 4) (r := (decide (kindOf b = 4))) rfl rfl rfl ?_)
   refine O_as (v := (.bool (decide (kindOf b = 4)))) rfl rfl ?_
   refine O_nil (Then_n ?_)
   refine W_cond rfl (fun hc264 => ?_) (fun hc264 => ?_)
   ·have hc264 := (of_decide_eq_true hc264)
    have hK := hc264
    refine W_seq (W_reg ?_)
    refine O_mv (v := (slV hb b)) rfl rfl ?_
    refine O_v rfl (R_callL (vs := [(slV hb b)]) cF9 rfl rfl ((obj_Label hb b w2 (H4.slOld 0 rfl) (by omega)).ret ?_))
    rintro _ w265 ⟨rfl, hx266⟩
    have H267 := H4.ext hx266
    refine O_mv (v := (.tuple #[(aggOf (labelCh ((labelOf b).1))), (.int .i64 ((labelOf b).2))])) rfl rfl (O_ex (v := (aggOf (labelCh ((labelOf b).1)))) rfl rfl rfl (O_ex (v := (.int .i64 ((labelOf b).2))) rfl rfl rfl ?_))
    refine O_v rfl (C_alloc H267 [(idCells zeroId), [(.string ByteArray.empty)], [(.string ByteArray.empty)]] Try.zeroValue29 ?_)
    intro b268 w269 hb270 hx271 H272
    refine O_u (C_storeW H272 0 rfl (sub := [(idCells (((labelOf b).1).target)), [(.string (((labelOf b).1).name))], [(.string (((labelOf b).1).msg))]]) Try.sizeOf29 rfl rfl rfl rfl rfl ?_)
    intro w273 hg274 H275
    refine O_as (v := (.int .i64 ((labelOf b).2))) rfl rfl ?_
    refine O_nil (Then_n (W_reg ?_))
    refine O_mv (v := (.slice none 0 0)) rfl rfl ?_
    refine O_v rfl (R_fieldAddr (off := 0) (oo := 0) Try.underlying29 rfl rfl Try.sizeOf25 rfl rfl ?_)
    refine O_v rfl (R_loadA (cs := [(idCells (((labelOf b).1).target))]) Try.isAgg25 Try.sizeOf25 rfl rfl (H275.bx 0 rfl 0 1 0 0 _ rfl rfl rfl) ?_)
    refine O_v rfl (C_buildSliceL H275 (enc := idCh) (val := idV) ([((labelOf b).1).target] : List ID) Try.underlying22 Try.sizeOf25 Try.zeroValue25 rfl (by decide) (fun _ => rfl) (fun _ => rfl) rfl rfl (by decide) ?_)
    intro b276 w277 hb278 hx279 H280
    have H281 := H280.addNil 25 32 idCh
    refine O_v rfl (C_append H281 0 rfl (bytes := 32) (l := ([] : List ID)) (ys := ([((labelOf b).1).target] : List ID)) Try.underlying22 rfl rfl rfl rfl rfl (by decide) rfl rfl (OwnS.sl (H281.getOwn 1 rfl) (fun _ => rfl)) (fun _ => rfl) (fun _ => rfl) (by simp) (by decide) ?_)
    intro h282 w283 hg284 H285
    refine O_as (v := (slV h282 (([] : List ID) ++ ([((labelOf b).1).target] : List ID)))) rfl rfl ?_
    refine O_nil (Blk_n (Then_n (W_seq (W_reg ?_))))
    refine O_mv (v := (slV h282 (([] : List ID) ++ ([((labelOf b).1).target] : List ID)))) rfl rfl ?_
    refine O_v rfl (R_callL (vs := [(slV h282 (([] : List ID) ++ ([((labelOf b).1).target] : List ID))), (.func (.func 35) #[] #[])]) cF34 rfl rfl ((SortFunc_ID h282 (([] : List ID) ++ ([((labelOf b).1).target] : List ID)) 35 #[] w283 (H285.getOwn 0 rfl) cF35 trivial (lenraw (links_lab hK).symm hl1)).ret ?_))
    rintro _ w286 ⟨rfl, hg287, ho288⟩
    have H289 := H285.updRow 0 rfl hg287 ho288
    refine O_nil (Then_n (W_seq (W_reg ?_)))
    refine O_mv (v := (slV h282 (([] : List ID) ++ ([((labelOf b).1).target] : List ID)))) rfl rfl ?_
    refine O_v rfl (R_callL (vs := [(slV h282 (([] : List ID) ++ ([((labelOf b).1).target] : List ID)))]) cF36 rfl (lst1 (slV_len (l := (([] : List ID) ++ ([((labelOf b).1).target] : List ID))) (l' := (([] : List ID) ++ ([((labelOf b).1).target] : List ID))) (by omega))) ((Compact_ID h282 (([] : List ID) ++ ([((labelOf b).1).target] : List ID)) w286 (H289.getOwn 0 rfl) (lenraw (links_lab hK).symm hl1)).ret ?_))
    rintro _ w290 ⟨rfl, hg291, ho292⟩
    have H293 := H289.updRow 0 rfl hg291 ho292
    refine O_as (v := (slV h282 (([] : List ID) ++ ([((labelOf b).1).target] : List ID)))) rfl rfl ?_
    refine O_nil (Then_n (W_seq (W_seq ?_)))
    refine W_rg [(0, .q 0), (1, .q 0), (2, .q 0), (3, .q 0), (4, .q 0), (5, .q 0), (6, .q 0), (7, .q 0), (8, .q 0), (9, .q 0)] (by kernel_rfl) ?_
    refine Lx_mv (v := (slV h282 (([] : List ID) ++ ([((labelOf b).1).target] : List ID)))) rfl rfl rfl (Lx_q rfl rfl _ (fun v296 hv297 => R_len_slice (a := h282.a) (n := (([] : List ID) ++ ([((labelOf b).1).target] : List ID)).length) (c := h282.c) Try.underlying22 rfl qk) (Lx_q rfl rfl _ (fun v298 hv299 => R_cmp (a := (((([] : List ID) ++ ([((labelOf b).1).target] : List ID)).length : Nat) : Int)) (b := 0) (r := (decide (0 < (((([] : List ID) ++ ([((labelOf b).1).target] : List ID)).length : Nat) : Int)))) rfl rfl rfl qk) (Lx_mv (v := (.bool (decide (0 < (((([] : List ID) ++ ([((labelOf b).1).target] : List ID)).length : Nat) : Int))))) rfl rfl rfl ?_)))
    refine Lx_qt rfl rfl rfl rfl rfl _ (fun hA v302 hv303 => R_move (v := (slV h282 (([] : List ID) ++ ([((labelOf b).1).target] : List ID)))) rfl qk) ?_
    refine Lx_qt rfl rfl rfl rfl rfl _ (fun hA v304 hv305 => by
            have hP : (0 < (((([] : List ID) ++ ([((labelOf b).1).target] : List ID)).length : Nat) : Int)) := (of_decide_eq_true hA)
            exact R_index_pure (OwnS.sl (H293.getOwn 0 rfl) (fun _ => rfl)) (n := (([] : List ID) ++ ([((labelOf b).1).target] : List ID)).length) rfl (j := 0) (oo := (h282.o + 0 * 32)) Try.underlying22 Try.sizeOf25 (gv_t hA) rfl (by omega) (by omega) rfl qk) ?_
    refine Lx_qt rfl rfl rfl rfl rfl _ (fun hA v306 hv307 => by
            have hP : (0 < (((([] : List ID) ++ ([((labelOf b).1).target] : List ID)).length : Nat) : Int)) := (of_decide_eq_true hA)
            exact R_loadA (cs := [(idCells (nth (([] : List ID) ++ ([((labelOf b).1).target] : List ID)) 0))]) Try.isAgg25 Try.sizeOf25 rfl (gv_t hA) ((Sl.elem (OwnS.sl ((H293.ext hv307).getOwn 0 rfl) (fun _ => rfl)) (i := 0) (by omega) rfl).chunks 0 1 0 (h282.o + 0 * 32) _ rfl rfl rfl) qk) ?_
    refine Lx_qt rfl rfl rfl rfl rfl _ (fun hA v308 hv309 => R_buildL (vs := []) (v := aggOf [(idCells zeroId)]) rfl (fun _ => by kernel_rfl) qk) (Lx_qt rfl rfl rfl rfl rfl _ (fun hA v310 hv311 => R_eqv (a := (nth (([] : List ID) ++ ([((labelOf b).1).target] : List ID)) 0)) (b := zeroId) eqv_ID25 rfl Try.eqGuardType25 (gv_t hA) (gv_t hA) qk) (Lx_q rfl rfl _ (fun v312 hv313 => R_pick (t := (decide (0 < (((([] : List ID) ++ ([((labelOf b).1).target] : List ID)).length : Nat) : Int)))) (v := (.bool ((decide (0 < (((([] : List ID) ++ ([((labelOf b).1).target] : List ID)).length : Nat) : Int))) && (decide ((nth (([] : List ID) ++ ([((labelOf b).1).target] : List ID)) 0) = zeroId))))) rfl pk_and qk) ?_))
    refine Lx_nil (fun w314 hw315 => ?_)
    have H316 := H293.ext hw315
    refine Then_n ?_
    refine W_cond rfl (fun hc317 => ?_) (fun hc317 => ?_)
    ·have hc317 : ((0 < (((([] : List ID) ++ ([((labelOf b).1).target] : List ID)).length : Nat) : Int)) ∧ ((nth (([] : List ID) ++ ([((labelOf b).1).target] : List ID)) 0) = zeroId)) := (And.imp (fun h => (of_decide_eq_true h)) (fun h => (of_decide_eq_true h)) (andT hc317))
     refine W_reg ?_
     refine O_mv (v := (slV h282 (([] : List ID) ++ ([((labelOf b).1).target] : List ID)))) rfl rfl ?_
     refine O_v rfl (R_sliceS (h := h282) (l := (([] : List ID) ++ ([((labelOf b).1).target] : List ID))) (a := 1) (b := (([] : List ID) ++ ([((labelOf b).1).target] : List ID)).length) (m := h282.c) ((([] : List ID) ++ ([((labelOf b).1).target] : List ID)).drop 1) Try.underlying22 Try.sizeOf25 rfl rfl rfl rfl (by decide) (by omega) (by first | omega | exact Nat.le_refl _) (by have := Sl.cap (OwnS.sl (H316.getOwn 0 rfl) (fun _ => rfl)); omega) (by first | omega | exact Nat.le_refl _ | (have := Sl.cap (OwnS.sl (H316.getOwn 0 rfl) (fun _ => rfl)); omega)) (by rw [List.take_length])  ?_)
     refine O_as (v := (slV (hSub h282 32 1 h282.c) ((([] : List ID) ++ ([((labelOf b).1).target] : List ID)).drop 1))) rfl rfl ?_
     refine O_nil (Then_n (W_seq (W_reg ?_)))
     refine O_mv (v := (slV (hSub h282 32 1 h282.c) ((([] : List ID) ++ ([((labelOf b).1).target] : List ID)).drop 1))) rfl rfl (O_as (v := (slV (hSub h282 32 1 h282.c) ((([] : List ID) ++ ([((labelOf b).1).target] : List ID)).drop 1))) rfl rfl ?_)
     refine O_nil (Then_n (W_ret ?_))
     refine ret_1 (v := (slV (hSub h282 32 1 h282.c) ((([] : List ID) ++ ([((labelOf b).1).target] : List ID)).drop 1))) Try.results15 rfl ?_
     have hn318 := H316.newRow 0 rfl
     have H319 := H316.freeze 0 rfl (fun _ => rfl)
     have hE : (([] : List ID) ++ ([((labelOf b).1).target] : List ID)).drop 1 = links1 b := (links_z (links_lab hK).symm hl1 hc317)
     exact hE ▸ ⟨hSub h282 32 1 h282.c, (fun z_ => (slV h282 (([] : List ID) ++ ([((labelOf b).1).target] : List ID))).ownBlock = some z_), rfl, H319.gr, fun b hb => ⟨(hn318 b) hb, ((H319.imm _ (List.mem_of_getElem? (i := 0) rfl)).2 b) hb⟩, (Sl.sub (H319.sl 0 rfl) 1 ((([] : List ID) ++ ([((labelOf b).1).target] : List ID)).length) h282.c (by omega) (by first | omega | exact Nat.le_refl _) (by have := Sl.cap (OwnS.sl (H316.getOwn 0 rfl) (fun _ => rfl)); omega) (by first | omega | exact Nat.le_refl _ | (have := Sl.cap (OwnS.sl (H316.getOwn 0 rfl) (fun _ => rfl)); omega)) (by rw [List.take_length]))⟩
    ·have hc317 : (¬ (0 < (((([] : List ID) ++ ([((labelOf b).1).target] : List ID)).length : Nat) : Int)) ∨ ¬ ((nth (([] : List ID) ++ ([((labelOf b).1).target] : List ID)) 0) = zeroId)) := (Or.imp (fun h => (of_decide_eq_false h)) (fun h => (of_decide_eq_false h)) (andF hc317))
     refine W_skip (Then_n (W_seq (W_reg ?_)))
     refine O_mv (v := (slV h282 (([] : List ID) ++ ([((labelOf b).1).target] : List ID)))) rfl rfl (O_as (v := (slV h282 (([] : List ID) ++ ([((labelOf b).1).target] : List ID)))) rfl rfl ?_)
     refine O_nil (Then_n (W_ret ?_))
     refine ret_1 (v := (slV h282 (([] : List ID) ++ ([((labelOf b).1).target] : List ID)))) Try.results15 rfl ?_
     have hn320 := H316.newRow 0 rfl
     have H321 := H316.freeze 0 rfl (fun _ => rfl)
     have hE : (([] : List ID) ++ ([((labelOf b).1).target] : List ID)) = links1 b := (links_n (links_lab hK).symm hl1 hc317)
     exact hE ▸ ⟨h282, (fun z_ => (slV h282 (([] : List ID) ++ ([((labelOf b).1).target] : List ID))).ownBlock = some z_), rfl, H321.gr, fun b hb => ⟨(hn320 b) hb, ((H321.imm _ (List.mem_of_getElem? (i := 0) rfl)).2 b) hb⟩, (H321.sl 0 rfl)⟩
   ·have hc264 := (of_decide_eq_false hc264)
    have h4 := hc264
    refine W_skip (Blk_n (Then_n (W_seq (W_reg ?_))))
    refine O_mv (v := (.slice none 0 0)) rfl rfl ?_
    have H322 := H4.addNil 25 32 idCh
    refine O_v rfl (R_callL (vs := [(slV nilH ([] : List ID)), (.func (.func 35) #[] #[])]) cF34 rfl rfl ((SortFunc_ID nilH ([] : List ID) 35 #[] w2 (H322.getOwn 0 rfl) cF35 trivial (lenraw (links_none h2 h3 h4).symm hl1)).ret ?_))
    rintro _ w323 ⟨rfl, hg324, ho325⟩
    have H326 := H322.updRow 0 rfl hg324 ho325
    refine O_nil (Then_n (W_seq (W_reg ?_)))
    refine O_mv (v := (.slice none 0 0)) rfl rfl ?_
    have H327 := H326.addNil 25 32 idCh
    refine O_v rfl (R_callL (vs := [(slV nilH ([] : List ID))]) cF36 rfl rfl ((Compact_ID nilH ([] : List ID) w323 (H327.getOwn 0 rfl) (lenraw (links_none h2 h3 h4).symm hl1)).ret ?_))
    rintro _ w328 ⟨rfl, hg329, ho330⟩
    have H331 := H327.updRow 0 rfl hg329 ho330
    refine O_as (v := (slV nilH ([] : List ID))) rfl rfl ?_
    refine O_nil (Then_n (W_seq (W_seq ?_)))
    refine W_rg [(0, .q 0), (1, .q 0), (2, .q 0), (3, .q 0), (4, .q 0), (5, .q 0), (6, .q 0), (7, .q 0), (8, .q 0), (9, .q 0)] (by kernel_rfl) ?_
    refine Lx_mv (v := (slV nilH ([] : List ID))) rfl rfl rfl (Lx_q rfl rfl _ (fun v334 hv335 => R_len_slice (a := nilH.a) (n := ([] : List ID).length) (c := nilH.c) Try.underlying22 rfl qk) (Lx_q rfl rfl _ (fun v336 hv337 => R_cmp (a := ((([] : List ID).length : Nat) : Int)) (b := 0) (r := (decide (0 < ((([] : List ID).length : Nat) : Int)))) rfl rfl rfl qk) (Lx_mv (v := (.bool (decide (0 < ((([] : List ID).length : Nat) : Int))))) rfl rfl rfl ?_)))
    refine Lx_qt rfl rfl rfl rfl rfl _ (fun hA v340 hv341 => R_move (v := (slV nilH ([] : List ID))) rfl qk) ?_
    refine Lx_qt rfl rfl rfl rfl rfl _ (fun hA v342 hv343 => by
            have hP : (0 < ((([] : List ID).length : Nat) : Int)) := (of_decide_eq_true hA)
            exact R_index_pure (OwnS.sl (H331.getOwn 0 rfl) (fun _ => rfl)) (n := ([] : List ID).length) rfl (j := 0) (oo := (nilH.o + 0 * 32)) Try.underlying22 Try.sizeOf25 (gv_t hA) rfl (by omega) (by omega) rfl qk) ?_
    refine Lx_qt rfl rfl rfl rfl rfl _ (fun hA v344 hv345 => by
            have hP : (0 < ((([] : List ID).length : Nat) : Int)) := (of_decide_eq_true hA)
            exact R_loadA (cs := [(idCells (nth ([] : List ID) 0))]) Try.isAgg25 Try.sizeOf25 rfl (gv_t hA) ((Sl.elem (OwnS.sl ((H331.ext hv345).getOwn 0 rfl) (fun _ => rfl)) (i := 0) (by omega) rfl).chunks 0 1 0 (nilH.o + 0 * 32) _ rfl rfl rfl) qk) ?_
    refine Lx_qt rfl rfl rfl rfl rfl _ (fun hA v346 hv347 => R_buildL (vs := []) (v := aggOf [(idCells zeroId)]) rfl (fun _ => by kernel_rfl) qk) (Lx_qt rfl rfl rfl rfl rfl _ (fun hA v348 hv349 => R_eqv (a := (nth ([] : List ID) 0)) (b := zeroId) eqv_ID25 rfl Try.eqGuardType25 (gv_t hA) (gv_t hA) qk) (Lx_q rfl rfl _ (fun v350 hv351 => R_pick (t := (decide (0 < ((([] : List ID).length : Nat) : Int)))) (v := (.bool ((decide (0 < ((([] : List ID).length : Nat) : Int))) && (decide ((nth ([] : List ID) 0) = zeroId))))) rfl pk_and qk) ?_))
    refine Lx_nil (fun w352 hw353 => ?_)
    have H354 := H331.ext hw353
    refine Then_n ?_
    refine W_cond rfl (fun hc355 => ?_) (fun hc355 => ?_)
    ·have hc355 : ((0 < ((([] : List ID).length : Nat) : Int)) ∧ ((nth ([] : List ID) 0) = zeroId)) := (And.imp (fun h => (of_decide_eq_true h)) (fun h => (of_decide_eq_true h)) (andT hc355))
     refine W_reg ?_
     refine O_mv (v := (slV nilH ([] : List ID))) rfl rfl ?_
     refine O_v rfl (R_sliceS (h := nilH) (l := ([] : List ID)) (a := 1) (b := ([] : List ID).length) (m := nilH.c) (([] : List ID).drop 1) Try.underlying22 Try.sizeOf25 rfl rfl rfl rfl (by decide) (by omega) (by first | omega | exact Nat.le_refl _) (by have := Sl.cap (OwnS.sl (H354.getOwn 0 rfl) (fun _ => rfl)); omega) (by first | omega | exact Nat.le_refl _ | (have := Sl.cap (OwnS.sl (H354.getOwn 0 rfl) (fun _ => rfl)); omega)) (by rw [List.take_length])  ?_)
     refine O_as (v := (slV (hSub nilH 32 1 nilH.c) (([] : List ID).drop 1))) rfl rfl ?_
     refine O_nil (Then_n (W_seq (W_reg ?_)))
     refine O_mv (v := (slV (hSub nilH 32 1 nilH.c) (([] : List ID).drop 1))) rfl rfl (O_as (v := (slV (hSub nilH 32 1 nilH.c) (([] : List ID).drop 1))) rfl rfl ?_)
     refine O_nil (Then_n (W_ret ?_))
     refine ret_1 (v := (slV (hSub nilH 32 1 nilH.c) (([] : List ID).drop 1))) Try.results15 rfl ?_
     have hn356 := H354.newRow 0 rfl
     have H357 := H354.freeze 0 rfl (fun _ => rfl)
     have hE : ([] : List ID).drop 1 = links1 b := (links_z (links_none h2 h3 h4).symm hl1 hc355)
     exact hE ▸ ⟨hSub nilH 32 1 nilH.c, (fun z_ => (slV nilH ([] : List ID)).ownBlock = some z_), rfl, H357.gr, fun b hb => ⟨(hn356 b) hb, ((H357.imm _ (List.mem_of_getElem? (i := 0) rfl)).2 b) hb⟩, (Sl.sub (H357.sl 0 rfl) 1 (([] : List ID).length) nilH.c (by omega) (by first | omega | exact Nat.le_refl _) (by have := Sl.cap (OwnS.sl (H354.getOwn 0 rfl) (fun _ => rfl)); omega) (by first | omega | exact Nat.le_refl _ | (have := Sl.cap (OwnS.sl (H354.getOwn 0 rfl) (fun _ => rfl)); omega)) (by rw [List.take_length]))⟩
    ·have hc355 : (¬ (0 < ((([] : List ID).length : Nat) : Int)) ∨ ¬ ((nth ([] : List ID) 0) = zeroId)) := (Or.imp (fun h => (of_decide_eq_false h)) (fun h => (of_decide_eq_false h)) (andF hc355))
     refine W_skip (Then_n (W_seq (W_reg ?_)))
     refine O_mv (v := (slV nilH ([] : List ID))) rfl rfl (O_as (v := (slV nilH ([] : List ID))) rfl rfl ?_)
     refine O_nil (Then_n (W_ret ?_))
     refine ret_1 (v := (slV nilH ([] : List ID))) Try.results15 rfl ?_
     have hn358 := H354.newRow 0 rfl
     have H359 := H354.freeze 0 rfl (fun _ => rfl)
     have hE : ([] : List ID) = links1 b := (links_n (links_none h2 h3 h4).symm hl1 hc355)
     exact hE ▸ ⟨nilH, (fun z_ => (slV nilH ([] : List ID)).ownBlock = some z_), rfl, H359.gr, fun b hb => ⟨(hn358 b) hb, ((H359.imm _ (List.mem_of_getElem? (i := 0) rfl)).2 b) hb⟩, (H359.sl 0 rfl)⟩
end Go.Proofs.Ythjdhfoeckfmbaa
namespace Go.Proofs.Ythjdhfoeckfmbaa
open Go
set_option maxRecDepth 100000
set_option linter.unusedVariables false
set_option linter.unusedSimpArgs false
set_option linter.unusedSectionVars false
variable [DD]
set_option maxHeartbeats 1000000 in
theorem obj_PutBlob (hb : SlH) (b : List UInt8) (w : World) (Sb : Sl (Old w) encB 1 hb b w) :
    Calls Try.prog 14 #[(slV hb b)] w (Ret fun v w' => ∃ h0, v = .tuple #[slV h0 (putBlobB b), (.int .i64 (putBlobE b))] ∧ Ext w w' ∧ OwnS w.heap.size 5 1 encB h0 (putBlobB b) w') := by
 refine calls_W Try.func14 rfl Try.ntmps14 rfl ?_
 have H0 := Ctx.start w nob
 have H1 := H0.addSl _ Sb (fun b hb => ⟨hb, fun _ ho => (nomatch ho)⟩)
 have LSb := Sb.len
 refine W_seq (W_reg ?_)
 refine O_as (v := (.slice none 0 0)) rfl rfl (O_as (v := (.int .i64 0)) rfl rfl ?_)
 refine O_nil (Then_n (W_seq (W_seq (W_reg ?_))))
 refine O_mv (v := (slV hb b)) rfl rfl ?_
 refine O_v rfl (R_len_slice (a := hb.a) (n := b.length) (c := hb.c) Try.underlying31 rfl ?_)
 refine O_v rfl (R_cmp (a := (b.length : Int)) (b := 4096) (r := (decide (4096 < (b.length : Int)))) rfl rfl rfl ?_)
 refine O_nil (Then_n ?_)
 refine W_cond rfl (fun hc2 => ?_) (fun hc2 => ?_)
 ·have hc2 := (of_decide_eq_true hc2)
  refine W_seq (W_reg ?_)
  refine O_as (v := (.slice none 0 0)) rfl rfl (O_as (v := (.int .i64 2)) rfl rfl ?_)
  refine O_nil (Then_n (W_ret (Then_r ?_)))
  refine ret_2 (v := (.slice none 0 0)) (v' := (.int .i64 2)) Try.results14 rfl rfl ?_
  have H3 := H1.addNil 5 1 encB
  have hE : [] = putBlobB b := (putBlob_f (by assumption)).1
  have hV : 2 = putBlobE b := (putBlob_f (by assumption)).2
  refine ⟨nilH, ?_, H3.gr, ?_⟩
  · exact two_eq (fun l n => Value.tuple #[slV nilH l, Value.int .i64 n]) hE hV
  · have hO := H3.retRow 0 rfl
    exact hE ▸ hO
 ·have hc2 := (of_decide_eq_false hc2)
  refine W_skip (Then_n (W_seq (W_reg ?_)))
  refine O_v rfl (C_buildSliceL H1 (enc := encB) (val := byteV) ([1] : List UInt8) Try.underlying31 Try.sizeOf5 Try.zeroValue5 rfl (by decide) (fun _ => rfl) (fun _ => rfl) rfl rfl (by decide) ?_)
  intro b4 w5 hb6 hx7 H8
  refine O_mv (v := (slV hb b)) rfl rfl ?_
  refine O_v rfl (C_append H8 0 rfl (bytes := 1) (l := ([1] : List UInt8)) (ys := b) Try.underlying31 rfl rfl rfl rfl rfl (by decide) rfl rfl (H8.sl 0 rfl) (fun _ => rfl) (fun _ => rfl) (by simp only [List.length_cons, List.length_nil]; omega) (by decide) ?_)
  intro h9 w10 hg11 H12
  refine O_as (v := (slV h9 (([1] : List UInt8) ++ b))) rfl rfl (O_as (v := (.int .i64 0)) rfl rfl ?_)
  refine O_nil (Then_n (W_ret ?_))
  refine ret_2 (v := (slV h9 (([1] : List UInt8) ++ b))) (v' := (.int .i64 0)) Try.results14 rfl rfl ?_
  have hE : ([1] : List UInt8) ++ b = putBlobB b := (putBlob_t (by assumption)).1
  have hV : 0 = putBlobE b := (putBlob_t (by assumption)).2
  refine ⟨h9, ?_, H12.gr, ?_⟩
  · exact two_eq (fun l n => Value.tuple #[slV h9 l, Value.int .i64 n]) hE hV
  · have hO := H12.retRow 0 rfl
    exact hE ▸ hO
end Go.Proofs.Ythjdhfoeckfmbaa
