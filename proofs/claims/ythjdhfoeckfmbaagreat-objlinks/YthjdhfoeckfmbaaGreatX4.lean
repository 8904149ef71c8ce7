/- Proved: for every input, pollardlaw04.ObjLinks returns true and leaves its arguments as they were. No condition. -/
import Derived.Test.YthjdhfoeckfmbaaGreatX3
namespace Go.Proofs.YthjdhfoeckfmbaaGreat
open Go
set_option maxRecDepth 100000
set_option linter.unusedVariables false
set_option linter.unusedSimpArgs false
set_option linter.unusedSectionVars false
theorem cF9 : callable Tryz.prog 9 = true := by kernel_rfl
theorem cF36 : callable Tryz.prog 36 = true := by kernel_rfl
set_option maxHeartbeats 4000000 in
theorem law04_ObjLinks (c : ChangeS) (hb : SlH) (b : List UInt8) (w : World) (Sc_parents : Sl (Old w) idCh 32 c.ph c.parents w) (Sc_ops : Sl (Old w) opCh 41 c.oh c.ops w) (Dc_over : ∀ x ∈ c.ops, Sl (Old w) stampCh 2 x.oh x.over w) (Sb : Sl (Old w) encB 1 hb b w) :
    Calls Tryz.prog 8 #[(aggOf (changeCh c)), (slV hb b)] w (Ret fun v w' => v = (.bool true) ∧ Ext w w') := by
 refine calls_W Tryz.func8 rfl Tryz.ntmps8 rfl ?_
 have H0 := Ctx.start w nob
 have H1 := H0.addSl _ Sc_parents (fun b hb => ⟨hb, fun _ ho => (nomatch ho)⟩)
 have LSc_parents := Sc_parents.len
 have H2 := H1.addSl _ Sc_ops (fun b hb => ⟨hb, fun _ ho => (nomatch ho)⟩)
 have LSc_ops := Sc_ops.len
 have H3 := H2.addImm' (deepI (Old w) stampCh 2 (fun x : OpS => x.oh) (fun x : OpS => x.over) c.ops) Dc_over (fun b hb => ⟨hb, fun _ ho => (nomatch ho)⟩)
 have H4 := H3.addSl _ Sb (fun b hb => ⟨hb, fun _ ho => (nomatch ho)⟩)
 have LSb := Sb.len
 refine W_seq (W_reg ?_)
 refine O_v rfl (C_box H4 [[(slV c.ph c.parents)], [(.int .i64 c.time)], [(.int .i64 c.r)], [(slV c.oh c.ops)], (idCells c.tree), [(.string c.msg)]] rfl ?_)
 intro b5 w6 hb7 hx8 H9
 refine O_as (v := (.bool false)) rfl rfl ?_
 refine O_nil (Then_n (W_seq (W_seq (W_reg ?_))))
 refine O_v rfl (R_callL (vs := []) cF9 rfl rfl ((law04_alive  w6 ).ret ?_))
 rintro _ w10 ⟨rfl, hx11⟩
 have H12 := H9.ext hx11
 refine O_v rfl (R_not rfl ?_)
 refine O_nil (Then_n ?_)
 refine W_cond_f rfl ?_
 refine W_skip (Then_n (W_seq (W_seq (W_reg ?_))))
 refine O_mv (v := (slV hb b)) rfl rfl ?_
 refine O_v rfl (R_callL (vs := [(slV hb b)]) cF10 rfl rfl ((obj_PutBlob hb b w10 (H12.slOld 0 rfl)).ret ?_))
 rintro _ w14 ⟨h13, rfl, hx15, ho16⟩
 have H17 := H12.addRow hx15 ho16
 refine O_mv (v := (.tuple #[(slV h13 (putBlobB b)), (.int .i64 (putBlobE b))])) rfl rfl (O_ex (v := (slV h13 (putBlobB b))) rfl rfl rfl (O_ex (v := (.int .i64 (putBlobE b))) rfl rfl rfl (O_as (v := (slV h13 (putBlobB b))) rfl rfl ?_)))
 refine O_as (v := (.int .i64 (putBlobE b))) rfl rfl ?_
 refine O_nil (Then_n (W_seq ?_))
 by_cases hS4 : putBlobE b = 0
 ·have hS4 := hS4
  refine W_reg ?_
  refine O_mv (v := (.int .i64 (putBlobE b))) rfl rfl ?_
  refine O_k rfl (.bool true) (R_cmp (a := putBlobE b) (b := 0) (r := (decide (putBlobE b = 0))) rfl rfl rfl ⟨(boolK (decide_eq_true hS4)), Gr.refl _ _⟩) (fun w18 hx19 => ?_)
  have H20 := H17.ext hx19
  refine O_mv (v := (.bool true)) rfl rfl ?_
  refine O_vT rfl rfl rfl rfl (R_move (v := (slV h13 (putBlobB b))) rfl ?_)
  refine O_vT rfl rfl rfl rfl (R_callL (vs := [(slV h13 (putBlobB b))]) cF21 rfl rfl ((obj_LinksG h13 (putBlobB b) w18 (H20.rowSl 0 rfl (fun _ => rfl)) (blob_len hS4)).ret ?_))
  rintro _ w23 ⟨h21, S22, rfl, hx24, hS25, hv26⟩
  have H27 := H20.addImm hx24 (slI S22 idCh 32 h21 (linksOf (putBlobB b))) hv26 hS25
  refine O_vT rfl rfl rfl rfl (R_len_slice (a := h21.a) (n := (linksOf (putBlobB b)).length) (c := h21.c) Tryz.underlying39 rfl ?_)
  refine O_kT rfl rfl rfl rfl (.bool false) (R_cmp (a := (((linksOf (putBlobB b)).length : Nat) : Int)) (b := 0) (r := (!(decide ((((linksOf (putBlobB b)).length : Nat) : Int) = 0)))) rfl rfl rfl ⟨(congrArg Value.bool (blob_l0 hS4)), Gr.refl _ _⟩) (fun w28 hx29 => ?_)
  have H30 := H27.ext hx29
  refine O_v rfl (R_pick (t := true) (v := (.bool false)) rfl rfl ?_)
  refine O_nil (Then_n ?_)
  refine W_cond_f rfl ?_
  refine W_skip (Then_n (W_seq (W_reg ?_)))
  refine O_v rfl (R_loadA (cs := [[(slV c.ph c.parents)], [(.int .i64 c.time)], [(.int .i64 c.r)], [(slV c.oh c.ops)], (idCells c.tree), [(.string c.msg)]]) Tryz.isAgg47 Tryz.sizeOf47 rfl rfl (H30.bx 1 rfl 0 6 0 0 _ rfl rfl rfl) ?_)
  refine O_v rfl (R_callL (vs := [(aggOf (changeCh c))]) cF23 rfl rfl ((obj_PutChange c w28 (H30.slOld 4 rfl) (H30.slOld 3 rfl) (H30.deepOld 2 rfl)).ret ?_))
  rintro _ w32 ⟨h31, rfl, hx33, ho34⟩
  have H35 := H30.addRow hx33 ho34
  refine O_mv (v := (.tuple #[(slV h31 (putChangeB c)), (.int .i64 (putChangeE c))])) rfl rfl (O_ex (v := (slV h31 (putChangeB c))) rfl rfl rfl (O_ex (v := (.int .i64 (putChangeE c))) rfl rfl rfl (O_as (v := (slV h31 (putChangeB c))) rfl rfl ?_)))
  refine O_as (v := (.int .i64 (putChangeE c))) rfl rfl ?_
  refine O_nil (Then_n (W_seq (W_seq (W_reg ?_))))
  refine O_mv (v := (.int .i64 (putChangeE c))) rfl rfl ?_
  refine O_v rfl (R_cmp (a := putChangeE c) (b := 0) (r := (!(decide (putChangeE c = 0)))) rfl rfl rfl ?_)
  refine O_nil (Then_n ?_)
  refine W_cond rfl (fun hc36 => ?_) (fun hc36 => ?_)
  ·have hc36 : ¬ (putChangeE c = 0) := (of_decide_eq_false (notT hc36))
   refine W_seq (W_reg ?_)
   refine O_as (v := (.bool true)) rfl rfl ?_
   refine O_nil (Then_n (W_ret (Then_r ?_)))
   refine ret_1 (v := (.bool true)) Tryz.results8 rfl ?_
   exact ⟨rfl, H35.gr⟩
  ·have hc36 : (putChangeE c = 0) := (of_decide_eq_true (notF hc36))
   have hC := putChange_ok hc36
   have hCl := chgs_len hC
   refine W_skip (Then_n (W_seq (W_reg ?_)))
   refine O_v rfl (C_makeMap H35 (fun x : ID => idV x) boolV ?_)
   intro r37 w38 hr39 hx40 H41
   refine O_v rfl (R_fieldAddr (off := 4) (oo := 4) Tryz.underlying47 rfl rfl Tryz.sizeOf45 rfl rfl ?_)
   refine O_v rfl (R_loadA (cs := [(idCells c.tree)]) Tryz.isAgg45 Tryz.sizeOf45 rfl rfl (H41.bx 3 rfl 4 1 4 4 _ rfl rfl rfl) ?_)
   refine O_u (C_insert H41 0 rfl (kk := c.tree) (v := true) keyT_ID45 Tryz.underlying67 rfl rfl rfl ?_)
   intro w42 hg43 H44
   refine O_mv (v := (.map (some r37))) rfl rfl (O_as (v := (.map (some r37))) rfl rfl ?_)
   refine O_nil (Then_n (W_seq (W_seq (W_reg ?_))))
   refine O_v rfl (R_fieldAddr (off := 0) (oo := 0) Tryz.underlying47 rfl rfl Tryz.sizeOf39 rfl rfl ?_)
   refine O_v rfl (R_load1 (v := (slV c.ph c.parents)) Tryz.isAgg39 rfl (H44.bx 3 rfl 0 1 0 0 _ rfl rfl rfl) ?_)
   refine O_v rfl (R_len_slice (a := c.ph.a) (n := c.parents.length) (c := c.ph.c) Tryz.underlying39 rfl ?_)
   refine O_mv (v := (.int .i64 0)) rfl rfl ?_
   refine O_nil (Then_n (W_block ?_))
   refine W_loop (fun m45 e46 w47 => ∃ (k : Nat), ∃ (kv : List (ID × Bool)), m45 = c.parents.length - k ∧ (k ≤ c.parents.length) ∧ (kv = setKv (c.tree :: c.parents.take k)) ∧ ∃ eb48, e46 = envL [(2, (.pointer (some ⟨b5, 0, none⟩))), (4, (.bool false)), (7, (slV h31 (putChangeB c))), (9, (.map (some r37))), (44, (slV c.ph c.parents)), (45, (.int .i64 (c.parents.length : Int))), (46, (.int .i64 (k : Int)))] eb48 ∧ Ctx w nob w47 [mapO r37 (fun x : ID => idV x) boolV kv, rowR 5 1 encB h31 (putChangeB c), rowR 5 1 encB h13 (putBlobB b), boxR b5 47 [[(slV c.ph c.parents)], [(.int .i64 c.time)], [(.int .i64 c.r)], [(slV c.oh c.ops)], (idCells c.tree), [(.string c.msg)]]] [slI S22 idCh 32 h21 (linksOf (putBlobB b)), slI (Old w) encB 1 hb b, deepI (Old w) stampCh 2 (fun x : OpS => x.oh) (fun x : OpS => x.over) c.ops, slI (Old w) opCh 41 c.oh c.ops, slI (Old w) idCh 32 c.ph c.parents]) _ ⟨0, (kvPut c.tree true ([] : List (ID × Bool))), rfl, (by omega), rfl, _, envL_self ⟨rfl, rfl, rfl, rfl, rfl, rfl, rfl, trivial⟩, H44⟩ ?_
   rintro m45 _ w47 ⟨k, kv, rfl, hk, hkv, eb48, rfl, H49⟩
   refine W_seq (W_reg ?_)
   refine O_v rfl (R_cmp (a := (k : Int)) (b := (c.parents.length : Int)) (r := (decide ((k : Int) < (c.parents.length : Int)))) rfl rfl rfl ?_)
   refine O_nil (Then_n (W_seq ?_))
   refine W_cond rfl (fun hc50 => ?_) (fun hc50 => ?_)
   ·have hc50 := (of_decide_eq_true hc50)
    refine W_skip (Then_n (W_seq (W_block (W_seq (W_reg ?_)))))
    refine O_v rfl (R_index_pure (H49.sl 4 rfl) (n := c.parents.length) rfl (j := (k : Int)) (oo := (c.ph.o + k * 32)) Tryz.underlying39 Tryz.sizeOf45 rfl rfl (by omega) (by omega) rfl ?_)
    refine O_v rfl (R_loadA (cs := [(idCells (nth c.parents k))]) Tryz.isAgg45 Tryz.sizeOf45 rfl rfl ((Sl.elem (H49.sl 4 rfl) (i := k) (by omega) rfl).chunks 0 1 0 (c.ph.o + k * 32) _ rfl rfl rfl) ?_)
    refine O_v rfl (C_alloc H49 [(idCells zeroId)] Tryz.zeroValue45 ?_)
    intro b51 w52 hb53 hx54 H55
    refine O_u (C_storeW H55 0 rfl (sub := [(idCells (nth c.parents k))]) Tryz.sizeOf45 rfl rfl rfl rfl rfl ?_)
    intro w56 hg57 H58
    refine O_nil (Then_n (W_reg ?_))
    refine O_mv (v := (.map (some r37))) rfl rfl ?_
    refine O_v rfl (R_loadA (cs := [(idCells (nth c.parents k))]) Tryz.isAgg45 Tryz.sizeOf45 rfl rfl (H58.bx 0 rfl 0 1 0 0 _ rfl rfl rfl) ?_)
    refine O_u (C_mapUpdate H58 1 rfl (kk := (nth c.parents k)) (v := true) keyT_ID45 Tryz.underlying67 rfl rfl rfl ?_)
    intro w59 hg60 H61
    refine O_nil (Blk_n (Then_n (W_reg ?_)))
    refine O_v rfl (R_arith (a := (k : Int)) (b := 1) (r0 := (k : Int) + 1) (r := ((k + 1 : Nat) : Int)) rfl rfl rfl (wrapN _ (by have h5 := change_lens hC; have h6 := links_few (putChangeB c); omega)) ?_)
    refine O_mv (v := (.int .i64 ((k + 1 : Nat) : Int))) rfl rfl ?_
    refine O_nil (Then_n ?_)
    have H62 := H61.sub (List.Sublist.cons _ (List.Sublist.cons_cons _ (List.Sublist.cons_cons _ (List.Sublist.cons_cons _ (List.Sublist.cons_cons _ List.Sublist.slnil))))) (List.forall_mem_cons.2 ⟨List.mem_of_getElem? (i := 0) rfl, List.forall_mem_cons.2 ⟨List.mem_of_getElem? (i := 1) rfl, List.forall_mem_cons.2 ⟨List.mem_of_getElem? (i := 2) rfl, List.forall_mem_cons.2 ⟨List.mem_of_getElem? (i := 3) rfl, List.forall_mem_cons.2 ⟨List.mem_of_getElem? (i := 4) rfl, memN⟩⟩⟩⟩⟩)
    refine ⟨_, ?_, (k + 1), (kvPut (nth c.parents k) true kv), rfl, (by omega), (want_par hkv (by omega)), _, envL_self ⟨rfl, rfl, rfl, rfl, rfl, rfl, rfl, trivial⟩, H62⟩
    omega
   ·have hc50 := (of_decide_eq_false hc50)
    refine W_exit (Then_x (Then_x (Blk_x (Then_n (W_seq (W_seq (W_reg ?_)))))))
    refine O_v rfl (R_fieldAddr (off := 3) (oo := 3) Tryz.underlying47 rfl rfl Tryz.sizeOf43 rfl rfl ?_)
    refine O_v rfl (R_load1 (v := (slV c.oh c.ops)) Tryz.isAgg43 rfl (H49.bx 3 rfl 3 1 3 3 _ rfl rfl rfl) ?_)
    refine O_v rfl (R_len_slice (a := c.oh.a) (n := c.ops.length) (c := c.oh.c) Tryz.underlying43 rfl ?_)
    refine O_mv (v := (.int .i64 0)) rfl rfl ?_
    refine O_nil (Then_n (W_block ?_))
    refine W_loop (fun m63 e64 w65 => ∃ (j : Nat), ∃ (kv2 : List (ID × Bool)), m63 = c.ops.length - j ∧ (j ≤ c.ops.length) ∧ (kv2 = setKv ((c.tree :: c.parents) ++ editData (c.ops.take j))) ∧ ∃ eb66, e64 = envL [(4, (.bool false)), (7, (slV h31 (putChangeB c))), (9, (.map (some r37))), (54, (slV c.oh c.ops)), (55, (.int .i64 (c.ops.length : Int))), (56, (.int .i64 (j : Int)))] eb66 ∧ Ctx w nob w65 [mapO r37 (fun x : ID => idV x) boolV kv2, rowR 5 1 encB h31 (putChangeB c), rowR 5 1 encB h13 (putBlobB b), boxR b5 47 [[(slV c.ph c.parents)], [(.int .i64 c.time)], [(.int .i64 c.r)], [(slV c.oh c.ops)], (idCells c.tree), [(.string c.msg)]]] [slI S22 idCh 32 h21 (linksOf (putBlobB b)), slI (Old w) encB 1 hb b, deepI (Old w) stampCh 2 (fun x : OpS => x.oh) (fun x : OpS => x.over) c.ops, slI (Old w) opCh 41 c.oh c.ops, slI (Old w) idCh 32 c.ph c.parents]) _ ⟨0, kv, rfl, (by omega), (want_ops0 hkv (by omega)), _, envL_self ⟨rfl, rfl, rfl, rfl, rfl, rfl, trivial⟩, H49⟩ ?_
    rintro m63 _ w65 ⟨j, kv2, rfl, hj, hkv2, eb66, rfl, H67⟩
    refine W_seq (W_reg ?_)
    refine O_v rfl (R_cmp (a := (j : Int)) (b := (c.ops.length : Int)) (r := (decide ((j : Int) < (c.ops.length : Int)))) rfl rfl rfl ?_)
    refine O_nil (Then_n (W_seq ?_))
    refine W_cond rfl (fun hc68 => ?_) (fun hc68 => ?_)
    ·have hc68 := (of_decide_eq_true hc68)
     refine W_skip (Then_n (W_seq (W_block (W_seq (W_reg ?_)))))
     refine O_v rfl (R_index_pure (H67.sl 3 rfl) (n := c.ops.length) rfl (j := (j : Int)) (oo := (c.oh.o + j * 41)) Tryz.underlying43 Tryz.sizeOf72 rfl rfl (by omega) (by omega) rfl ?_)
     refine O_v rfl (R_loadA (cs := [[(.int .i64 ((nth c.ops j).kind))], [(.int .i64 (((nth c.ops j).tm).T))], [(.int .i64 (((nth c.ops j).tm).R))], [(.int .i64 (((nth c.ops j).node).T))], [(.int .i64 (((nth c.ops j).node).R))], [(.int .i64 (((nth c.ops j).par).T))], [(.int .i64 (((nth c.ops j).par).R))], [(.string ((nth c.ops j).name))], (idCells ((nth c.ops j).data)), [(slV ((nth c.ops j).oh) ((nth c.ops j).over))]]) Tryz.isAgg72 Tryz.sizeOf72 rfl rfl ((Sl.elem (H67.sl 3 rfl) (i := j) (by omega) rfl).chunks 0 10 0 (c.oh.o + j * 41) _ rfl rfl rfl) ?_)
     refine O_v rfl (C_alloc H67 [[(.int .i64 0)], [(.int .i64 0)], [(.int .i64 0)], [(.int .i64 0)], [(.int .i64 0)], [(.int .i64 0)], [(.int .i64 0)], [(.string ByteArray.empty)], (idCells zeroId), [(.slice none 0 0)]] Tryz.zeroValue72 ?_)
     intro b69 w70 hb71 hx72 H73
     refine O_u (C_storeW H73 0 rfl (sub := [[(.int .i64 ((nth c.ops j).kind))], [(.int .i64 (((nth c.ops j).tm).T))], [(.int .i64 (((nth c.ops j).tm).R))], [(.int .i64 (((nth c.ops j).node).T))], [(.int .i64 (((nth c.ops j).node).R))], [(.int .i64 (((nth c.ops j).par).T))], [(.int .i64 (((nth c.ops j).par).R))], [(.string ((nth c.ops j).name))], (idCells ((nth c.ops j).data)), [(slV ((nth c.ops j).oh) ((nth c.ops j).over))]]) Tryz.sizeOf72 rfl rfl rfl rfl rfl ?_)
     intro w74 hg75 H76
     refine O_nil (Then_n (W_seq (W_reg ?_)))
     refine O_v rfl (R_fieldAddr (off := 0) (oo := 0) Tryz.underlying72 rfl rfl Tryz.sizeOf3 rfl rfl ?_)
     refine O_v rfl (R_load1 (v := (.int .i64 ((nth c.ops j).kind))) Tryz.isAgg3 rfl (H76.bx 0 rfl 0 1 0 0 _ rfl rfl rfl) ?_)
     refine O_v rfl (R_cmp (a := (nth c.ops j).kind) (b := 2) (r := (decide ((nth c.ops j).kind = 2))) rfl rfl rfl ?_)
     refine O_nil (Then_n ?_)
     refine W_cond rfl (fun hc77 => ?_) (fun hc77 => ?_)
     ·have hc77 := (of_decide_eq_true hc77)
      refine W_reg ?_
      refine O_mv (v := (.map (some r37))) rfl rfl ?_
      refine O_v rfl (R_fieldAddr (off := 8) (oo := 8) Tryz.underlying72 rfl rfl Tryz.sizeOf45 rfl rfl ?_)
      refine O_v rfl (R_loadA (cs := [(idCells ((nth c.ops j).data))]) Tryz.isAgg45 Tryz.sizeOf45 rfl rfl (H76.bx 0 rfl 8 1 8 8 _ rfl rfl rfl) ?_)
      refine O_u (C_mapUpdate H76 1 rfl (kk := (nth c.ops j).data) (v := true) keyT_ID45 Tryz.underlying67 rfl rfl rfl ?_)
      intro w78 hg79 H80
      refine O_nil (Blk_n (Then_n (W_reg ?_)))
      refine O_v rfl (R_arith (a := (j : Int)) (b := 1) (r0 := (j : Int) + 1) (r := ((j + 1 : Nat) : Int)) rfl rfl rfl (wrapN _ (by have h5 := change_lens hC; have h6 := links_few (putChangeB c); omega)) ?_)
      refine O_mv (v := (.int .i64 ((j + 1 : Nat) : Int))) rfl rfl ?_
      refine O_nil (Then_n ?_)
      have H81 := H80.sub (List.Sublist.cons _ (List.Sublist.cons_cons _ (List.Sublist.cons_cons _ (List.Sublist.cons_cons _ (List.Sublist.cons_cons _ List.Sublist.slnil))))) (List.forall_mem_cons.2 ⟨List.mem_of_getElem? (i := 0) rfl, List.forall_mem_cons.2 ⟨List.mem_of_getElem? (i := 1) rfl, List.forall_mem_cons.2 ⟨List.mem_of_getElem? (i := 2) rfl, List.forall_mem_cons.2 ⟨List.mem_of_getElem? (i := 3) rfl, List.forall_mem_cons.2 ⟨List.mem_of_getElem? (i := 4) rfl, memN⟩⟩⟩⟩⟩)
      refine ⟨_, ?_, (j + 1), (kvPut ((nth c.ops j).data) true kv2), rfl, (by omega), (want_op_y hkv2 (by omega) (by assumption)), _, envL_self ⟨rfl, rfl, rfl, rfl, rfl, rfl, trivial⟩, H81⟩
      omega
     ·have hc77 := (of_decide_eq_false hc77)
      refine W_skip (Blk_n (Then_n (W_reg ?_)))
      refine O_v rfl (R_arith (a := (j : Int)) (b := 1) (r0 := (j : Int) + 1) (r := ((j + 1 : Nat) : Int)) rfl rfl rfl (wrapN _ (by have h5 := change_lens hC; have h6 := links_few (putChangeB c); omega)) ?_)
      refine O_mv (v := (.int .i64 ((j + 1 : Nat) : Int))) rfl rfl ?_
      refine O_nil (Then_n ?_)
      have H82 := H76.sub (List.Sublist.cons _ (List.Sublist.cons_cons _ (List.Sublist.cons_cons _ (List.Sublist.cons_cons _ (List.Sublist.cons_cons _ List.Sublist.slnil))))) (List.forall_mem_cons.2 ⟨List.mem_of_getElem? (i := 0) rfl, List.forall_mem_cons.2 ⟨List.mem_of_getElem? (i := 1) rfl, List.forall_mem_cons.2 ⟨List.mem_of_getElem? (i := 2) rfl, List.forall_mem_cons.2 ⟨List.mem_of_getElem? (i := 3) rfl, List.forall_mem_cons.2 ⟨List.mem_of_getElem? (i := 4) rfl, memN⟩⟩⟩⟩⟩)
      refine ⟨_, ?_, (j + 1), kv2, rfl, (by omega), (want_op_n hkv2 (by omega) (by assumption)), _, envL_self ⟨rfl, rfl, rfl, rfl, rfl, rfl, trivial⟩, H82⟩
      omega
    ·have hc68 := (of_decide_eq_false hc68)
     refine W_exit (Then_x (Then_x (Blk_x (Then_n (W_seq (W_reg ?_))))))
     refine O_mv (v := (slV h31 (putChangeB c))) rfl rfl ?_
     refine O_v rfl (R_callL (vs := [(slV h31 (putChangeB c))]) cF21 rfl rfl ((obj_LinksG h31 (putChangeB c) w65 (H67.rowSl 1 rfl (fun _ => rfl)) hCl).ret ?_))
     rintro _ w85 ⟨h83, S84, rfl, hx86, hS87, hv88⟩
     have H89 := H67.addImm hx86 (slI S84 idCh 32 h83 (linksOf (putChangeB c))) hv88 hS87
     refine O_as (v := (slV h83 (linksOf (putChangeB c)))) rfl rfl ?_
     refine O_nil (Then_n (W_seq (W_seq (W_reg ?_))))
     refine O_mv (v := (slV h83 (linksOf (putChangeB c)))) rfl rfl ?_
     refine O_v rfl (R_len_slice (a := h83.a) (n := (linksOf (putChangeB c)).length) (c := h83.c) Tryz.underlying39 rfl ?_)
     refine O_mv (v := (.int .i64 0)) rfl rfl ?_
     refine O_nil (Then_n (W_block ?_))
     refine W_loop (fun m90 e91 w92 => ∃ (m : Nat), m90 = (linksOf (putChangeB c)).length - m ∧ (m ≤ (linksOf (putChangeB c)).length) ∧ ∃ eb93, e91 = envL [(9, (.map (some r37))), (14, (slV h83 (linksOf (putChangeB c)))), (69, (slV h83 (linksOf (putChangeB c)))), (70, (.int .i64 (((linksOf (putChangeB c)).length : Nat) : Int))), (71, (.int .i64 (m : Int)))] eb93 ∧ Ctx w nob w92 [mapO r37 (fun x : ID => idV x) boolV kv2, rowR 5 1 encB h31 (putChangeB c), rowR 5 1 encB h13 (putBlobB b), boxR b5 47 [[(slV c.ph c.parents)], [(.int .i64 c.time)], [(.int .i64 c.r)], [(slV c.oh c.ops)], (idCells c.tree), [(.string c.msg)]]] [slI S84 idCh 32 h83 (linksOf (putChangeB c)), slI S22 idCh 32 h21 (linksOf (putBlobB b)), slI (Old w) encB 1 hb b, deepI (Old w) stampCh 2 (fun x : OpS => x.oh) (fun x : OpS => x.over) c.ops, slI (Old w) opCh 41 c.oh c.ops, slI (Old w) idCh 32 c.ph c.parents]) _ ⟨0, rfl, (by omega), _, envL_self ⟨rfl, rfl, rfl, rfl, rfl, trivial⟩, H89⟩ ?_
     rintro m90 _ w92 ⟨m, rfl, hm, eb93, rfl, H94⟩
     refine W_seq (W_reg ?_)
     refine O_v rfl (R_cmp (a := (m : Int)) (b := (((linksOf (putChangeB c)).length : Nat) : Int)) (r := (decide ((m : Int) < (((linksOf (putChangeB c)).length : Nat) : Int)))) rfl rfl rfl ?_)
     refine O_nil (Then_n (W_seq ?_))
     refine W_cond rfl (fun hc95 => ?_) (fun hc95 => ?_)
     ·have hc95 := (of_decide_eq_true hc95)
      refine W_skip (Then_n (W_seq (W_block (W_seq (W_reg ?_)))))
      refine O_mv (v := (.int .i64 (m : Int))) rfl rfl ?_
      refine O_v rfl (R_index_pure (H94.sl 0 rfl) (n := (linksOf (putChangeB c)).length) rfl (j := (m : Int)) (oo := (h83.o + m * 32)) Tryz.underlying39 Tryz.sizeOf45 rfl rfl (by omega) (by omega) rfl ?_)
      refine O_v rfl (R_loadA (cs := [(idCells (nth (linksOf (putChangeB c)) m))]) Tryz.isAgg45 Tryz.sizeOf45 rfl rfl ((Sl.elem (H94.sl 0 rfl) (i := m) (by omega) rfl).chunks 0 1 0 (h83.o + m * 32) _ rfl rfl rfl) ?_)
      refine O_v rfl (C_alloc H94 [(idCells zeroId)] Tryz.zeroValue45 ?_)
      intro b96 w97 hb98 hx99 H100
      refine O_as (v := (.int .i64 (m : Int))) rfl rfl ?_
      refine O_u (C_storeW H100 0 rfl (sub := [(idCells (nth (linksOf (putChangeB c)) m))]) Tryz.sizeOf45 rfl rfl rfl rfl rfl ?_)
      intro w101 hg102 H103
      refine O_nil (Then_n (W_seq ?_))
      refine W_rgd TryzMixed [(0, .q 0), (1, .q 0), (2, .q 0), (3, .q 0), (4, .q 0), (5, .q 0), (6, .q 0), (7, .q 0), (8, .q 0), (9, .q 0), (10, .q 0), (11, .q 0), (12, .q 0), (13, .q 0), (14, .q 0), (15, .q 0), (16, .q 0), (17, .q 0), (18, .q 0), (19, .q 0), (20, .q 0), (21, .q 0), (22, .q 0)] (by kernel_rfl) ?_
      refine Lx_mv (v := (.map (some r37))) rfl rfl rfl (Lx_q rfl rfl _ (fun v106 hv107 => R_loadA (cs := [(idCells (nth (linksOf (putChangeB c)) m))]) Tryz.isAgg45 Tryz.sizeOf45 rfl rfl ((H103.ext hv107).bx 0 rfl 0 1 0 0 _ rfl rfl rfl) qk) (Lx_q rfl rfl _ (fun v108 hv109 => R_lookup (kk := (nth (linksOf (putChangeB c)) m)) (z := false) keyT_ID45 Tryz.underlying67 Tryz.zeroValue4 ((H103.ext hv109).getOwn 1 rfl) rfl rfl qk) (Lx_q rfl rfl _ (fun v110 hv111 => R_not rfl qk) ?_)))
      refine Lx_mv (v := (.bool (!(((kvGet kv2 (nth (linksOf (putChangeB c)) m)).getD false))))) rfl rfl rfl (Lx_qf rfl rfl rfl rfl rfl _ (fun hA v114 hv115 => R_loadA (cs := [(idCells (nth (linksOf (putChangeB c)) m))]) Tryz.isAgg45 Tryz.sizeOf45 rfl rfl ((H103.ext hv115).bx 0 rfl 0 1 0 0 _ rfl rfl rfl) qk) (Lx_qf rfl rfl rfl rfl rfl _ (fun hA v116 hv117 => R_buildL (vs := []) (v := aggOf [(idCells zeroId)]) rfl (fun _ => by kernel_rfl) qk) (Lx_qf rfl rfl rfl rfl rfl _ (fun hA v118 hv119 => R_eqv (a := (nth (linksOf (putChangeB c)) m)) (b := zeroId) eqv_ID45 rfl Tryz.eqGuardType45 (gv_t hA) (gv_t hA) qk) ?_)))
      refine Lx_q rfl rfl _ (fun v120 hv121 => R_pick rfl pk_or qk) (Lx_mv (v := (.bool ((!(((kvGet kv2 (nth (linksOf (putChangeB c)) m)).getD false))) || (decide ((nth (linksOf (putChangeB c)) m) = zeroId))))) rfl rfl rfl (Lx_qf rfl rfl rfl rfl rfl _ (fun hA v124 hv125 => R_move (v := (.int .i64 (m : Int))) rfl qk) (Lx_qf rfl rfl rfl rfl rfl _ (fun hA v126 hv127 => R_cmp (a := (m : Int)) (b := 0) (r := (decide (0 < (m : Int)))) (gv_t hA) rfl rfl qk) ?_)))
      refine Lx_qf rfl rfl rfl rfl rfl _ (fun hA v128 hv129 => R_move (v := (.bool (decide (0 < (m : Int))))) (gv_t hA) qk) (Lx_gt (!((!(((kvGet kv2 (nth (linksOf (putChangeB c)) m)).getD false))) || (decide ((nth (linksOf (putChangeB c)) m) = zeroId)))) (decide (0 < (m : Int))) rfl rfl rfl rfl rfl _ (fun hA v130 hv131 => R_move (v := (slV h83 (linksOf (putChangeB c)))) rfl qk) (Lx_gt (!((!(((kvGet kv2 (nth (linksOf (putChangeB c)) m)).getD false))) || (decide ((nth (linksOf (putChangeB c)) m) = zeroId)))) (decide (0 < (m : Int))) rfl rfl rfl rfl rfl _ (fun hA v132 hv133 => R_move (v := (.int .i64 (m : Int))) rfl qk) ?_))
      refine Lx_gt (!((!(((kvGet kv2 (nth (linksOf (putChangeB c)) m)).getD false))) || (decide ((nth (linksOf (putChangeB c)) m) = zeroId)))) (decide (0 < (m : Int))) rfl rfl rfl rfl rfl _ (fun hA v134 hv135 => by
                have hP : (((((kvGet kv2 (nth (linksOf (putChangeB c)) m)).getD false)) = true ∧ ¬ ((nth (linksOf (putChangeB c)) m) = zeroId)) ∧ (0 < (m : Int))) := (And.imp (fun h => (And.imp (fun h => (notF h)) (fun h => (of_decide_eq_false h)) (orF (notT h)))) (fun h => (of_decide_eq_true h)) (andT hA))
                exact R_arith (a := (m : Int)) (b := 1) (r0 := (m : Int) - 1) (r := ((m - 1 : Nat) : Int)) (gv_t hA) rfl rfl (wrapP _ (by omega) (by have h6 := links_few (putChangeB c); omega)) qk) ?_
      refine Lx_gt (!((!(((kvGet kv2 (nth (linksOf (putChangeB c)) m)).getD false))) || (decide ((nth (linksOf (putChangeB c)) m) = zeroId)))) (decide (0 < (m : Int))) rfl rfl rfl rfl rfl _ (fun hA v136 hv137 => by
                have hP : (((((kvGet kv2 (nth (linksOf (putChangeB c)) m)).getD false)) = true ∧ ¬ ((nth (linksOf (putChangeB c)) m) = zeroId)) ∧ (0 < (m : Int))) := (And.imp (fun h => (And.imp (fun h => (notF h)) (fun h => (of_decide_eq_false h)) (orF (notT h)))) (fun h => (of_decide_eq_true h)) (andT hA))
                exact R_index_pure (H103.sl 0 rfl) (n := (linksOf (putChangeB c)).length) rfl (j := ((m - 1 : Nat) : Int)) (oo := (h83.o + (m - 1) * 32)) Tryz.underlying39 Tryz.sizeOf45 (gv_t hA) (gv_t hA) (by omega) (by omega) rfl qk) ?_
      refine Lx_gt (!((!(((kvGet kv2 (nth (linksOf (putChangeB c)) m)).getD false))) || (decide ((nth (linksOf (putChangeB c)) m) = zeroId)))) (decide (0 < (m : Int))) rfl rfl rfl rfl rfl _ (fun hA v138 hv139 => by
                have hP : (((((kvGet kv2 (nth (linksOf (putChangeB c)) m)).getD false)) = true ∧ ¬ ((nth (linksOf (putChangeB c)) m) = zeroId)) ∧ (0 < (m : Int))) := (And.imp (fun h => (And.imp (fun h => (notF h)) (fun h => (of_decide_eq_false h)) (orF (notT h)))) (fun h => (of_decide_eq_true h)) (andT hA))
                exact R_loadA (cs := [(idCells (nth (linksOf (putChangeB c)) (m - 1)))]) Tryz.isAgg45 Tryz.sizeOf45 rfl (gv_t hA) ((Sl.elem ((H103.ext hv139).sl 0 rfl) (i := (m - 1)) (by omega) rfl).chunks 0 1 0 (h83.o + (m - 1) * 32) _ rfl rfl rfl) qk) ?_
      refine Lx_gt (!((!(((kvGet kv2 (nth (linksOf (putChangeB c)) m)).getD false))) || (decide ((nth (linksOf (putChangeB c)) m) = zeroId)))) (decide (0 < (m : Int))) rfl rfl rfl rfl rfl _ (fun hA v140 hv141 => R_loadA (cs := [(idCells (nth (linksOf (putChangeB c)) m))]) Tryz.isAgg45 Tryz.sizeOf45 rfl rfl ((H103.ext hv141).bx 0 rfl 0 1 0 0 _ rfl rfl rfl) qk) (Lx_gt (!((!(((kvGet kv2 (nth (linksOf (putChangeB c)) m)).getD false))) || (decide ((nth (linksOf (putChangeB c)) m) = zeroId)))) (decide (0 < (m : Int))) rfl rfl rfl rfl rfl (.int .i64 (cmpId (nth (linksOf (putChangeB c)) (m - 1)) (nth (linksOf (putChangeB c)) m))) (fun hA v142 hv143 => R_callL (vs := [(aggOf (idCh (nth (linksOf (putChangeB c)) (m - 1)))), (aggOf (idCh (nth (linksOf (putChangeB c)) m)))]) cF36 rfl (lst2 (gv_t hA) (gv_t hA)) (ref01_Cmp (nth (linksOf (putChangeB c)) (m - 1)) (nth (linksOf (putChangeB c)) m) v142 )) (Lx_gt (!((!(((kvGet kv2 (nth (linksOf (putChangeB c)) m)).getD false))) || (decide ((nth (linksOf (putChangeB c)) m) = zeroId)))) (decide (0 < (m : Int))) rfl rfl rfl rfl rfl _ (fun hA v144 hv145 => R_cmp (a := cmpId (nth (linksOf (putChangeB c)) (m - 1)) (nth (linksOf (putChangeB c)) m)) (b := (-1)) (r := (!(decide (cmpId (nth (linksOf (putChangeB c)) (m - 1)) (nth (linksOf (putChangeB c)) m) = (-1))))) (gv_t hA) rfl rfl qk) (Lx_qf rfl rfl rfl rfl rfl _ (fun hA v146 hv147 => R_pick (gv_t hA) (pk_andA hA) qk) ?_)))
      refine Lx_q rfl rfl _ (fun v148 hv149 => R_pick rfl pk_or qk) ?_
      refine Lx_nil (fun w150 hw151 => ?_)
      have H152 := H103.ext hw151
      refine Then_n ?_
      refine W_cond rfl (fun hc153 => ?_) (fun hc153 => ?_)
      ·have hc153 : (((((kvGet kv2 (nth (linksOf (putChangeB c)) m)).getD false)) = false ∨ ((nth (linksOf (putChangeB c)) m) = zeroId)) ∨ ((0 < (m : Int)) ∧ ¬ (cmpId (nth (linksOf (putChangeB c)) (m - 1)) (nth (linksOf (putChangeB c)) m) = (-1)))) := (Or.imp (fun h => (Or.imp (fun h => (notT h)) (fun h => (of_decide_eq_true h)) (orT h))) (fun h => (And.imp (fun h => (of_decide_eq_true h)) (fun h => (of_decide_eq_false (notT h))) (andT h))) (orT hc153))
       refine W_seq (W_reg ?_)
       refine O_as (v := (.bool false)) rfl rfl ?_
       refine O_nil (Then_n (W_ret (Blk_r (Then_r (Then_r (Blk_r (Then_r ?_)))))))
       refine ret_1 (v := (.bool false)) Tryz.results8 rfl ?_
       exact ⟨(lk_bad (k := m) hC (want_end hkv2 (by omega)) (by omega) (by assumption)), H152.gr⟩
      ·have hc153 : (((((kvGet kv2 (nth (linksOf (putChangeB c)) m)).getD false)) = true ∧ ¬ ((nth (linksOf (putChangeB c)) m) = zeroId)) ∧ (¬ (0 < (m : Int)) ∨ (cmpId (nth (linksOf (putChangeB c)) (m - 1)) (nth (linksOf (putChangeB c)) m) = (-1)))) := (And.imp (fun h => (And.imp (fun h => (notF h)) (fun h => (of_decide_eq_false h)) (orF h))) (fun h => (Or.imp (fun h => (of_decide_eq_false h)) (fun h => (of_decide_eq_true (notF h))) (andF h))) (orF hc153))
       refine W_skip (Blk_n (Then_n (W_reg ?_)))
       refine O_v rfl (R_arith (a := (m : Int)) (b := 1) (r0 := (m : Int) + 1) (r := ((m + 1 : Nat) : Int)) rfl rfl rfl (wrapN _ (by have h5 := change_lens hC; have h6 := links_few (putChangeB c); omega)) ?_)
       refine O_mv (v := (.int .i64 ((m + 1 : Nat) : Int))) rfl rfl ?_
       refine O_nil (Then_n ?_)
       have H154 := H152.sub (List.Sublist.cons _ (List.Sublist.cons_cons _ (List.Sublist.cons_cons _ (List.Sublist.cons_cons _ (List.Sublist.cons_cons _ List.Sublist.slnil))))) (List.forall_mem_cons.2 ⟨List.mem_of_getElem? (i := 0) rfl, List.forall_mem_cons.2 ⟨List.mem_of_getElem? (i := 1) rfl, List.forall_mem_cons.2 ⟨List.mem_of_getElem? (i := 2) rfl, List.forall_mem_cons.2 ⟨List.mem_of_getElem? (i := 3) rfl, List.forall_mem_cons.2 ⟨List.mem_of_getElem? (i := 4) rfl, List.forall_mem_cons.2 ⟨List.mem_of_getElem? (i := 5) rfl, memN⟩⟩⟩⟩⟩⟩)
       refine ⟨_, ?_, (m + 1), rfl, (by omega), _, envL_self ⟨rfl, rfl, rfl, rfl, rfl, trivial⟩, H154⟩
       omega
     ·have hc95 := (of_decide_eq_false hc95)
      refine W_exit (Then_x (Then_x (Blk_x (Then_n (W_seq (W_reg ?_))))))
      refine O_mv (v := (slV h83 (linksOf (putChangeB c)))) rfl rfl ?_
      refine O_v rfl (R_len_slice (a := h83.a) (n := (linksOf (putChangeB c)).length) (c := h83.c) Tryz.underlying39 rfl ?_)
      refine O_mv (v := (.map (some r37))) rfl rfl ?_
      refine O_v rfl (R_len_mapQ Tryz.underlying67 (H94.getOwn 0 rfl) rfl ?_)
      refine O_v rfl (R_cmp (a := (((linksOf (putChangeB c)).length : Nat) : Int)) (b := (kv2.length : Int)) (r := (decide ((((linksOf (putChangeB c)).length : Nat) : Int) = (kv2.length : Int)))) rfl rfl rfl ?_)
      refine O_as (v := (.bool (decide ((((linksOf (putChangeB c)).length : Nat) : Int) = (kv2.length : Int))))) rfl rfl ?_
      refine O_nil (Then_n (W_ret ?_))
      refine ret_1 (v := (.bool (decide ((((linksOf (putChangeB c)).length : Nat) : Int) = (kv2.length : Int))))) Tryz.results8 rfl ?_
      exact ⟨(lk_len hC (want_end hkv2 (by omega))), H94.gr⟩
 ·have hS4 := hS4
  refine W_reg ?_
  refine O_mv (v := (.int .i64 (putBlobE b))) rfl rfl ?_
  refine O_k rfl (.bool false) (R_cmp (a := putBlobE b) (b := 0) (r := (decide (putBlobE b = 0))) rfl rfl rfl ⟨(congrArg Value.bool (decide_eq_false hS4)), Gr.refl _ _⟩) (fun w155 hx156 => ?_)
  have H157 := H17.ext hx156
  refine O_mv (v := (.bool false)) rfl rfl ?_
  refine O_g true false rfl rfl rfl rfl false rfl undef (fun hA => (nomatch hA)) (fun w158 hx159 => ?_)
  have H160 := H157.ext hx159
  refine O_g true false rfl rfl rfl rfl false rfl undef (fun hA => (nomatch hA)) (fun w161 hx162 => ?_)
  have H163 := H160.ext hx162
  refine O_g true false rfl rfl rfl rfl false rfl undef (fun hA => (nomatch hA)) (fun w164 hx165 => ?_)
  have H166 := H163.ext hx165
  refine O_g true false rfl rfl rfl rfl false rfl undef (fun hA => (nomatch hA)) (fun w167 hx168 => ?_)
  have H169 := H166.ext hx168
  refine O_v rfl (R_pick (t := false) (v := (.bool false)) rfl rfl ?_)
  refine O_nil (Then_n ?_)
  refine W_cond_f rfl ?_
  refine W_skip (Then_n (W_seq (W_reg ?_)))
  refine O_v rfl (R_loadA (cs := [[(slV c.ph c.parents)], [(.int .i64 c.time)], [(.int .i64 c.r)], [(slV c.oh c.ops)], (idCells c.tree), [(.string c.msg)]]) Tryz.isAgg47 Tryz.sizeOf47 rfl rfl (H169.bx 1 rfl 0 6 0 0 _ rfl rfl rfl) ?_)
  refine O_v rfl (R_callL (vs := [(aggOf (changeCh c))]) cF23 rfl rfl ((obj_PutChange c w167 (H169.slOld 3 rfl) (H169.slOld 2 rfl) (H169.deepOld 1 rfl)).ret ?_))
  rintro _ w171 ⟨h170, rfl, hx172, ho173⟩
  have H174 := H169.addRow hx172 ho173
  refine O_mv (v := (.tuple #[(slV h170 (putChangeB c)), (.int .i64 (putChangeE c))])) rfl rfl (O_ex (v := (slV h170 (putChangeB c))) rfl rfl rfl (O_ex (v := (.int .i64 (putChangeE c))) rfl rfl rfl (O_as (v := (slV h170 (putChangeB c))) rfl rfl ?_)))
  refine O_as (v := (.int .i64 (putChangeE c))) rfl rfl ?_
  refine O_nil (Then_n (W_seq (W_seq (W_reg ?_))))
  refine O_mv (v := (.int .i64 (putChangeE c))) rfl rfl ?_
  refine O_v rfl (R_cmp (a := putChangeE c) (b := 0) (r := (!(decide (putChangeE c = 0)))) rfl rfl rfl ?_)
  refine O_nil (Then_n ?_)
  refine W_cond rfl (fun hc175 => ?_) (fun hc175 => ?_)
  ·have hc175 : ¬ (putChangeE c = 0) := (of_decide_eq_false (notT hc175))
   refine W_seq (W_reg ?_)
   refine O_as (v := (.bool true)) rfl rfl ?_
   refine O_nil (Then_n (W_ret (Then_r ?_)))
   refine ret_1 (v := (.bool true)) Tryz.results8 rfl ?_
   exact ⟨rfl, H174.gr⟩
  ·have hc175 : (putChangeE c = 0) := (of_decide_eq_true (notF hc175))
   have hC := putChange_ok hc175
   have hCl := chgs_len hC
   refine W_skip (Then_n (W_seq (W_reg ?_)))
   refine O_v rfl (C_makeMap H174 (fun x : ID => idV x) boolV ?_)
   intro r176 w177 hr178 hx179 H180
   refine O_v rfl (R_fieldAddr (off := 4) (oo := 4) Tryz.underlying47 rfl rfl Tryz.sizeOf45 rfl rfl ?_)
   refine O_v rfl (R_loadA (cs := [(idCells c.tree)]) Tryz.isAgg45 Tryz.sizeOf45 rfl rfl (H180.bx 3 rfl 4 1 4 4 _ rfl rfl rfl) ?_)
   refine O_u (C_insert H180 0 rfl (kk := c.tree) (v := true) keyT_ID45 Tryz.underlying67 rfl rfl rfl ?_)
   intro w181 hg182 H183
   refine O_mv (v := (.map (some r176))) rfl rfl (O_as (v := (.map (some r176))) rfl rfl ?_)
   refine O_nil (Then_n (W_seq (W_seq (W_reg ?_))))
   refine O_v rfl (R_fieldAddr (off := 0) (oo := 0) Tryz.underlying47 rfl rfl Tryz.sizeOf39 rfl rfl ?_)
   refine O_v rfl (R_load1 (v := (slV c.ph c.parents)) Tryz.isAgg39 rfl (H183.bx 3 rfl 0 1 0 0 _ rfl rfl rfl) ?_)
   refine O_v rfl (R_len_slice (a := c.ph.a) (n := c.parents.length) (c := c.ph.c) Tryz.underlying39 rfl ?_)
   refine O_mv (v := (.int .i64 0)) rfl rfl ?_
   refine O_nil (Then_n (W_block ?_))
   refine W_loop (fun m184 e185 w186 => ∃ (k : Nat), ∃ (kv : List (ID × Bool)), m184 = c.parents.length - k ∧ (k ≤ c.parents.length) ∧ (kv = setKv (c.tree :: c.parents.take k)) ∧ ∃ eb187, e185 = envL [(2, (.pointer (some ⟨b5, 0, none⟩))), (4, (.bool false)), (7, (slV h170 (putChangeB c))), (9, (.map (some r176))), (44, (slV c.ph c.parents)), (45, (.int .i64 (c.parents.length : Int))), (46, (.int .i64 (k : Int)))] eb187 ∧ Ctx w nob w186 [mapO r176 (fun x : ID => idV x) boolV kv, rowR 5 1 encB h170 (putChangeB c), rowR 5 1 encB h13 (putBlobB b), boxR b5 47 [[(slV c.ph c.parents)], [(.int .i64 c.time)], [(.int .i64 c.r)], [(slV c.oh c.ops)], (idCells c.tree), [(.string c.msg)]]] [slI (Old w) encB 1 hb b, deepI (Old w) stampCh 2 (fun x : OpS => x.oh) (fun x : OpS => x.over) c.ops, slI (Old w) opCh 41 c.oh c.ops, slI (Old w) idCh 32 c.ph c.parents]) _ ⟨0, (kvPut c.tree true ([] : List (ID × Bool))), rfl, (by omega), rfl, _, envL_self ⟨rfl, rfl, rfl, rfl, rfl, rfl, rfl, trivial⟩, H183⟩ ?_
   rintro m184 _ w186 ⟨k, kv, rfl, hk, hkv, eb187, rfl, H188⟩
   refine W_seq (W_reg ?_)
   refine O_v rfl (R_cmp (a := (k : Int)) (b := (c.parents.length : Int)) (r := (decide ((k : Int) < (c.parents.length : Int)))) rfl rfl rfl ?_)
   refine O_nil (Then_n (W_seq ?_))
   refine W_cond rfl (fun hc189 => ?_) (fun hc189 => ?_)
   ·have hc189 := (of_decide_eq_true hc189)
    refine W_skip (Then_n (W_seq (W_block (W_seq (W_reg ?_)))))
    refine O_v rfl (R_index_pure (H188.sl 3 rfl) (n := c.parents.length) rfl (j := (k : Int)) (oo := (c.ph.o + k * 32)) Tryz.underlying39 Tryz.sizeOf45 rfl rfl (by omega) (by omega) rfl ?_)
    refine O_v rfl (R_loadA (cs := [(idCells (nth c.parents k))]) Tryz.isAgg45 Tryz.sizeOf45 rfl rfl ((Sl.elem (H188.sl 3 rfl) (i := k) (by omega) rfl).chunks 0 1 0 (c.ph.o + k * 32) _ rfl rfl rfl) ?_)
    refine O_v rfl (C_alloc H188 [(idCells zeroId)] Tryz.zeroValue45 ?_)
    intro b190 w191 hb192 hx193 H194
    refine O_u (C_storeW H194 0 rfl (sub := [(idCells (nth c.parents k))]) Tryz.sizeOf45 rfl rfl rfl rfl rfl ?_)
    intro w195 hg196 H197
    refine O_nil (Then_n (W_reg ?_))
    refine O_mv (v := (.map (some r176))) rfl rfl ?_
    refine O_v rfl (R_loadA (cs := [(idCells (nth c.parents k))]) Tryz.isAgg45 Tryz.sizeOf45 rfl rfl (H197.bx 0 rfl 0 1 0 0 _ rfl rfl rfl) ?_)
    refine O_u (C_mapUpdate H197 1 rfl (kk := (nth c.parents k)) (v := true) keyT_ID45 Tryz.underlying67 rfl rfl rfl ?_)
    intro w198 hg199 H200
    refine O_nil (Blk_n (Then_n (W_reg ?_)))
    refine O_v rfl (R_arith (a := (k : Int)) (b := 1) (r0 := (k : Int) + 1) (r := ((k + 1 : Nat) : Int)) rfl rfl rfl (wrapN _ (by have h5 := change_lens hC; have h6 := links_few (putChangeB c); omega)) ?_)
    refine O_mv (v := (.int .i64 ((k + 1 : Nat) : Int))) rfl rfl ?_
    refine O_nil (Then_n ?_)
    have H201 := H200.sub (List.Sublist.cons _ (List.Sublist.cons_cons _ (List.Sublist.cons_cons _ (List.Sublist.cons_cons _ (List.Sublist.cons_cons _ List.Sublist.slnil))))) (List.forall_mem_cons.2 ⟨List.mem_of_getElem? (i := 0) rfl, List.forall_mem_cons.2 ⟨List.mem_of_getElem? (i := 1) rfl, List.forall_mem_cons.2 ⟨List.mem_of_getElem? (i := 2) rfl, List.forall_mem_cons.2 ⟨List.mem_of_getElem? (i := 3) rfl, memN⟩⟩⟩⟩)
    refine ⟨_, ?_, (k + 1), (kvPut (nth c.parents k) true kv), rfl, (by omega), (want_par hkv (by omega)), _, envL_self ⟨rfl, rfl, rfl, rfl, rfl, rfl, rfl, trivial⟩, H201⟩
    omega
   ·have hc189 := (of_decide_eq_false hc189)
    refine W_exit (Then_x (Then_x (Blk_x (Then_n (W_seq (W_seq (W_reg ?_)))))))
    refine O_v rfl (R_fieldAddr (off := 3) (oo := 3) Tryz.underlying47 rfl rfl Tryz.sizeOf43 rfl rfl ?_)
    refine O_v rfl (R_load1 (v := (slV c.oh c.ops)) Tryz.isAgg43 rfl (H188.bx 3 rfl 3 1 3 3 _ rfl rfl rfl) ?_)
    refine O_v rfl (R_len_slice (a := c.oh.a) (n := c.ops.length) (c := c.oh.c) Tryz.underlying43 rfl ?_)
    refine O_mv (v := (.int .i64 0)) rfl rfl ?_
    refine O_nil (Then_n (W_block ?_))
    refine W_loop (fun m202 e203 w204 => ∃ (j : Nat), ∃ (kv2 : List (ID × Bool)), m202 = c.ops.length - j ∧ (j ≤ c.ops.length) ∧ (kv2 = setKv ((c.tree :: c.parents) ++ editData (c.ops.take j))) ∧ ∃ eb205, e203 = envL [(4, (.bool false)), (7, (slV h170 (putChangeB c))), (9, (.map (some r176))), (54, (slV c.oh c.ops)), (55, (.int .i64 (c.ops.length : Int))), (56, (.int .i64 (j : Int)))] eb205 ∧ Ctx w nob w204 [mapO r176 (fun x : ID => idV x) boolV kv2, rowR 5 1 encB h170 (putChangeB c), rowR 5 1 encB h13 (putBlobB b), boxR b5 47 [[(slV c.ph c.parents)], [(.int .i64 c.time)], [(.int .i64 c.r)], [(slV c.oh c.ops)], (idCells c.tree), [(.string c.msg)]]] [slI (Old w) encB 1 hb b, deepI (Old w) stampCh 2 (fun x : OpS => x.oh) (fun x : OpS => x.over) c.ops, slI (Old w) opCh 41 c.oh c.ops, slI (Old w) idCh 32 c.ph c.parents]) _ ⟨0, kv, rfl, (by omega), (want_ops0 hkv (by omega)), _, envL_self ⟨rfl, rfl, rfl, rfl, rfl, rfl, trivial⟩, H188⟩ ?_
    rintro m202 _ w204 ⟨j, kv2, rfl, hj, hkv2, eb205, rfl, H206⟩
    refine W_seq (W_reg ?_)
    refine O_v rfl (R_cmp (a := (j : Int)) (b := (c.ops.length : Int)) (r := (decide ((j : Int) < (c.ops.length : Int)))) rfl rfl rfl ?_)
    refine O_nil (Then_n (W_seq ?_))
    refine W_cond rfl (fun hc207 => ?_) (fun hc207 => ?_)
    ·have hc207 := (of_decide_eq_true hc207)
     refine W_skip (Then_n (W_seq (W_block (W_seq (W_reg ?_)))))
     refine O_v rfl (R_index_pure (H206.sl 2 rfl) (n := c.ops.length) rfl (j := (j : Int)) (oo := (c.oh.o + j * 41)) Tryz.underlying43 Tryz.sizeOf72 rfl rfl (by omega) (by omega) rfl ?_)
     refine O_v rfl (R_loadA (cs := [[(.int .i64 ((nth c.ops j).kind))], [(.int .i64 (((nth c.ops j).tm).T))], [(.int .i64 (((nth c.ops j).tm).R))], [(.int .i64 (((nth c.ops j).node).T))], [(.int .i64 (((nth c.ops j).node).R))], [(.int .i64 (((nth c.ops j).par).T))], [(.int .i64 (((nth c.ops j).par).R))], [(.string ((nth c.ops j).name))], (idCells ((nth c.ops j).data)), [(slV ((nth c.ops j).oh) ((nth c.ops j).over))]]) Tryz.isAgg72 Tryz.sizeOf72 rfl rfl ((Sl.elem (H206.sl 2 rfl) (i := j) (by omega) rfl).chunks 0 10 0 (c.oh.o + j * 41) _ rfl rfl rfl) ?_)
     refine O_v rfl (C_alloc H206 [[(.int .i64 0)], [(.int .i64 0)], [(.int .i64 0)], [(.int .i64 0)], [(.int .i64 0)], [(.int .i64 0)], [(.int .i64 0)], [(.string ByteArray.empty)], (idCells zeroId), [(.slice none 0 0)]] Tryz.zeroValue72 ?_)
     intro b208 w209 hb210 hx211 H212
     refine O_u (C_storeW H212 0 rfl (sub := [[(.int .i64 ((nth c.ops j).kind))], [(.int .i64 (((nth c.ops j).tm).T))], [(.int .i64 (((nth c.ops j).tm).R))], [(.int .i64 (((nth c.ops j).node).T))], [(.int .i64 (((nth c.ops j).node).R))], [(.int .i64 (((nth c.ops j).par).T))], [(.int .i64 (((nth c.ops j).par).R))], [(.string ((nth c.ops j).name))], (idCells ((nth c.ops j).data)), [(slV ((nth c.ops j).oh) ((nth c.ops j).over))]]) Tryz.sizeOf72 rfl rfl rfl rfl rfl ?_)
     intro w213 hg214 H215
     refine O_nil (Then_n (W_seq (W_reg ?_)))
     refine O_v rfl (R_fieldAddr (off := 0) (oo := 0) Tryz.underlying72 rfl rfl Tryz.sizeOf3 rfl rfl ?_)
     refine O_v rfl (R_load1 (v := (.int .i64 ((nth c.ops j).kind))) Tryz.isAgg3 rfl (H215.bx 0 rfl 0 1 0 0 _ rfl rfl rfl) ?_)
     refine O_v rfl (R_cmp (a := (nth c.ops j).kind) (b := 2) (r := (decide ((nth c.ops j).kind = 2))) rfl rfl rfl ?_)
     refine O_nil (Then_n ?_)
     refine W_cond rfl (fun hc216 => ?_) (fun hc216 => ?_)
     ·have hc216 := (of_decide_eq_true hc216)
      refine W_reg ?_
      refine O_mv (v := (.map (some r176))) rfl rfl ?_
      refine O_v rfl (R_fieldAddr (off := 8) (oo := 8) Tryz.underlying72 rfl rfl Tryz.sizeOf45 rfl rfl ?_)
      refine O_v rfl (R_loadA (cs := [(idCells ((nth c.ops j).data))]) Tryz.isAgg45 Tryz.sizeOf45 rfl rfl (H215.bx 0 rfl 8 1 8 8 _ rfl rfl rfl) ?_)
      refine O_u (C_mapUpdate H215 1 rfl (kk := (nth c.ops j).data) (v := true) keyT_ID45 Tryz.underlying67 rfl rfl rfl ?_)
      intro w217 hg218 H219
      refine O_nil (Blk_n (Then_n (W_reg ?_)))
      refine O_v rfl (R_arith (a := (j : Int)) (b := 1) (r0 := (j : Int) + 1) (r := ((j + 1 : Nat) : Int)) rfl rfl rfl (wrapN _ (by have h5 := change_lens hC; have h6 := links_few (putChangeB c); omega)) ?_)
      refine O_mv (v := (.int .i64 ((j + 1 : Nat) : Int))) rfl rfl ?_
      refine O_nil (Then_n ?_)
      have H220 := H219.sub (List.Sublist.cons _ (List.Sublist.cons_cons _ (List.Sublist.cons_cons _ (List.Sublist.cons_cons _ (List.Sublist.cons_cons _ List.Sublist.slnil))))) (List.forall_mem_cons.2 ⟨List.mem_of_getElem? (i := 0) rfl, List.forall_mem_cons.2 ⟨List.mem_of_getElem? (i := 1) rfl, List.forall_mem_cons.2 ⟨List.mem_of_getElem? (i := 2) rfl, List.forall_mem_cons.2 ⟨List.mem_of_getElem? (i := 3) rfl, memN⟩⟩⟩⟩)
      refine ⟨_, ?_, (j + 1), (kvPut ((nth c.ops j).data) true kv2), rfl, (by omega), (want_op_y hkv2 (by omega) (by assumption)), _, envL_self ⟨rfl, rfl, rfl, rfl, rfl, rfl, trivial⟩, H220⟩
      omega
     ·have hc216 := (of_decide_eq_false hc216)
      refine W_skip (Blk_n (Then_n (W_reg ?_)))
      refine O_v rfl (R_arith (a := (j : Int)) (b := 1) (r0 := (j : Int) + 1) (r := ((j + 1 : Nat) : Int)) rfl rfl rfl (wrapN _ (by have h5 := change_lens hC; have h6 := links_few (putChangeB c); omega)) ?_)
      refine O_mv (v := (.int .i64 ((j + 1 : Nat) : Int))) rfl rfl ?_
      refine O_nil (Then_n ?_)
      have H221 := H215.sub (List.Sublist.cons _ (List.Sublist.cons_cons _ (List.Sublist.cons_cons _ (List.Sublist.cons_cons _ (List.Sublist.cons_cons _ List.Sublist.slnil))))) (List.forall_mem_cons.2 ⟨List.mem_of_getElem? (i := 0) rfl, List.forall_mem_cons.2 ⟨List.mem_of_getElem? (i := 1) rfl, List.forall_mem_cons.2 ⟨List.mem_of_getElem? (i := 2) rfl, List.forall_mem_cons.2 ⟨List.mem_of_getElem? (i := 3) rfl, memN⟩⟩⟩⟩)
      refine ⟨_, ?_, (j + 1), kv2, rfl, (by omega), (want_op_n hkv2 (by omega) (by assumption)), _, envL_self ⟨rfl, rfl, rfl, rfl, rfl, rfl, trivial⟩, H221⟩
      omega
    ·have hc207 := (of_decide_eq_false hc207)
     refine W_exit (Then_x (Then_x (Blk_x (Then_n (W_seq (W_reg ?_))))))
     refine O_mv (v := (slV h170 (putChangeB c))) rfl rfl ?_
     refine O_v rfl (R_callL (vs := [(slV h170 (putChangeB c))]) cF21 rfl rfl ((obj_LinksG h170 (putChangeB c) w204 (H206.rowSl 1 rfl (fun _ => rfl)) hCl).ret ?_))
     rintro _ w224 ⟨h222, S223, rfl, hx225, hS226, hv227⟩
     have H228 := H206.addImm hx225 (slI S223 idCh 32 h222 (linksOf (putChangeB c))) hv227 hS226
     refine O_as (v := (slV h222 (linksOf (putChangeB c)))) rfl rfl ?_
     refine O_nil (Then_n (W_seq (W_seq (W_reg ?_))))
     refine O_mv (v := (slV h222 (linksOf (putChangeB c)))) rfl rfl ?_
     refine O_v rfl (R_len_slice (a := h222.a) (n := (linksOf (putChangeB c)).length) (c := h222.c) Tryz.underlying39 rfl ?_)
     refine O_mv (v := (.int .i64 0)) rfl rfl ?_
     refine O_nil (Then_n (W_block ?_))
     refine W_loop (fun m229 e230 w231 => ∃ (m : Nat), m229 = (linksOf (putChangeB c)).length - m ∧ (m ≤ (linksOf (putChangeB c)).length) ∧ ∃ eb232, e230 = envL [(9, (.map (some r176))), (14, (slV h222 (linksOf (putChangeB c)))), (69, (slV h222 (linksOf (putChangeB c)))), (70, (.int .i64 (((linksOf (putChangeB c)).length : Nat) : Int))), (71, (.int .i64 (m : Int)))] eb232 ∧ Ctx w nob w231 [mapO r176 (fun x : ID => idV x) boolV kv2, rowR 5 1 encB h170 (putChangeB c), rowR 5 1 encB h13 (putBlobB b), boxR b5 47 [[(slV c.ph c.parents)], [(.int .i64 c.time)], [(.int .i64 c.r)], [(slV c.oh c.ops)], (idCells c.tree), [(.string c.msg)]]] [slI S223 idCh 32 h222 (linksOf (putChangeB c)), slI (Old w) encB 1 hb b, deepI (Old w) stampCh 2 (fun x : OpS => x.oh) (fun x : OpS => x.over) c.ops, slI (Old w) opCh 41 c.oh c.ops, slI (Old w) idCh 32 c.ph c.parents]) _ ⟨0, rfl, (by omega), _, envL_self ⟨rfl, rfl, rfl, rfl, rfl, trivial⟩, H228⟩ ?_
     rintro m229 _ w231 ⟨m, rfl, hm, eb232, rfl, H233⟩
     refine W_seq (W_reg ?_)
     refine O_v rfl (R_cmp (a := (m : Int)) (b := (((linksOf (putChangeB c)).length : Nat) : Int)) (r := (decide ((m : Int) < (((linksOf (putChangeB c)).length : Nat) : Int)))) rfl rfl rfl ?_)
     refine O_nil (Then_n (W_seq ?_))
     refine W_cond rfl (fun hc234 => ?_) (fun hc234 => ?_)
     ·have hc234 := (of_decide_eq_true hc234)
      refine W_skip (Then_n (W_seq (W_block (W_seq (W_reg ?_)))))
      refine O_mv (v := (.int .i64 (m : Int))) rfl rfl ?_
      refine O_v rfl (R_index_pure (H233.sl 0 rfl) (n := (linksOf (putChangeB c)).length) rfl (j := (m : Int)) (oo := (h222.o + m * 32)) Tryz.underlying39 Tryz.sizeOf45 rfl rfl (by omega) (by omega) rfl ?_)
      refine O_v rfl (R_loadA (cs := [(idCells (nth (linksOf (putChangeB c)) m))]) Tryz.isAgg45 Tryz.sizeOf45 rfl rfl ((Sl.elem (H233.sl 0 rfl) (i := m) (by omega) rfl).chunks 0 1 0 (h222.o + m * 32) _ rfl rfl rfl) ?_)
      refine O_v rfl (C_alloc H233 [(idCells zeroId)] Tryz.zeroValue45 ?_)
      intro b235 w236 hb237 hx238 H239
      refine O_as (v := (.int .i64 (m : Int))) rfl rfl ?_
      refine O_u (C_storeW H239 0 rfl (sub := [(idCells (nth (linksOf (putChangeB c)) m))]) Tryz.sizeOf45 rfl rfl rfl rfl rfl ?_)
      intro w240 hg241 H242
      refine O_nil (Then_n (W_seq ?_))
      refine W_rgd TryzMixed [(0, .q 0), (1, .q 0), (2, .q 0), (3, .q 0), (4, .q 0), (5, .q 0), (6, .q 0), (7, .q 0), (8, .q 0), (9, .q 0), (10, .q 0), (11, .q 0), (12, .q 0), (13, .q 0), (14, .q 0), (15, .q 0), (16, .q 0), (17, .q 0), (18, .q 0), (19, .q 0), (20, .q 0), (21, .q 0), (22, .q 0)] (by kernel_rfl) ?_
      refine Lx_mv (v := (.map (some r176))) rfl rfl rfl (Lx_q rfl rfl _ (fun v245 hv246 => R_loadA (cs := [(idCells (nth (linksOf (putChangeB c)) m))]) Tryz.isAgg45 Tryz.sizeOf45 rfl rfl ((H242.ext hv246).bx 0 rfl 0 1 0 0 _ rfl rfl rfl) qk) (Lx_q rfl rfl _ (fun v247 hv248 => R_lookup (kk := (nth (linksOf (putChangeB c)) m)) (z := false) keyT_ID45 Tryz.underlying67 Tryz.zeroValue4 ((H242.ext hv248).getOwn 1 rfl) rfl rfl qk) (Lx_q rfl rfl _ (fun v249 hv250 => R_not rfl qk) ?_)))
      refine Lx_mv (v := (.bool (!(((kvGet kv2 (nth (linksOf (putChangeB c)) m)).getD false))))) rfl rfl rfl (Lx_qf rfl rfl rfl rfl rfl _ (fun hA v253 hv254 => R_loadA (cs := [(idCells (nth (linksOf (putChangeB c)) m))]) Tryz.isAgg45 Tryz.sizeOf45 rfl rfl ((H242.ext hv254).bx 0 rfl 0 1 0 0 _ rfl rfl rfl) qk) (Lx_qf rfl rfl rfl rfl rfl _ (fun hA v255 hv256 => R_buildL (vs := []) (v := aggOf [(idCells zeroId)]) rfl (fun _ => by kernel_rfl) qk) (Lx_qf rfl rfl rfl rfl rfl _ (fun hA v257 hv258 => R_eqv (a := (nth (linksOf (putChangeB c)) m)) (b := zeroId) eqv_ID45 rfl Tryz.eqGuardType45 (gv_t hA) (gv_t hA) qk) ?_)))
      refine Lx_q rfl rfl _ (fun v259 hv260 => R_pick rfl pk_or qk) (Lx_mv (v := (.bool ((!(((kvGet kv2 (nth (linksOf (putChangeB c)) m)).getD false))) || (decide ((nth (linksOf (putChangeB c)) m) = zeroId))))) rfl rfl rfl (Lx_qf rfl rfl rfl rfl rfl _ (fun hA v263 hv264 => R_move (v := (.int .i64 (m : Int))) rfl qk) (Lx_qf rfl rfl rfl rfl rfl _ (fun hA v265 hv266 => R_cmp (a := (m : Int)) (b := 0) (r := (decide (0 < (m : Int)))) (gv_t hA) rfl rfl qk) ?_)))
      refine Lx_qf rfl rfl rfl rfl rfl _ (fun hA v267 hv268 => R_move (v := (.bool (decide (0 < (m : Int))))) (gv_t hA) qk) (Lx_gt (!((!(((kvGet kv2 (nth (linksOf (putChangeB c)) m)).getD false))) || (decide ((nth (linksOf (putChangeB c)) m) = zeroId)))) (decide (0 < (m : Int))) rfl rfl rfl rfl rfl _ (fun hA v269 hv270 => R_move (v := (slV h222 (linksOf (putChangeB c)))) rfl qk) (Lx_gt (!((!(((kvGet kv2 (nth (linksOf (putChangeB c)) m)).getD false))) || (decide ((nth (linksOf (putChangeB c)) m) = zeroId)))) (decide (0 < (m : Int))) rfl rfl rfl rfl rfl _ (fun hA v271 hv272 => R_move (v := (.int .i64 (m : Int))) rfl qk) ?_))
      refine Lx_gt (!((!(((kvGet kv2 (nth (linksOf (putChangeB c)) m)).getD false))) || (decide ((nth (linksOf (putChangeB c)) m) = zeroId)))) (decide (0 < (m : Int))) rfl rfl rfl rfl rfl _ (fun hA v273 hv274 => by
                have hP : (((((kvGet kv2 (nth (linksOf (putChangeB c)) m)).getD false)) = true ∧ ¬ ((nth (linksOf (putChangeB c)) m) = zeroId)) ∧ (0 < (m : Int))) := (And.imp (fun h => (And.imp (fun h => (notF h)) (fun h => (of_decide_eq_false h)) (orF (notT h)))) (fun h => (of_decide_eq_true h)) (andT hA))
                exact R_arith (a := (m : Int)) (b := 1) (r0 := (m : Int) - 1) (r := ((m - 1 : Nat) : Int)) (gv_t hA) rfl rfl (wrapP _ (by omega) (by have h6 := links_few (putChangeB c); omega)) qk) ?_
      refine Lx_gt (!((!(((kvGet kv2 (nth (linksOf (putChangeB c)) m)).getD false))) || (decide ((nth (linksOf (putChangeB c)) m) = zeroId)))) (decide (0 < (m : Int))) rfl rfl rfl rfl rfl _ (fun hA v275 hv276 => by
                have hP : (((((kvGet kv2 (nth (linksOf (putChangeB c)) m)).getD false)) = true ∧ ¬ ((nth (linksOf (putChangeB c)) m) = zeroId)) ∧ (0 < (m : Int))) := (And.imp (fun h => (And.imp (fun h => (notF h)) (fun h => (of_decide_eq_false h)) (orF (notT h)))) (fun h => (of_decide_eq_true h)) (andT hA))
                exact R_index_pure (H242.sl 0 rfl) (n := (linksOf (putChangeB c)).length) rfl (j := ((m - 1 : Nat) : Int)) (oo := (h222.o + (m - 1) * 32)) Tryz.underlying39 Tryz.sizeOf45 (gv_t hA) (gv_t hA) (by omega) (by omega) rfl qk) ?_
      refine Lx_gt (!((!(((kvGet kv2 (nth (linksOf (putChangeB c)) m)).getD false))) || (decide ((nth (linksOf (putChangeB c)) m) = zeroId)))) (decide (0 < (m : Int))) rfl rfl rfl rfl rfl _ (fun hA v277 hv278 => by
                have hP : (((((kvGet kv2 (nth (linksOf (putChangeB c)) m)).getD false)) = true ∧ ¬ ((nth (linksOf (putChangeB c)) m) = zeroId)) ∧ (0 < (m : Int))) := (And.imp (fun h => (And.imp (fun h => (notF h)) (fun h => (of_decide_eq_false h)) (orF (notT h)))) (fun h => (of_decide_eq_true h)) (andT hA))
                exact R_loadA (cs := [(idCells (nth (linksOf (putChangeB c)) (m - 1)))]) Tryz.isAgg45 Tryz.sizeOf45 rfl (gv_t hA) ((Sl.elem ((H242.ext hv278).sl 0 rfl) (i := (m - 1)) (by omega) rfl).chunks 0 1 0 (h222.o + (m - 1) * 32) _ rfl rfl rfl) qk) ?_
      refine Lx_gt (!((!(((kvGet kv2 (nth (linksOf (putChangeB c)) m)).getD false))) || (decide ((nth (linksOf (putChangeB c)) m) = zeroId)))) (decide (0 < (m : Int))) rfl rfl rfl rfl rfl _ (fun hA v279 hv280 => R_loadA (cs := [(idCells (nth (linksOf (putChangeB c)) m))]) Tryz.isAgg45 Tryz.sizeOf45 rfl rfl ((H242.ext hv280).bx 0 rfl 0 1 0 0 _ rfl rfl rfl) qk) (Lx_gt (!((!(((kvGet kv2 (nth (linksOf (putChangeB c)) m)).getD false))) || (decide ((nth (linksOf (putChangeB c)) m) = zeroId)))) (decide (0 < (m : Int))) rfl rfl rfl rfl rfl (.int .i64 (cmpId (nth (linksOf (putChangeB c)) (m - 1)) (nth (linksOf (putChangeB c)) m))) (fun hA v281 hv282 => R_callL (vs := [(aggOf (idCh (nth (linksOf (putChangeB c)) (m - 1)))), (aggOf (idCh (nth (linksOf (putChangeB c)) m)))]) cF36 rfl (lst2 (gv_t hA) (gv_t hA)) (ref01_Cmp (nth (linksOf (putChangeB c)) (m - 1)) (nth (linksOf (putChangeB c)) m) v281 )) (Lx_gt (!((!(((kvGet kv2 (nth (linksOf (putChangeB c)) m)).getD false))) || (decide ((nth (linksOf (putChangeB c)) m) = zeroId)))) (decide (0 < (m : Int))) rfl rfl rfl rfl rfl _ (fun hA v283 hv284 => R_cmp (a := cmpId (nth (linksOf (putChangeB c)) (m - 1)) (nth (linksOf (putChangeB c)) m)) (b := (-1)) (r := (!(decide (cmpId (nth (linksOf (putChangeB c)) (m - 1)) (nth (linksOf (putChangeB c)) m) = (-1))))) (gv_t hA) rfl rfl qk) (Lx_qf rfl rfl rfl rfl rfl _ (fun hA v285 hv286 => R_pick (gv_t hA) (pk_andA hA) qk) ?_)))
      refine Lx_q rfl rfl _ (fun v287 hv288 => R_pick rfl pk_or qk) ?_
      refine Lx_nil (fun w289 hw290 => ?_)
      have H291 := H242.ext hw290
      refine Then_n ?_
      refine W_cond rfl (fun hc292 => ?_) (fun hc292 => ?_)
      ·have hc292 : (((((kvGet kv2 (nth (linksOf (putChangeB c)) m)).getD false)) = false ∨ ((nth (linksOf (putChangeB c)) m) = zeroId)) ∨ ((0 < (m : Int)) ∧ ¬ (cmpId (nth (linksOf (putChangeB c)) (m - 1)) (nth (linksOf (putChangeB c)) m) = (-1)))) := (Or.imp (fun h => (Or.imp (fun h => (notT h)) (fun h => (of_decide_eq_true h)) (orT h))) (fun h => (And.imp (fun h => (of_decide_eq_true h)) (fun h => (of_decide_eq_false (notT h))) (andT h))) (orT hc292))
       refine W_seq (W_reg ?_)
       refine O_as (v := (.bool false)) rfl rfl ?_
       refine O_nil (Then_n (W_ret (Blk_r (Then_r (Then_r (Blk_r (Then_r ?_)))))))
       refine ret_1 (v := (.bool false)) Tryz.results8 rfl ?_
       exact ⟨(lk_bad (k := m) hC (want_end hkv2 (by omega)) (by omega) (by assumption)), H291.gr⟩
      ·have hc292 : (((((kvGet kv2 (nth (linksOf (putChangeB c)) m)).getD false)) = true ∧ ¬ ((nth (linksOf (putChangeB c)) m) = zeroId)) ∧ (¬ (0 < (m : Int)) ∨ (cmpId (nth (linksOf (putChangeB c)) (m - 1)) (nth (linksOf (putChangeB c)) m) = (-1)))) := (And.imp (fun h => (And.imp (fun h => (notF h)) (fun h => (of_decide_eq_false h)) (orF h))) (fun h => (Or.imp (fun h => (of_decide_eq_false h)) (fun h => (of_decide_eq_true (notF h))) (andF h))) (orF hc292))
       refine W_skip (Blk_n (Then_n (W_reg ?_)))
       refine O_v rfl (R_arith (a := (m : Int)) (b := 1) (r0 := (m : Int) + 1) (r := ((m + 1 : Nat) : Int)) rfl rfl rfl (wrapN _ (by have h5 := change_lens hC; have h6 := links_few (putChangeB c); omega)) ?_)
       refine O_mv (v := (.int .i64 ((m + 1 : Nat) : Int))) rfl rfl ?_
       refine O_nil (Then_n ?_)
       have H293 := H291.sub (List.Sublist.cons _ (List.Sublist.cons_cons _ (List.Sublist.cons_cons _ (List.Sublist.cons_cons _ (List.Sublist.cons_cons _ List.Sublist.slnil))))) (List.forall_mem_cons.2 ⟨List.mem_of_getElem? (i := 0) rfl, List.forall_mem_cons.2 ⟨List.mem_of_getElem? (i := 1) rfl, List.forall_mem_cons.2 ⟨List.mem_of_getElem? (i := 2) rfl, List.forall_mem_cons.2 ⟨List.mem_of_getElem? (i := 3) rfl, List.forall_mem_cons.2 ⟨List.mem_of_getElem? (i := 4) rfl, memN⟩⟩⟩⟩⟩)
       refine ⟨_, ?_, (m + 1), rfl, (by omega), _, envL_self ⟨rfl, rfl, rfl, rfl, rfl, trivial⟩, H293⟩
       omega
     ·have hc234 := (of_decide_eq_false hc234)
      refine W_exit (Then_x (Then_x (Blk_x (Then_n (W_seq (W_reg ?_))))))
      refine O_mv (v := (slV h222 (linksOf (putChangeB c)))) rfl rfl ?_
      refine O_v rfl (R_len_slice (a := h222.a) (n := (linksOf (putChangeB c)).length) (c := h222.c) Tryz.underlying39 rfl ?_)
      refine O_mv (v := (.map (some r176))) rfl rfl ?_
      refine O_v rfl (R_len_mapQ Tryz.underlying67 (H233.getOwn 0 rfl) rfl ?_)
      refine O_v rfl (R_cmp (a := (((linksOf (putChangeB c)).length : Nat) : Int)) (b := (kv2.length : Int)) (r := (decide ((((linksOf (putChangeB c)).length : Nat) : Int) = (kv2.length : Int)))) rfl rfl rfl ?_)
      refine O_as (v := (.bool (decide ((((linksOf (putChangeB c)).length : Nat) : Int) = (kv2.length : Int))))) rfl rfl ?_
      refine O_nil (Then_n (W_ret ?_))
      refine ret_1 (v := (.bool (decide ((((linksOf (putChangeB c)).length : Nat) : Int) = (kv2.length : Int))))) Tryz.results8 rfl ?_
      exact ⟨(lk_len hC (want_end hkv2 (by omega))), H233.gr⟩
end Go.Proofs.YthjdhfoeckfmbaaGreat
