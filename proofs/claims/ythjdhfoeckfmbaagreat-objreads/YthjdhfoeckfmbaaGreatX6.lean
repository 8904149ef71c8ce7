/- Proved: for every input, pollardlaw04.ObjReads returns true and leaves its argument as it was. No condition. -/
import Derived.Test.YthjdhfoeckfmbaaGreatX5
namespace Go.Proofs.YthjdhfoeckfmbaaGreat
open Go
set_option maxRecDepth 100000
set_option linter.unusedVariables false
set_option linter.unusedSimpArgs false
set_option linter.unusedSectionVars false
theorem obj_PutChange_c39 : callable Tryz.prog 39 = true := by kernel_rfl
theorem obj_PutChange_c40 : callable Tryz.prog 40 = true := by kernel_rfl
theorem obj_PutChange_c41 : callable Tryz.prog 41 = true := by kernel_rfl
theorem obj_PutChange_c58 : callable Tryz.prog 58 = true := by kernel_rfl
theorem obj_PutChange_c59 : callable Tryz.prog 59 = true := by kernel_rfl
set_option maxHeartbeats 2000000 in
theorem obj_PutChange (c : ChangeS) (w : World) (Sc_parents : Sl (Old w) idCh 32 c.ph c.parents w) (Sc_ops : Sl (Old w) opCh 41 c.oh c.ops w) (Dc_over : ∀ x ∈ c.ops, Sl (Old w) stampCh 2 x.oh x.over w) :
    Calls Tryz.prog 23 #[(aggOf (changeCh c))] w (Ret fun v w' => ∃ h0, v = .tuple #[slV h0 (putChangeB c), (.int .i64 (putChangeE c))] ∧ Ext w w' ∧ OwnS w.heap.size 5 1 encB h0 (putChangeB c) w') := by
 refine calls_W Tryz.func23 rfl Tryz.ntmps23 rfl ?_
 have H0 := Ctx.start w nob
 have H1 := H0.addSl _ Sc_parents (fun b hb => ⟨hb, fun _ ho => (nomatch ho)⟩)
 have LSc_parents := Sc_parents.len
 have H2 := H1.addSl _ Sc_ops (fun b hb => ⟨hb, fun _ ho => (nomatch ho)⟩)
 have LSc_ops := Sc_ops.len
 have H3 := H2.addImm' (deepI (Old w) stampCh 2 (fun x : OpS => x.oh) (fun x : OpS => x.over) c.ops) Dc_over (fun b hb => ⟨hb, fun _ ho => (nomatch ho)⟩)
 refine W_seq (W_reg ?_)
 refine O_v rfl (C_box H3 [[(slV c.ph c.parents)], [(.int .i64 c.time)], [(.int .i64 c.r)], [(slV c.oh c.ops)], (idCells c.tree), [(.string c.msg)]] rfl ?_)
 intro b4 w5 hb6 hx7 H8
 refine O_v rfl (R_assign (v := (.slice none 0 0)) rfl ?_)
 refine O_v rfl (R_assign (v := (.int .i64 0)) rfl ?_)
 refine O_nil (Then_n (W_seq (W_seq (W_reg ?_))))
 refine O_v rfl (R_loadA (cs := [[(slV c.ph c.parents)], [(.int .i64 c.time)], [(.int .i64 c.r)], [(slV c.oh c.ops)], (idCells c.tree), [(.string c.msg)]]) Tryz.isAgg47 Tryz.sizeOf47 rfl rfl ((boxR_at (H8.getOwn 0 rfl)).chunks 0 6 0 0 _ rfl rfl rfl) ?_)
 refine O_v rfl (R_callL (vs := [(aggOf (changeCh c))]) obj_PutChange_c58 rfl rfl ((obj_rightChange c w5 (H8.slOld 2 rfl) (H8.slOld 1 rfl) (H8.deepOld 0 rfl)).ret ?_))
 rintro _ w9 ⟨rfl, hx10⟩
 have H11 := H8.ext hx10
 refine O_v rfl (R_not rfl ?_)
 refine O_nil (Then_n ?_)
 refine W_cond (t := (!(changeOk c))) rfl (fun hc12 => ?_) (fun hc12 => ?_)
 ·have hc12 : (changeOk c) = false := (notT hc12)
  refine W_seq (W_reg ?_)
  refine O_v rfl (R_assign (v := (.slice none 0 0)) rfl ?_)
  refine O_v rfl (R_assign (v := (.int .i64 1)) rfl ?_)
  refine O_nil (Then_n (W_ret (Then_r ?_)))
  refine ret_2 (v := (.slice none 0 0)) (v' := (.int .i64 1)) Tryz.results23 rfl rfl ?_
  have H13 := H11.addNil 5 1 encB
  have hE : [] = putChangeB c := (putChange_f (by assumption)).1
  have hV : 1 = putChangeE c := (putChange_f (by assumption)).2
  refine ⟨nilH, ?_, H13.gr, ?_⟩
  · exact two_eq (fun l n => Value.tuple #[slV nilH l, Value.int .i64 n]) hE hV
  · have hO := H13.retRow 0 rfl
    exact hE ▸ hO
 ·have hc12 : (changeOk c) = true := (notF hc12)
  refine W_skip (Then_n (W_seq (W_reg ?_)))
  refine O_v rfl (C_buildSliceL H11 (enc := encB) (val := byteV) ([3] : List UInt8) Tryz.underlying22 Tryz.sizeOf5 Tryz.zeroValue5 rfl (by decide) (fun _ => rfl) (fun _ => rfl) rfl rfl (by decide) ?_)
  intro b14 w15 hb16 hx17 H18
  refine O_v rfl (R_fieldAddr (off := 0) (oo := 0) Tryz.underlying47 rfl rfl Tryz.sizeOf39 rfl rfl ?_)
  refine O_v rfl (R_load1 (v := (slV c.ph c.parents)) Tryz.isAgg39 rfl ((boxR_at (H18.getOwn 1 rfl)).chunks 0 1 0 0 _ rfl rfl rfl) ?_)
  refine O_v rfl (R_len_slice (a := c.ph.a) (n := c.parents.length) (c := c.ph.c) Tryz.underlying39 rfl ?_)
  refine O_v rfl (R_callL (vs := [(slV ⟨some ⟨b14, 0, none⟩, b14, 0, 1⟩ ([3] : List UInt8)), (.int .i64 ((c.parents.length : Nat) : Int))]) obj_PutChange_c39 rfl rfl ((enc_Num ⟨some ⟨b14, 0, none⟩, b14, 0, 1⟩ ([3] : List UInt8) ((c.parents.length : Nat) : Int) w15 (H18.rowSl 0 rfl (fun _ => rfl)) (by simp only [List.length_cons, List.length_nil]; omega)).ret ?_))
  rintro _ w20 ⟨h19, rfl, hx21, ho22⟩
  have H23 := H18.addRow hx21 ho22
  refine O_v rfl (R_assign (v := (slV h19 (([3] : List UInt8) ++ numB ((c.parents.length : Nat) : Int)))) rfl ?_)
  refine O_nil (Then_n (W_seq (W_seq (W_reg ?_))))
  refine O_v rfl (R_fieldAddr (off := 0) (oo := 0) Tryz.underlying47 rfl rfl Tryz.sizeOf39 rfl rfl ?_)
  refine O_v rfl (R_load1 (v := (slV c.ph c.parents)) Tryz.isAgg39 rfl ((boxR_at (H23.getOwn 2 rfl)).chunks 0 1 0 0 _ rfl rfl rfl) ?_)
  refine O_v rfl (R_len_slice (a := c.ph.a) (n := c.parents.length) (c := c.ph.c) Tryz.underlying39 rfl ?_)
  refine O_v rfl (R_move (v := (.int .i64 0)) rfl ?_)
  refine O_nil (Then_n (W_block ?_))
  refine W_loop (fun m25 e26 w27 => ∃ (k : Nat), ∃ (acc : List UInt8), ∃ (h24 : SlH), m25 = c.parents.length - k ∧ (k ≤ c.parents.length) ∧ (acc = parTo c k) ∧ (acc.length ≤ 10 + 32 * k) ∧ (changeOk c = true) ∧ ∃ eb28, e26 = envL [(1, (.pointer (some ⟨b4, 0, none⟩))), (2, (.slice none 0 0)), (3, (.int .i64 0)), (4, (slV h24 acc)), (18, (slV c.ph c.parents)), (19, (.int .i64 ((c.parents.length : Nat) : Int))), (20, (.int .i64 ((k : Nat) : Int)))] eb28 ∧ Ctx w nob w27 [rowR 5 1 encB h24 acc, rowR 5 1 encB ⟨some ⟨b14, 0, none⟩, b14, 0, 1⟩ ([3] : List UInt8), boxR b4 47 [[(slV c.ph c.parents)], [(.int .i64 c.time)], [(.int .i64 c.r)], [(slV c.oh c.ops)], (idCells c.tree), [(.string c.msg)]]] [deepI (Old w) stampCh 2 (fun x : OpS => x.oh) (fun x : OpS => x.over) c.ops, slI (Old w) opCh 41 c.oh c.ops, slI (Old w) idCh 32 c.ph c.parents]) _ ⟨0, (([3] : List UInt8) ++ numB ((c.parents.length : Nat) : Int)), h19, rfl, (by omega), (parTo_zero c), (by have h1 := numB_len ((c.parents.length : Nat) : Int); simp only [List.length_append, List.length_cons, List.length_nil]; omega), (by assumption), _, envL_self ⟨rfl, rfl, rfl, rfl, rfl, rfl, rfl, trivial⟩, H23⟩ ?_
  rintro m25 _ w27 ⟨k, acc, h24, rfl, hk, ha, hal, hC, eb28, rfl, H29⟩
  refine W_seq (W_reg ?_)
  refine O_v rfl (R_cmp (a := ((k : Nat) : Int)) (b := ((c.parents.length : Nat) : Int)) (r := (decide (((k : Nat) : Int) < ((c.parents.length : Nat) : Int)))) rfl rfl rfl ?_)
  refine O_nil (Then_n (W_seq ?_))
  refine W_cond (t := (decide (((k : Nat) : Int) < ((c.parents.length : Nat) : Int)))) rfl (fun hc30 => ?_) (fun hc30 => ?_)
  ·have hc30 : (((k : Nat) : Int) < ((c.parents.length : Nat) : Int)) := (of_decide_eq_true hc30)
   refine W_skip (Then_n (W_seq (W_block (W_seq (W_reg ?_)))))
   refine O_v rfl (R_index_pure (H29.sl 2 rfl) (n := c.parents.length) rfl (j := ((k : Nat) : Int)) (oo := (c.ph.o + k * 32)) Tryz.underlying39 Tryz.sizeOf45 rfl rfl (by omega) (by omega) rfl ?_)
   refine O_v rfl (R_loadA (cs := [(idCells (nth c.parents k))]) Tryz.isAgg45 Tryz.sizeOf45 rfl rfl ((Sl.elem (H29.sl 2 rfl) (i := k) (by omega) rfl).chunks 0 1 0 (c.ph.o + k * 32) _ rfl rfl rfl) ?_)
   refine O_v rfl (C_alloc H29 [(idCells zeroId)] Tryz.zeroValue45 ?_)
   intro b31 w32 hb33 hx34 H35
   refine O_u (C_storeA H35 0 rfl 0 (sub := [(idCells (nth c.parents k))]) [(idCells (nth c.parents k))] Tryz.sizeOf45 rfl rfl rfl rfl ⟨[(idCells zeroId)], [], rfl, rfl, rfl⟩ rfl ?_)
   intro w36 hg37 H38
   refine O_nil (Then_n (W_reg ?_))
   refine O_v rfl (R_move (v := (slV h24 acc)) rfl ?_)
   refine O_v rfl (R_loadA (cs := [(idCells (nth c.parents k))]) Tryz.isAgg45 Tryz.sizeOf45 rfl rfl ((boxR_at (H38.getOwn 0 rfl)).chunks 0 1 0 0 _ rfl rfl rfl) ?_)
   refine O_v rfl (R_callL (vs := [(slV h24 acc), (aggOf (idCh (nth c.parents k)))]) obj_PutChange_c40 rfl rfl ((enc_Id h24 acc (nth c.parents k) w36 (H38.rowSl 1 rfl (fun _ => rfl)) (by have := change_lens hC; omega)).ret ?_))
   rintro _ w40 ⟨h39, rfl, hx41, ho42⟩
   have H43 := H38.addRow hx41 ho42
   refine O_v rfl (R_assign (v := (slV h39 (acc ++ idList (nth c.parents k)))) rfl ?_)
   refine O_nil (Blk_n (Then_n (W_reg ?_)))
   refine O_v rfl (R_arith (a := ((k : Nat) : Int)) (b := 1) (r0 := ((k : Nat) : Int) + 1) (r := ((k + 1 : Nat) : Int)) rfl rfl rfl (wrapN _ (by omega)) ?_)
   refine O_v rfl (R_move (v := (.int .i64 ((k + 1 : Nat) : Int))) rfl ?_)
   refine O_nil (Then_n ?_)
   have H44 := H43.sub (B' := [rowR 5 1 encB h39 (acc ++ idList (nth c.parents k)), rowR 5 1 encB ⟨some ⟨b14, 0, none⟩, b14, 0, 1⟩ ([3] : List UInt8), boxR b4 47 [[(slV c.ph c.parents)], [(.int .i64 c.time)], [(.int .i64 c.r)], [(slV c.oh c.ops)], (idCells c.tree), [(.string c.msg)]]]) (I' := [deepI (Old w) stampCh 2 (fun x : OpS => x.oh) (fun x : OpS => x.over) c.ops, slI (Old w) opCh 41 c.oh c.ops, slI (Old w) idCh 32 c.ph c.parents]) (List.Sublist.cons_cons _ (List.Sublist.cons _ (List.Sublist.cons _ (List.Sublist.cons_cons _ (List.Sublist.cons_cons _ List.Sublist.slnil))))) (List.forall_mem_cons.2 ⟨List.mem_of_getElem? (i := 0) rfl, List.forall_mem_cons.2 ⟨List.mem_of_getElem? (i := 1) rfl, List.forall_mem_cons.2 ⟨List.mem_of_getElem? (i := 2) rfl, fun _ h => (nomatch h)⟩⟩⟩)
   refine ⟨_, ?_, (k + 1), (acc ++ idList (nth c.parents k)), h39, rfl, (by omega), (parTo_succ ha (by omega)), (by simp only [List.length_append, idList_len]; omega), hC, _, envL_self ⟨rfl, rfl, rfl, rfl, rfl, rfl, rfl, trivial⟩, H44⟩
   omega
  ·have hc30 : ¬ (((k : Nat) : Int) < ((c.parents.length : Nat) : Int)) := (of_decide_eq_false hc30)
   refine W_exit (Then_x (Then_x (Blk_x (Then_n (W_seq ?_)))))
   refine W_rgd TryzMixed [(0, .q 0), (1, .q 0), (2, .q 0), (4, .q 0), (5, .q 0), (7, .q 0), (8, .q 0), (9, .q 0), (3, .c 0), (6, .c 0), (10, .c 0), (11, .q 0)] (by kernel_rfl) ?_
   refine Lx_q (i := 0) rfl rfl _ (fun v45 hv46 => R_move (v := (slV h24 acc)) rfl ⟨rfl, Gr.refl _ _⟩) ?_
   refine Lx_q (i := 1) rfl rfl _ (fun v47 hv48 => R_fieldAddr (off := 1) (oo := 1) Tryz.underlying47 rfl rfl Tryz.sizeOf2 rfl rfl ⟨rfl, Gr.refl _ _⟩) ?_
   refine Lx_q (i := 2) rfl rfl _ (fun v49 hv50 => R_load1 (v := (.int .i64 c.time)) Tryz.isAgg2 rfl ((boxR_at ((H29.ext hv50).getOwn 2 rfl)).chunks 1 1 1 1 _ rfl rfl rfl) ⟨rfl, Gr.refl _ _⟩) ?_
   refine Lx_q (i := 4) rfl rfl _ (fun v51 hv52 => R_fieldAddr (off := 2) (oo := 2) Tryz.underlying47 rfl rfl Tryz.sizeOf3 rfl rfl ⟨rfl, Gr.refl _ _⟩) ?_
   refine Lx_q (i := 5) rfl rfl _ (fun v53 hv54 => R_load1 (v := (.int .i64 c.r)) Tryz.isAgg3 rfl ((boxR_at ((H29.ext hv54).getOwn 2 rfl)).chunks 2 1 2 2 _ rfl rfl rfl) ⟨rfl, Gr.refl _ _⟩) ?_
   refine Lx_q (i := 7) rfl rfl _ (fun v55 hv56 => R_fieldAddr (off := 3) (oo := 3) Tryz.underlying47 rfl rfl Tryz.sizeOf43 rfl rfl ⟨rfl, Gr.refl _ _⟩) ?_
   refine Lx_q (i := 8) rfl rfl _ (fun v57 hv58 => R_load1 (v := (slV c.oh c.ops)) Tryz.isAgg43 rfl ((boxR_at ((H29.ext hv58).getOwn 2 rfl)).chunks 3 1 3 3 _ rfl rfl rfl) ⟨rfl, Gr.refl _ _⟩) ?_
   refine Lx_q (i := 9) rfl rfl _ (fun v59 hv60 => R_len_slice (a := c.oh.a) (n := c.ops.length) (c := c.oh.c) Tryz.underlying43 rfl ⟨rfl, Gr.refl _ _⟩) ?_
   refine Lx_c (i := 3) rfl rfl (fun w61 hw62 => ?_)
   have H63 := H29.ext hw62
   refine (R_callL (vs := [(slV h24 acc), (.int .i64 c.time)]) obj_PutChange_c39 rfl rfl ((enc_Num h24 acc c.time w61 (H63.rowSl 0 rfl (fun _ => rfl)) (by have h1 := numB_len ((c.parents.length : Nat) : Int); have h2 := numB_len c.time; have h3 := numB_len c.r; have h4 := numB_len ((c.ops.length : Nat) : Int); have h5 := change_lens hC; (try simp only [List.length_append, List.length_cons, List.length_nil, idList_len]); omega)).ret ?_))
   rintro _ w65 ⟨h64, rfl, hx66, ho67⟩
   have H68 := H63.addRow hx66 ho67
   refine ⟨GrF.ofExt hx66, ?_⟩
   refine Lx_c (i := 6) rfl rfl (fun w69 hw70 => ?_)
   have H71 := H68.ext hw70
   refine (R_callL (vs := [(slV h64 (acc ++ numB c.time)), (.int .i64 c.r)]) obj_PutChange_c39 rfl rfl ((enc_Num h64 (acc ++ numB c.time) c.r w69 (H71.rowSl 0 rfl (fun _ => rfl)) (by have h1 := numB_len ((c.parents.length : Nat) : Int); have h2 := numB_len c.time; have h3 := numB_len c.r; have h4 := numB_len ((c.ops.length : Nat) : Int); have h5 := change_lens hC; (try simp only [List.length_append, List.length_cons, List.length_nil, idList_len]); omega)).ret ?_))
   rintro _ w73 ⟨h72, rfl, hx74, ho75⟩
   have H76 := H71.addRow hx74 ho75
   refine ⟨GrF.ofExt hx74, ?_⟩
   refine Lx_c (i := 10) rfl rfl (fun w77 hw78 => ?_)
   have H79 := H76.ext hw78
   refine (R_callL (vs := [(slV h72 ((acc ++ numB c.time) ++ numB c.r)), (.int .i64 ((c.ops.length : Nat) : Int))]) obj_PutChange_c39 rfl rfl ((enc_Num h72 ((acc ++ numB c.time) ++ numB c.r) ((c.ops.length : Nat) : Int) w77 (H79.rowSl 0 rfl (fun _ => rfl)) (by have h1 := numB_len ((c.parents.length : Nat) : Int); have h2 := numB_len c.time; have h3 := numB_len c.r; have h4 := numB_len ((c.ops.length : Nat) : Int); have h5 := change_lens hC; (try simp only [List.length_append, List.length_cons, List.length_nil, idList_len]); omega)).ret ?_))
   rintro _ w81 ⟨h80, rfl, hx82, ho83⟩
   have H84 := H79.addRow hx82 ho83
   refine ⟨GrF.ofExt hx82, ?_⟩
   refine Lx_q (i := 11) rfl rfl _ (fun v85 hv86 => R_assign (v := (slV h80 (((acc ++ numB c.time) ++ numB c.r) ++ numB ((c.ops.length : Nat) : Int)))) rfl ⟨rfl, Gr.refl _ _⟩) ?_
   refine Lx_nil (fun w87 hw88 => ?_)
   have H89 := H84.ext hw88
   refine Then_n (W_seq (W_seq (W_reg ?_)))
   refine O_v rfl (R_fieldAddr (off := 3) (oo := 3) Tryz.underlying47 rfl rfl Tryz.sizeOf43 rfl rfl ?_)
   refine O_v rfl (R_load1 (v := (slV c.oh c.ops)) Tryz.isAgg43 rfl ((boxR_at (H89.getOwn 5 rfl)).chunks 3 1 3 3 _ rfl rfl rfl) ?_)
   refine O_v rfl (R_len_slice (a := c.oh.a) (n := c.ops.length) (c := c.oh.c) Tryz.underlying43 rfl ?_)
   refine O_v rfl (R_move (v := (.int .i64 0)) rfl ?_)
   refine O_nil (Then_n (W_block ?_))
   refine W_loop (fun m91 e92 w93 => ∃ (j : Nat), ∃ (acc2 : List UInt8), ∃ (h90 : SlH), m91 = c.ops.length - j ∧ (j ≤ c.ops.length) ∧ (acc2 = opsTo c j) ∧ (acc2.length ≤ 200 + 1400 * j) ∧ ∃ eb94, e92 = envL [(1, (.pointer (some ⟨b4, 0, none⟩))), (2, (.slice none 0 0)), (3, (.int .i64 0)), (4, (slV h90 acc2)), (40, (slV c.oh c.ops)), (41, (.int .i64 ((c.ops.length : Nat) : Int))), (42, (.int .i64 ((j : Nat) : Int)))] eb94 ∧ Ctx w nob w93 [rowR 5 1 encB h90 acc2, rowR 5 1 encB h72 ((acc ++ numB c.time) ++ numB c.r), rowR 5 1 encB h64 (acc ++ numB c.time), rowR 5 1 encB h24 acc, rowR 5 1 encB ⟨some ⟨b14, 0, none⟩, b14, 0, 1⟩ ([3] : List UInt8), boxR b4 47 [[(slV c.ph c.parents)], [(.int .i64 c.time)], [(.int .i64 c.r)], [(slV c.oh c.ops)], (idCells c.tree), [(.string c.msg)]]] [deepI (Old w) stampCh 2 (fun x : OpS => x.oh) (fun x : OpS => x.over) c.ops, slI (Old w) opCh 41 c.oh c.ops, slI (Old w) idCh 32 c.ph c.parents]) _ ⟨0, (((acc ++ numB c.time) ++ numB c.r) ++ numB ((c.ops.length : Nat) : Int)), h80, rfl, (by omega), (opsTo_zero ha (by omega)), (by have h1 := numB_len ((c.parents.length : Nat) : Int); have h2 := numB_len c.time; have h3 := numB_len c.r; have h4 := numB_len ((c.ops.length : Nat) : Int); have h5 := change_lens hC; (try simp only [List.length_append, List.length_cons, List.length_nil, idList_len]); omega), _, envL_self ⟨rfl, rfl, rfl, rfl, rfl, rfl, rfl, trivial⟩, H89⟩ ?_
   rintro m91 _ w93 ⟨j, acc2, h90, rfl, hj, ha2, hal2, eb94, rfl, H95⟩
   refine W_seq (W_reg ?_)
   refine O_v rfl (R_cmp (a := ((j : Nat) : Int)) (b := ((c.ops.length : Nat) : Int)) (r := (decide (((j : Nat) : Int) < ((c.ops.length : Nat) : Int)))) rfl rfl rfl ?_)
   refine O_nil (Then_n (W_seq ?_))
   refine W_cond (t := (decide (((j : Nat) : Int) < ((c.ops.length : Nat) : Int)))) rfl (fun hc96 => ?_) (fun hc96 => ?_)
   ·have hc96 : (((j : Nat) : Int) < ((c.ops.length : Nat) : Int)) := (of_decide_eq_true hc96)
    refine W_skip (Then_n (W_seq (W_block (W_seq (W_reg ?_)))))
    refine O_v rfl (R_index_pure (H95.sl 1 rfl) (n := c.ops.length) rfl (j := ((j : Nat) : Int)) (oo := (c.oh.o + j * 41)) Tryz.underlying43 Tryz.sizeOf72 rfl rfl (by omega) (by omega) rfl ?_)
    refine O_v rfl (R_loadA (cs := [[(.int .i64 ((nth c.ops j).kind))], [(.int .i64 (((nth c.ops j).tm).T))], [(.int .i64 (((nth c.ops j).tm).R))], [(.int .i64 (((nth c.ops j).node).T))], [(.int .i64 (((nth c.ops j).node).R))], [(.int .i64 (((nth c.ops j).par).T))], [(.int .i64 (((nth c.ops j).par).R))], [(.string ((nth c.ops j).name))], (idCells ((nth c.ops j).data)), [(slV ((nth c.ops j).oh) ((nth c.ops j).over))]]) Tryz.isAgg72 Tryz.sizeOf72 rfl rfl ((Sl.elem (H95.sl 1 rfl) (i := j) (by omega) rfl).chunks 0 10 0 (c.oh.o + j * 41) _ rfl rfl rfl) ?_)
    refine O_v rfl (C_alloc H95 [[(.int .i64 0)], [(.int .i64 0)], [(.int .i64 0)], [(.int .i64 0)], [(.int .i64 0)], [(.int .i64 0)], [(.int .i64 0)], [(.string ByteArray.empty)], (idCells zeroId), [(.slice none 0 0)]] Tryz.zeroValue72 ?_)
    intro b97 w98 hb99 hx100 H101
    refine O_u (C_storeA H101 0 rfl 0 (sub := [[(.int .i64 ((nth c.ops j).kind))], [(.int .i64 (((nth c.ops j).tm).T))], [(.int .i64 (((nth c.ops j).tm).R))], [(.int .i64 (((nth c.ops j).node).T))], [(.int .i64 (((nth c.ops j).node).R))], [(.int .i64 (((nth c.ops j).par).T))], [(.int .i64 (((nth c.ops j).par).R))], [(.string ((nth c.ops j).name))], (idCells ((nth c.ops j).data)), [(slV ((nth c.ops j).oh) ((nth c.ops j).over))]]) [[(.int .i64 ((nth c.ops j).kind))], [(.int .i64 (((nth c.ops j).tm).T))], [(.int .i64 (((nth c.ops j).tm).R))], [(.int .i64 (((nth c.ops j).node).T))], [(.int .i64 (((nth c.ops j).node).R))], [(.int .i64 (((nth c.ops j).par).T))], [(.int .i64 (((nth c.ops j).par).R))], [(.string ((nth c.ops j).name))], (idCells ((nth c.ops j).data)), [(slV ((nth c.ops j).oh) ((nth c.ops j).over))]] Tryz.sizeOf72 rfl rfl rfl rfl ⟨[[(.int .i64 0)], [(.int .i64 0)], [(.int .i64 0)], [(.int .i64 0)], [(.int .i64 0)], [(.int .i64 0)], [(.int .i64 0)], [(.string ByteArray.empty)], (idCells zeroId), [(.slice none 0 0)]], [], rfl, rfl, rfl⟩ rfl ?_)
    intro w102 hg103 H104
    refine O_nil (Then_n (W_reg ?_))
    refine O_v rfl (R_move (v := (slV h90 acc2)) rfl ?_)
    refine O_v rfl (R_loadA (cs := [[(.int .i64 ((nth c.ops j).kind))], [(.int .i64 (((nth c.ops j).tm).T))], [(.int .i64 (((nth c.ops j).tm).R))], [(.int .i64 (((nth c.ops j).node).T))], [(.int .i64 (((nth c.ops j).node).R))], [(.int .i64 (((nth c.ops j).par).T))], [(.int .i64 (((nth c.ops j).par).R))], [(.string ((nth c.ops j).name))], (idCells ((nth c.ops j).data)), [(slV ((nth c.ops j).oh) ((nth c.ops j).over))]]) Tryz.isAgg72 Tryz.sizeOf72 rfl rfl ((boxR_at (H104.getOwn 0 rfl)).chunks 0 10 0 0 _ rfl rfl rfl) ?_)
    refine O_v rfl (R_callL (vs := [(slV h90 acc2), (aggOf (opCh (nth c.ops j)))]) obj_PutChange_c59 rfl rfl ((stamp_Put h90 acc2 (nth c.ops j) w102 (H104.rowSl 1 rfl (fun _ => rfl)) (H104.deepOld 0 rfl _ (nth_mem (by omega))) (by have := change_lens hC; omega)).ret ?_))
    rintro _ w106 ⟨h105, rfl, hx107, ho108⟩
    have H109 := H104.addRow hx107 ho108
    refine O_v rfl (R_assign (v := (slV h105 (acc2 ++ putOpB (nth c.ops j)))) rfl ?_)
    refine O_nil (Blk_n (Then_n (W_reg ?_)))
    refine O_v rfl (R_arith (a := ((j : Nat) : Int)) (b := 1) (r0 := ((j : Nat) : Int) + 1) (r := ((j + 1 : Nat) : Int)) rfl rfl rfl (wrapN _ (by omega)) ?_)
    refine O_v rfl (R_move (v := (.int .i64 ((j + 1 : Nat) : Int))) rfl ?_)
    refine O_nil (Then_n ?_)
    have H110 := H109.sub (B' := [rowR 5 1 encB h105 (acc2 ++ putOpB (nth c.ops j)), rowR 5 1 encB h72 ((acc ++ numB c.time) ++ numB c.r), rowR 5 1 encB h64 (acc ++ numB c.time), rowR 5 1 encB h24 acc, rowR 5 1 encB ⟨some ⟨b14, 0, none⟩, b14, 0, 1⟩ ([3] : List UInt8), boxR b4 47 [[(slV c.ph c.parents)], [(.int .i64 c.time)], [(.int .i64 c.r)], [(slV c.oh c.ops)], (idCells c.tree), [(.string c.msg)]]]) (I' := [deepI (Old w) stampCh 2 (fun x : OpS => x.oh) (fun x : OpS => x.over) c.ops, slI (Old w) opCh 41 c.oh c.ops, slI (Old w) idCh 32 c.ph c.parents]) (List.Sublist.cons_cons _ (List.Sublist.cons _ (List.Sublist.cons _ (List.Sublist.cons_cons _ (List.Sublist.cons_cons _ (List.Sublist.cons_cons _ (List.Sublist.cons_cons _ (List.Sublist.cons_cons _ List.Sublist.slnil)))))))) (List.forall_mem_cons.2 ⟨List.mem_of_getElem? (i := 0) rfl, List.forall_mem_cons.2 ⟨List.mem_of_getElem? (i := 1) rfl, List.forall_mem_cons.2 ⟨List.mem_of_getElem? (i := 2) rfl, fun _ h => (nomatch h)⟩⟩⟩)
    refine ⟨_, ?_, (j + 1), (acc2 ++ putOpB (nth c.ops j)), h105, rfl, (by omega), (opsTo_succ ha2 (by omega)), (by have := putOpB_len (nth c.ops j); simp only [List.length_append]; omega), _, envL_self ⟨rfl, rfl, rfl, rfl, rfl, rfl, rfl, trivial⟩, H110⟩
    omega
   ·have hc96 : ¬ (((j : Nat) : Int) < ((c.ops.length : Nat) : Int)) := (of_decide_eq_false hc96)
    refine W_exit (Then_x (Then_x (Blk_x (Then_n (W_seq ?_)))))
    refine W_rgd TryzMixed [(0, .q 0), (1, .q 0), (2, .q 0), (4, .q 0), (5, .q 0), (3, .c 0), (6, .c 0), (7, .q 0), (8, .q 0)] (by kernel_rfl) ?_
    refine Lx_q (i := 0) rfl rfl _ (fun v111 hv112 => R_move (v := (slV h90 acc2)) rfl ⟨rfl, Gr.refl _ _⟩) ?_
    refine Lx_q (i := 1) rfl rfl _ (fun v113 hv114 => R_fieldAddr (off := 4) (oo := 4) Tryz.underlying47 rfl rfl Tryz.sizeOf45 rfl rfl ⟨rfl, Gr.refl _ _⟩) ?_
    refine Lx_q (i := 2) rfl rfl _ (fun v115 hv116 => R_loadA (cs := [(idCells c.tree)]) Tryz.isAgg45 Tryz.sizeOf45 rfl rfl ((boxR_at ((H95.ext hv116).getOwn 5 rfl)).chunks 4 1 4 4 _ rfl rfl rfl) ⟨rfl, Gr.refl _ _⟩) ?_
    refine Lx_q (i := 4) rfl rfl _ (fun v117 hv118 => R_fieldAddr (off := 36) (oo := 36) Tryz.underlying47 rfl rfl Tryz.sizeOf9 rfl rfl ⟨rfl, Gr.refl _ _⟩) ?_
    refine Lx_q (i := 5) rfl rfl _ (fun v119 hv120 => R_load1 (v := (.string c.msg)) Tryz.isAgg9 rfl ((boxR_at ((H95.ext hv120).getOwn 5 rfl)).chunks 5 1 36 36 _ rfl rfl rfl) ⟨rfl, Gr.refl _ _⟩) ?_
    refine Lx_c (i := 3) rfl rfl (fun w121 hw122 => ?_)
    have H123 := H95.ext hw122
    refine (R_callL (vs := [(slV h90 acc2), (aggOf (idCh c.tree))]) obj_PutChange_c40 rfl rfl ((enc_Id h90 acc2 c.tree w121 (H123.rowSl 0 rfl (fun _ => rfl)) (by have := change_lens hC; omega)).ret ?_))
    rintro _ w125 ⟨h124, rfl, hx126, ho127⟩
    have H128 := H123.addRow hx126 ho127
    refine ⟨GrF.ofExt hx126, ?_⟩
    refine Lx_c (i := 6) rfl rfl (fun w129 hw130 => ?_)
    have H131 := H128.ext hw130
    refine (R_callL (vs := [(slV h124 (acc2 ++ idList c.tree)), (.string c.msg)]) obj_PutChange_c41 rfl rfl ((enc_Text h124 (acc2 ++ idList c.tree) c.msg w129 (H131.rowSl 0 rfl (fun _ => rfl)) (by have := change_lens hC; simp only [List.length_append, idList_len]; omega)).ret ?_))
    rintro _ w133 ⟨h132, rfl, hx134, ho135⟩
    have H136 := H131.addRow hx134 ho135
    refine ⟨GrF.ofExt hx134, ?_⟩
    refine Lx_q (i := 7) rfl rfl _ (fun v137 hv138 => R_assign (v := (slV h132 ((acc2 ++ idList c.tree) ++ textB c.msg))) rfl ⟨rfl, Gr.refl _ _⟩) ?_
    refine Lx_q (i := 8) rfl rfl _ (fun v139 hv140 => R_assign (v := (.int .i64 0)) rfl ⟨rfl, Gr.refl _ _⟩) ?_
    refine Lx_nil (fun w141 hw142 => ?_)
    have H143 := H136.ext hw142
    refine Then_n (W_ret ?_)
    refine ret_2 (v := (slV h132 ((acc2 ++ idList c.tree) ++ textB c.msg))) (v' := (.int .i64 0)) Tryz.results23 rfl rfl ?_
    have hE : (acc2 ++ idList c.tree) ++ textB c.msg = putChangeB c := (putChange_t hC ha2 (by omega)).1
    have hV : 0 = putChangeE c := (putChange_t hC ha2 (by omega)).2
    refine ⟨h132, ?_, H143.gr, ?_⟩
    · exact two_eq (fun l n => Value.tuple #[slV h132 l, Value.int .i64 n]) hE hV
    · have hO := H143.retRow 0 rfl
      exact hE ▸ hO

end Go.Proofs.YthjdhfoeckfmbaaGreat
namespace Go.Proofs.YthjdhfoeckfmbaaGreat
open Go
set_option maxRecDepth 100000
set_option linter.unusedVariables false
set_option linter.unusedSimpArgs false
set_option linter.unusedSectionVars false
variable [DD]
theorem obj_at_c39 : callable Tryz.prog 39 = true := by kernel_rfl
set_option maxHeartbeats 1000000 in
theorem obj_at (hb : SlH) (b : List UInt8) (s : Stamp) (w : World) (Sb : Sl (Old w) encB 1 hb b w) (hl : b.length ≤ 35184372088832) :
    Calls Tryz.prog 42 #[(slV hb b), (aggOf (stampCh s))] w (Ret fun v w' => ∃ h, v = slV h (b ++ atB s) ∧ Ext w w' ∧ OwnS w.heap.size 5 1 encB h (b ++ atB s) w') := by
 refine calls_W Tryz.func42 rfl Tryz.ntmps42 rfl ?_
 have H0 := Ctx.start w nob
 have H1 := H0.addSl _ Sb (fun b hb => ⟨hb, fun _ ho => (nomatch ho)⟩)
 have LSb := Sb.len
 refine W_seq (W_reg ?_)
 refine O_v rfl (C_box H1 [[(.int .i64 s.T)], [(.int .i64 s.R)]] rfl ?_)
 intro b2 w3 hb4 hx5 H6
 refine O_v rfl (R_assign (v := (.slice none 0 0)) rfl ?_)
 refine O_nil (Then_n (W_seq ?_))
 refine W_rgd TryzMixed [(0, .q 0), (1, .q 0), (2, .q 0), (4, .q 0), (5, .q 0), (3, .c 0), (6, .c 0), (7, .q 0)] (by kernel_rfl) ?_
 refine Lx_q (i := 0) rfl rfl _ (fun v7 hv8 => R_move (v := (slV hb b)) rfl ⟨rfl, Gr.refl _ _⟩) ?_
 refine Lx_q (i := 1) rfl rfl _ (fun v9 hv10 => R_fieldAddr (off := 0) (oo := 0) Tryz.underlying69 rfl rfl Tryz.sizeOf2 rfl rfl ⟨rfl, Gr.refl _ _⟩) ?_
 refine Lx_q (i := 2) rfl rfl _ (fun v11 hv12 => R_load1 (v := (.int .i64 s.T)) Tryz.isAgg2 rfl ((boxR_at ((H6.ext hv12).getOwn 0 rfl)).chunks 0 1 0 0 _ rfl rfl rfl) ⟨rfl, Gr.refl _ _⟩) ?_
 refine Lx_q (i := 4) rfl rfl _ (fun v13 hv14 => R_fieldAddr (off := 1) (oo := 1) Tryz.underlying69 rfl rfl Tryz.sizeOf3 rfl rfl ⟨rfl, Gr.refl _ _⟩) ?_
 refine Lx_q (i := 5) rfl rfl _ (fun v15 hv16 => R_load1 (v := (.int .i64 s.R)) Tryz.isAgg3 rfl ((boxR_at ((H6.ext hv16).getOwn 0 rfl)).chunks 1 1 1 1 _ rfl rfl rfl) ⟨rfl, Gr.refl _ _⟩) ?_
 refine Lx_c (i := 3) rfl rfl (fun w17 hw18 => ?_)
 have H19 := H6.ext hw18
 refine (R_callL (vs := [(slV hb b), (.int .i64 s.T)]) obj_at_c39 rfl rfl ((enc_Num hb b s.T w17 (H19.slOld 0 rfl) (by omega)).ret ?_))
 rintro _ w21 ⟨h20, rfl, hx22, ho23⟩
 have H24 := H19.addRow hx22 ho23
 refine ⟨GrF.ofExt hx22, ?_⟩
 refine Lx_c (i := 6) rfl rfl (fun w25 hw26 => ?_)
 have H27 := H24.ext hw26
 refine (R_callL (vs := [(slV h20 (b ++ numB s.T)), (.int .i64 s.R)]) obj_at_c39 rfl rfl ((enc_Num h20 (b ++ numB s.T) s.R w25 (H27.rowSl 0 rfl (fun _ => rfl)) (by have := numB_len s.T; simp only [List.length_append]; omega)).ret ?_))
 rintro _ w29 ⟨h28, rfl, hx30, ho31⟩
 have H32 := H27.addRow hx30 ho31
 refine ⟨GrF.ofExt hx30, ?_⟩
 refine Lx_q (i := 7) rfl rfl _ (fun v33 hv34 => R_assign (v := (slV h28 ((b ++ numB s.T) ++ numB s.R))) rfl ⟨rfl, Gr.refl _ _⟩) ?_
 refine Lx_nil (fun w35 hw36 => ?_)
 have H37 := H32.ext hw36
 refine Then_n (W_ret ?_)
 refine ret_1 (v := (slV h28 ((b ++ numB s.T) ++ numB s.R))) Tryz.results42 rfl ?_
 have hE : (b ++ numB s.T) ++ numB s.R = b ++ atB s := (List.append_assoc _ _ _)
 refine ⟨h28, ?_, H37.gr, ?_⟩
 · exact congrArg (fun l => slV h28 l) hE
 · have hO := H37.retRow 0 rfl
   exact hE ▸ hO

end Go.Proofs.YthjdhfoeckfmbaaGreat
namespace Go.Proofs.YthjdhfoeckfmbaaGreat
open Go
set_option maxRecDepth 100000
set_option linter.unusedVariables false
set_option linter.unusedSimpArgs false
set_option linter.unusedSectionVars false
theorem obj_PutDir_c38 : callable Tryz.prog 38 = true := by kernel_rfl
theorem obj_PutDir_c39 : callable Tryz.prog 39 = true := by kernel_rfl
theorem obj_PutDir_c40 : callable Tryz.prog 40 = true := by kernel_rfl
theorem obj_PutDir_c41 : callable Tryz.prog 41 = true := by kernel_rfl
theorem obj_PutDir_c42 : callable Tryz.prog 42 = true := by kernel_rfl
set_option maxHeartbeats 2000000 in
theorem obj_PutDir (hitems : SlH) (items : List ItemS) (w : World) (Sitems : Sl (Old w) itemCh 38 hitems items w) (Ditems_heads : ∀ x ∈ items, Sl (Old w) headCh 34 x.hh x.heads w) :
    Calls Tryz.prog 15 #[(slV hitems items)] w (Ret fun v w' => ∃ h0, v = .tuple #[slV h0 (putDirB items), (.int .i64 (putDirE items))] ∧ Ext w w' ∧ OwnS w.heap.size 5 1 encB h0 (putDirB items) w') := by
 refine calls_W Tryz.func15 rfl Tryz.ntmps15 rfl ?_
 have H0 := Ctx.start w nob
 have H1 := H0.addSl _ Sitems (fun b hb => ⟨hb, fun _ ho => (nomatch ho)⟩)
 have LSitems := Sitems.len
 have H2 := H1.addImm' (deepI (Old w) headCh 34 (fun x : ItemS => x.hh) (fun x : ItemS => x.heads) items) Ditems_heads (fun b hb => ⟨hb, fun _ ho => (nomatch ho)⟩)
 refine W_seq (W_reg ?_)
 refine O_v rfl (R_assign (v := (.slice none 0 0)) rfl ?_)
 refine O_v rfl (R_assign (v := (.int .i64 0)) rfl ?_)
 refine O_nil (Then_n (W_seq (W_seq (W_reg ?_))))
 refine O_v rfl (R_move (v := (slV hitems items)) rfl ?_)
 refine O_v rfl (R_callL (vs := [(slV hitems items)]) obj_PutDir_c38 rfl rfl ((obj_rightDir hitems items w (H2.slOld 1 rfl) (H2.deepOld 0 rfl)).ret ?_))
 rintro _ w3 ⟨rfl, hx4⟩
 have H5 := H2.ext hx4
 refine O_v rfl (R_not rfl ?_)
 refine O_nil (Then_n ?_)
 refine W_cond (t := (!(dirOk items))) rfl (fun hc6 => ?_) (fun hc6 => ?_)
 ·have hc6 : (dirOk items) = false := (notT hc6)
  refine W_seq (W_reg ?_)
  refine O_v rfl (R_assign (v := (.slice none 0 0)) rfl ?_)
  refine O_v rfl (R_assign (v := (.int .i64 1)) rfl ?_)
  refine O_nil (Then_n (W_ret (Then_r ?_)))
  refine ret_2 (v := (.slice none 0 0)) (v' := (.int .i64 1)) Tryz.results15 rfl rfl ?_
  have H7 := H5.addNil 5 1 encB
  have hE : [] = putDirB items := (putDir_no (by assumption)).1
  have hV : 1 = putDirE items := (putDir_no (by assumption)).2
  refine ⟨nilH, ?_, H7.gr, ?_⟩
  · exact two_eq (fun l n => Value.tuple #[slV nilH l, Value.int .i64 n]) hE hV
  · have hO := H7.retRow 0 rfl
    exact hE ▸ hO
 ·have hc6 : (dirOk items) = true := (notF hc6)
  refine W_skip (Then_n (W_seq (W_reg ?_)))
  refine O_v rfl (C_buildSliceL H5 (enc := encB) (val := byteV) ([2] : List UInt8) Tryz.underlying22 Tryz.sizeOf5 Tryz.zeroValue5 rfl (by decide) (fun _ => rfl) (fun _ => rfl) rfl rfl (by decide) ?_)
  intro b8 w9 hb10 hx11 H12
  refine O_v rfl (R_move (v := (slV hitems items)) rfl ?_)
  refine O_v rfl (R_len_slice (a := hitems.a) (n := items.length) (c := hitems.c) Tryz.underlying31 rfl ?_)
  refine O_v rfl (R_callL (vs := [(slV ⟨some ⟨b8, 0, none⟩, b8, 0, 1⟩ ([2] : List UInt8)), (.int .i64 ((items.length : Nat) : Int))]) obj_PutDir_c39 rfl rfl ((enc_Num ⟨some ⟨b8, 0, none⟩, b8, 0, 1⟩ ([2] : List UInt8) ((items.length : Nat) : Int) w9 (H12.rowSl 0 rfl (fun _ => rfl)) (by decide)).ret ?_))
  rintro _ w14 ⟨h13, rfl, hx15, ho16⟩
  have H17 := H12.addRow hx15 ho16
  refine O_v rfl (R_assign (v := (slV h13 (([2] : List UInt8) ++ numB ((items.length : Nat) : Int)))) rfl ?_)
  refine O_nil (Then_n (W_seq (W_seq (W_reg ?_))))
  refine O_v rfl (R_move (v := (slV hitems items)) rfl ?_)
  refine O_v rfl (R_len_slice (a := hitems.a) (n := items.length) (c := hitems.c) Tryz.underlying31 rfl ?_)
  refine O_v rfl (R_move (v := (.int .i64 0)) rfl ?_)
  refine O_nil (Then_n (W_block ?_))
  refine W_loop (fun m19 e20 w21 => ∃ (k : Nat), ∃ (acc : List UInt8), ∃ (h18 : SlH), m19 = items.length - k ∧ (k ≤ items.length) ∧ (acc = dirTo items k) ∧ (acc.length ≤ 10 + k * 51000) ∧ (dirOk items = true) ∧ ∃ eb22, e20 = envL [(2, (.slice none 0 0)), (3, (.int .i64 0)), (4, (slV h18 acc)), (16, (slV hitems items)), (17, (.int .i64 ((items.length : Nat) : Int))), (18, (.int .i64 ((k : Nat) : Int)))] eb22 ∧ Ctx w nob w21 [rowR 5 1 encB h18 acc, rowR 5 1 encB ⟨some ⟨b8, 0, none⟩, b8, 0, 1⟩ ([2] : List UInt8)] [deepI (Old w) headCh 34 (fun x : ItemS => x.hh) (fun x : ItemS => x.heads) items, slI (Old w) itemCh 38 hitems items]) _ ⟨0, (([2] : List UInt8) ++ numB ((items.length : Nat) : Int)), h13, rfl, (by omega), (dirTo_zero items), (by have := numB_len (items.length : Nat); simp only [List.length_append, List.length_cons, List.length_nil]; omega), (by assumption), _, envL_self ⟨rfl, rfl, rfl, rfl, rfl, rfl, trivial⟩, H17⟩ ?_
  rintro m19 _ w21 ⟨k, acc, h18, rfl, hk, ha, hal, hD, eb22, rfl, H23⟩
  refine W_seq (W_reg ?_)
  refine O_v rfl (R_cmp (a := ((k : Nat) : Int)) (b := ((items.length : Nat) : Int)) (r := (decide (((k : Nat) : Int) < ((items.length : Nat) : Int)))) rfl rfl rfl ?_)
  refine O_nil (Then_n (W_seq ?_))
  refine W_cond (t := (decide (((k : Nat) : Int) < ((items.length : Nat) : Int)))) rfl (fun hc24 => ?_) (fun hc24 => ?_)
  ·have hc24 : (((k : Nat) : Int) < ((items.length : Nat) : Int)) := (of_decide_eq_true hc24)
   refine W_skip (Then_n (W_seq (W_block (W_seq (W_reg ?_)))))
   refine O_v rfl (R_index_pure (H23.sl 1 rfl) (n := items.length) rfl (j := ((k : Nat) : Int)) (oo := (hitems.o + k * 38)) Tryz.underlying31 Tryz.sizeOf77 rfl rfl (by omega) (by omega) rfl ?_)
   refine O_v rfl (R_loadA (cs := [[(.int .i64 (((nth items k).node).T))], [(.int .i64 (((nth items k).node).R))], [(.int .i64 (((nth items k).tm).T))], [(.int .i64 (((nth items k).tm).R))], [(.string ((nth items k).name))], (idCells ((nth items k).sub)), [(slV ((nth items k).hh) ((nth items k).heads))]]) Tryz.isAgg77 Tryz.sizeOf77 rfl rfl ((Sl.elem (H23.sl 1 rfl) (i := k) (by omega) rfl).chunks 0 7 0 (hitems.o + k * 38) _ rfl rfl rfl) ?_)
   refine O_v rfl (C_alloc H23 [[(.int .i64 0)], [(.int .i64 0)], [(.int .i64 0)], [(.int .i64 0)], [(.string ByteArray.empty)], (idCells zeroId), [(.slice none 0 0)]] Tryz.zeroValue77 ?_)
   intro b25 w26 hb27 hx28 H29
   refine O_u (C_storeA H29 0 rfl 0 (sub := [[(.int .i64 (((nth items k).node).T))], [(.int .i64 (((nth items k).node).R))], [(.int .i64 (((nth items k).tm).T))], [(.int .i64 (((nth items k).tm).R))], [(.string ((nth items k).name))], (idCells ((nth items k).sub)), [(slV ((nth items k).hh) ((nth items k).heads))]]) [[(.int .i64 (((nth items k).node).T))], [(.int .i64 (((nth items k).node).R))], [(.int .i64 (((nth items k).tm).T))], [(.int .i64 (((nth items k).tm).R))], [(.string ((nth items k).name))], (idCells ((nth items k).sub)), [(slV ((nth items k).hh) ((nth items k).heads))]] Tryz.sizeOf77 rfl rfl rfl rfl ⟨[[(.int .i64 0)], [(.int .i64 0)], [(.int .i64 0)], [(.int .i64 0)], [(.string ByteArray.empty)], (idCells zeroId), [(.slice none 0 0)]], [], rfl, rfl, rfl⟩ rfl ?_)
   intro w30 hg31 H32
   refine O_nil (Then_n (W_seq ?_))
   refine W_rgdM TryzMixed nob (fun i => if i == 17 then 2 else 0) [(0, .q 2), (1, .q 2), (2, .q 0), (4, .q 2), (5, .q 0), (7, .q 2), (8, .q 0), (10, .q 2), (11, .q 0), (13, .q 2), (14, .q 0), (15, .q 2), (3, .c 0), (6, .c 0), (9, .c 0), (12, .c 0), (16, .c 0), (17, .c 2), (18, .q 2)] (by kernel_rfl) ?_
   refine Lx_q (i := 0) rfl rfl _ (fun v33 hv34 => R_move (v := (slV h18 acc)) rfl ⟨rfl, Gr.refl _ _⟩) ?_
   refine Lx_q (i := 1) rfl rfl _ (fun v35 hv36 => R_fieldAddr (off := 0) (oo := 0) Tryz.underlying77 rfl rfl Tryz.sizeOf69 rfl rfl ⟨rfl, Gr.refl _ _⟩) ?_
   refine Lx_q (i := 2) rfl rfl _ (fun v37 hv38 => R_loadA (cs := [[(.int .i64 (((nth items k).node).T))], [(.int .i64 (((nth items k).node).R))]]) Tryz.isAgg69 Tryz.sizeOf69 rfl rfl ((boxR_at ((H32.ext hv38).getOwn 0 rfl)).chunks 0 2 0 0 _ rfl rfl rfl) ⟨rfl, Gr.refl _ _⟩) ?_
   refine Lx_q (i := 4) rfl rfl _ (fun v39 hv40 => R_fieldAddr (off := 2) (oo := 2) Tryz.underlying77 rfl rfl Tryz.sizeOf69 rfl rfl ⟨rfl, Gr.refl _ _⟩) ?_
   refine Lx_q (i := 5) rfl rfl _ (fun v41 hv42 => R_loadA (cs := [[(.int .i64 (((nth items k).tm).T))], [(.int .i64 (((nth items k).tm).R))]]) Tryz.isAgg69 Tryz.sizeOf69 rfl rfl ((boxR_at ((H32.ext hv42).getOwn 0 rfl)).chunks 2 2 2 2 _ rfl rfl rfl) ⟨rfl, Gr.refl _ _⟩) ?_
   refine Lx_q (i := 7) rfl rfl _ (fun v43 hv44 => R_fieldAddr (off := 4) (oo := 4) Tryz.underlying77 rfl rfl Tryz.sizeOf9 rfl rfl ⟨rfl, Gr.refl _ _⟩) ?_
   refine Lx_q (i := 8) rfl rfl _ (fun v45 hv46 => R_load1 (v := (.string ((nth items k).name))) Tryz.isAgg9 rfl ((boxR_at ((H32.ext hv46).getOwn 0 rfl)).chunks 4 1 4 4 _ rfl rfl rfl) ⟨rfl, Gr.refl _ _⟩) ?_
   refine Lx_q (i := 10) rfl rfl _ (fun v47 hv48 => R_fieldAddr (off := 5) (oo := 5) Tryz.underlying77 rfl rfl Tryz.sizeOf45 rfl rfl ⟨rfl, Gr.refl _ _⟩) ?_
   refine Lx_q (i := 11) rfl rfl _ (fun v49 hv50 => R_loadA (cs := [(idCells ((nth items k).sub))]) Tryz.isAgg45 Tryz.sizeOf45 rfl rfl ((boxR_at ((H32.ext hv50).getOwn 0 rfl)).chunks 5 1 5 5 _ rfl rfl rfl) ⟨rfl, Gr.refl _ _⟩) ?_
   refine Lx_q (i := 13) rfl rfl _ (fun v51 hv52 => R_fieldAddr (off := 37) (oo := 37) Tryz.underlying77 rfl rfl Tryz.sizeOf75 rfl rfl ⟨rfl, Gr.refl _ _⟩) ?_
   refine Lx_q (i := 14) rfl rfl _ (fun v53 hv54 => R_load1 (v := (slV ((nth items k).hh) ((nth items k).heads))) Tryz.isAgg75 rfl ((boxR_at ((H32.ext hv54).getOwn 0 rfl)).chunks 6 1 37 37 _ rfl rfl rfl) ⟨rfl, Gr.refl _ _⟩) ?_
   refine Lx_q (i := 15) rfl rfl _ (fun v55 hv56 => R_len_slice (a := ((nth items k).hh).a) (n := ((nth items k).heads).length) (c := ((nth items k).hh).c) Tryz.underlying75 rfl ⟨rfl, Gr.refl _ _⟩) ?_
   refine Lx_c (i := 3) rfl rfl (fun w57 hw58 => ?_)
   have H59 := H32.ext hw58
   refine (R_callL (vs := [(.slice none 0 0), (aggOf (stampCh ((nth items k).node)))]) obj_PutDir_c42 rfl rfl ((obj_at nilH [] ((nth items k).node) w57 (Sl.nil _ _ _ _) (by decide)).ret ?_))
   rintro _ w61 ⟨h60, rfl, hx62, ho63⟩
   have H64 := H59.addRow hx62 ho63
   refine ⟨GrF.ofExt hx62, ?_⟩
   refine Lx_c (i := 6) rfl rfl (fun w65 hw66 => ?_)
   have H67 := H64.ext hw66
   refine (R_callL (vs := [(slV h60 ([] ++ atB ((nth items k).node))), (aggOf (stampCh ((nth items k).tm)))]) obj_PutDir_c42 rfl rfl ((obj_at h60 ([] ++ atB ((nth items k).node)) ((nth items k).tm) w65 (H67.rowSl 0 rfl (fun _ => rfl)) (by have h1 := atB_len (nth items k).node; have h2 := atB_len (nth items k).tm; have h3 := (dirOk_lens hD (show k < items.length by omega)); have h4 := textB_len (nth items k).name; have h5 := numB_len ((nth items k).heads.length : Nat); simp only [List.length_append, List.length_nil, idList_len]; omega)).ret ?_))
   rintro _ w69 ⟨h68, rfl, hx70, ho71⟩
   have H72 := H67.addRow hx70 ho71
   refine ⟨GrF.ofExt hx70, ?_⟩
   refine Lx_c (i := 9) rfl rfl (fun w73 hw74 => ?_)
   have H75 := H72.ext hw74
   refine (R_callL (vs := [(slV h68 (([] ++ atB ((nth items k).node)) ++ atB ((nth items k).tm))), (.string ((nth items k).name))]) obj_PutDir_c41 rfl rfl ((enc_Text h68 (([] ++ atB ((nth items k).node)) ++ atB ((nth items k).tm)) ((nth items k).name) w73 (H75.rowSl 0 rfl (fun _ => rfl)) (by have h1 := atB_len (nth items k).node; have h2 := atB_len (nth items k).tm; have h3 := (dirOk_lens hD (show k < items.length by omega)); have h4 := textB_len (nth items k).name; have h5 := numB_len ((nth items k).heads.length : Nat); simp only [List.length_append, List.length_nil, idList_len]; omega)).ret ?_))
   rintro _ w77 ⟨h76, rfl, hx78, ho79⟩
   have H80 := H75.addRow hx78 ho79
   refine ⟨GrF.ofExt hx78, ?_⟩
   refine Lx_c (i := 12) rfl rfl (fun w81 hw82 => ?_)
   have H83 := H80.ext hw82
   refine (R_callL (vs := [(slV h76 ((([] ++ atB ((nth items k).node)) ++ atB ((nth items k).tm)) ++ textB ((nth items k).name))), (aggOf (idCh ((nth items k).sub)))]) obj_PutDir_c40 rfl rfl ((enc_Id h76 ((([] ++ atB ((nth items k).node)) ++ atB ((nth items k).tm)) ++ textB ((nth items k).name)) ((nth items k).sub) w81 (H83.rowSl 0 rfl (fun _ => rfl)) (by have h1 := atB_len (nth items k).node; have h2 := atB_len (nth items k).tm; have h3 := (dirOk_lens hD (show k < items.length by omega)); have h4 := textB_len (nth items k).name; have h5 := numB_len ((nth items k).heads.length : Nat); simp only [List.length_append, List.length_nil, idList_len]; omega)).ret ?_))
   rintro _ w85 ⟨h84, rfl, hx86, ho87⟩
   have H88 := H83.addRow hx86 ho87
   refine ⟨GrF.ofExt hx86, ?_⟩
   refine Lx_c (i := 16) rfl rfl (fun w89 hw90 => ?_)
   have H91 := H88.ext hw90
   refine (R_callL (vs := [(slV h84 (((([] ++ atB ((nth items k).node)) ++ atB ((nth items k).tm)) ++ textB ((nth items k).name)) ++ idList ((nth items k).sub))), (.int .i64 ((((nth items k).heads).length : Nat) : Int))]) obj_PutDir_c39 rfl rfl ((enc_Num h84 (((([] ++ atB ((nth items k).node)) ++ atB ((nth items k).tm)) ++ textB ((nth items k).name)) ++ idList ((nth items k).sub)) ((((nth items k).heads).length : Nat) : Int) w89 (H91.rowSl 0 rfl (fun _ => rfl)) (by have h1 := atB_len (nth items k).node; have h2 := atB_len (nth items k).tm; have h3 := (dirOk_lens hD (show k < items.length by omega)); have h4 := textB_len (nth items k).name; have h5 := numB_len ((nth items k).heads.length : Nat); simp only [List.length_append, List.length_nil, idList_len]; omega)).ret ?_))
   rintro _ w93 ⟨h92, rfl, hx94, ho95⟩
   have H96 := H91.addRow hx94 ho95
   refine ⟨GrF.ofExt hx94, ?_⟩
   refine Lx_c (i := 17) rfl rfl (fun w97 hw98 => ?_)
   have H99 := H96.ext hw98
   refine (C_append H99 6 rfl (bytes := 1) (l := acc) (ys := ((((([] ++ atB ((nth items k).node)) ++ atB ((nth items k).tm)) ++ textB ((nth items k).name)) ++ idList ((nth items k).sub)) ++ numB ((((nth items k).heads).length : Nat) : Int))) Tryz.underlying22 rfl rfl rfl rfl rfl (by decide) rfl rfl (OwnS.sl (H99.getOwn 0 rfl) (fun _ => rfl)) (fun _ => rfl) (fun _ => rfl) (by have h1 := atB_len (nth items k).node; have h2 := atB_len (nth items k).tm; have h3 := (dirOk_lens hD (show k < items.length by omega)); have h4 := textB_len (nth items k).name; have h5 := numB_len ((nth items k).heads.length : Nat); simp only [List.length_append, List.length_nil, idList_len]; omega) (by decide) ?_)
   intro h100 w101 hg102 H103
   refine ⟨Gr.mono (M' := fun _ => True) hg102 (fun _ _ => trivial), ?_⟩
   refine Lx_q (i := 18) rfl rfl _ (fun v104 hv105 => R_assign (v := (slV h100 (acc ++ ((((([] ++ atB ((nth items k).node)) ++ atB ((nth items k).tm)) ++ textB ((nth items k).name)) ++ idList ((nth items k).sub)) ++ numB ((((nth items k).heads).length : Nat) : Int))))) rfl ⟨rfl, Gr.refl _ _⟩) ?_
   refine Lx_nil (fun w106 hw107 => ?_)
   have H108 := H103.ext hw107
   refine Then_n (W_seq (W_reg ?_))
   refine O_v rfl (R_fieldAddr (off := 37) (oo := 37) Tryz.underlying77 rfl rfl Tryz.sizeOf75 rfl rfl ?_)
   refine O_v rfl (R_load1 (v := (slV ((nth items k).hh) ((nth items k).heads))) Tryz.isAgg75 rfl ((boxR_at (H108.getOwn 5 rfl)).chunks 6 1 37 37 _ rfl rfl rfl) ?_)
   refine O_v rfl (R_len_slice (a := ((nth items k).hh).a) (n := ((nth items k).heads).length) (c := ((nth items k).hh).c) Tryz.underlying75 rfl ?_)
   refine O_v rfl (R_move (v := (.int .i64 0)) rfl ?_)
   refine O_nil (Then_n (W_block ?_))
   refine W_loop (fun m110 e111 w112 => ∃ (j : Nat), ∃ (acc2 : List UInt8), ∃ (h109 : SlH), m110 = (nth items k).heads.length - j ∧ (j ≤ (nth items k).heads.length) ∧ (acc2 = acc ++ itemTo (nth items k) j) ∧ (acc2.length ≤ 10 + k * 51000 + 200 + j * 50) ∧ ((nth items k).heads.length ≤ 1000) ∧ (items.length ≤ 1000) ∧ ∃ eb113, e111 = envL [(2, (.slice none 0 0)), (3, (.int .i64 0)), (4, (slV h109 acc2)), (6, (.pointer (some ⟨b25, 0, none⟩))), (16, (slV hitems items)), (17, (.int .i64 ((items.length : Nat) : Int))), (18, (.int .i64 ((k : Nat) : Int))), (19, (.bool (decide (((k : Nat) : Int) < ((items.length : Nat) : Int))))), (20, (.pointer (some ⟨hitems.b, (hitems.o + k * 38), none⟩))), (21, (aggOf (itemCh (nth items k)))), (22, (slV h18 acc)), (23, (.pointer (some ⟨b25, 0, none⟩))), (24, (aggOf (stampCh ((nth items k).node)))), (25, (slV h60 ([] ++ atB ((nth items k).node)))), (26, (.pointer (some ⟨b25, 2, none⟩))), (27, (aggOf (stampCh ((nth items k).tm)))), (28, (slV h68 (([] ++ atB ((nth items k).node)) ++ atB ((nth items k).tm)))), (29, (.pointer (some ⟨b25, 4, none⟩))), (30, (.string ((nth items k).name))), (31, (slV h76 ((([] ++ atB ((nth items k).node)) ++ atB ((nth items k).tm)) ++ textB ((nth items k).name)))), (32, (.pointer (some ⟨b25, 5, none⟩))), (33, (aggOf (idCh ((nth items k).sub)))), (34, (slV h84 (((([] ++ atB ((nth items k).node)) ++ atB ((nth items k).tm)) ++ textB ((nth items k).name)) ++ idList ((nth items k).sub)))), (35, (.pointer (some ⟨b25, 37, none⟩))), (36, (slV ((nth items k).hh) ((nth items k).heads))), (37, (.int .i64 ((((nth items k).heads).length : Nat) : Int))), (38, (slV h92 ((((([] ++ atB ((nth items k).node)) ++ atB ((nth items k).tm)) ++ textB ((nth items k).name)) ++ idList ((nth items k).sub)) ++ numB ((((nth items k).heads).length : Nat) : Int)))), (39, (slV h100 (acc ++ ((((([] ++ atB ((nth items k).node)) ++ atB ((nth items k).tm)) ++ textB ((nth items k).name)) ++ idList ((nth items k).sub)) ++ numB ((((nth items k).heads).length : Nat) : Int))))), (40, (.pointer (some ⟨b25, 37, none⟩))), (41, (slV ((nth items k).hh) ((nth items k).heads))), (42, (.int .i64 ((((nth items k).heads).length : Nat) : Int))), (43, (.int .i64 ((j : Nat) : Int)))] eb113 ∧ Ctx w nob w112 [rowR 5 1 encB h92 ((((([] ++ atB ((nth items k).node)) ++ atB ((nth items k).tm)) ++ textB ((nth items k).name)) ++ idList ((nth items k).sub)) ++ numB ((((nth items k).heads).length : Nat) : Int)), rowR 5 1 encB h84 (((([] ++ atB ((nth items k).node)) ++ atB ((nth items k).tm)) ++ textB ((nth items k).name)) ++ idList ((nth items k).sub)), rowR 5 1 encB h76 ((([] ++ atB ((nth items k).node)) ++ atB ((nth items k).tm)) ++ textB ((nth items k).name)), rowR 5 1 encB h68 (([] ++ atB ((nth items k).node)) ++ atB ((nth items k).tm)), rowR 5 1 encB h60 ([] ++ atB ((nth items k).node)), boxR b25 77 [[(.int .i64 (((nth items k).node).T))], [(.int .i64 (((nth items k).node).R))], [(.int .i64 (((nth items k).tm).T))], [(.int .i64 (((nth items k).tm).R))], [(.string ((nth items k).name))], (idCells ((nth items k).sub)), [(slV ((nth items k).hh) ((nth items k).heads))]], rowR 5 1 encB h109 acc2, rowR 5 1 encB ⟨some ⟨b8, 0, none⟩, b8, 0, 1⟩ ([2] : List UInt8)] [deepI (Old w) headCh 34 (fun x : ItemS => x.hh) (fun x : ItemS => x.heads) items, slI (Old w) itemCh 38 hitems items]) _ ⟨0, (acc ++ ((((([] ++ atB ((nth items k).node)) ++ atB ((nth items k).tm)) ++ textB ((nth items k).name)) ++ idList ((nth items k).sub)) ++ numB ((((nth items k).heads).length : Nat) : Int))), h100, rfl, (by omega), (item_start acc (nth items k)), (by have h1 := atB_len (nth items k).node; have h2 := atB_len (nth items k).tm; have h3 := (dirOk_lens hD (show k < items.length by omega)); have h4 := textB_len (nth items k).name; have h5 := numB_len ((nth items k).heads.length : Nat); simp only [List.length_append, List.length_nil, idList_len]; omega), (dirOk_lens hD (show k < items.length by omega)).2.1, (dirOk_lens hD (show k < items.length by omega)).2.2, _, envL_self ⟨rfl, rfl, rfl, rfl, rfl, rfl, rfl, rfl, rfl, rfl, rfl, rfl, rfl, rfl, rfl, rfl, rfl, rfl, rfl, rfl, rfl, rfl, rfl, rfl, rfl, rfl, rfl, rfl, rfl, rfl, rfl, rfl, trivial⟩, H108⟩ ?_
   rintro m110 _ w112 ⟨j, acc2, h109, rfl, hj, ha2, hal2, hx, hki, eb113, rfl, H114⟩
   refine W_seq (W_reg ?_)
   refine O_v rfl (R_cmp (a := ((j : Nat) : Int)) (b := ((((nth items k).heads).length : Nat) : Int)) (r := (decide (((j : Nat) : Int) < ((((nth items k).heads).length : Nat) : Int)))) rfl rfl rfl ?_)
   refine O_nil (Then_n (W_seq ?_))
   refine W_cond (t := (decide (((j : Nat) : Int) < ((((nth items k).heads).length : Nat) : Int)))) rfl (fun hc115 => ?_) (fun hc115 => ?_)
   ·have hc115 : (((j : Nat) : Int) < ((((nth items k).heads).length : Nat) : Int)) := (of_decide_eq_true hc115)
    refine W_skip (Then_n (W_seq (W_block (W_seq (W_reg ?_)))))
    refine O_v rfl (R_index_pure (Sl.as ((nth items k).hh) ((nth items k).heads) ((H114.getImm 0 rfl) _ (nth_mem (by omega)))) (n := ((nth items k).heads).length) rfl (j := ((j : Nat) : Int)) (oo := (((nth items k).hh).o + j * 34)) Tryz.underlying75 Tryz.sizeOf84 rfl rfl (by omega) (by omega) rfl ?_)
    refine O_v rfl (R_loadA (cs := [[(.int .i64 (((nth ((nth items k).heads) j).tm).T))], [(.int .i64 (((nth ((nth items k).heads) j).tm).R))], (idCells ((nth ((nth items k).heads) j).data))]) Tryz.isAgg84 Tryz.sizeOf84 rfl rfl ((Sl.elem (Sl.as ((nth items k).hh) ((nth items k).heads) ((H114.getImm 0 rfl) _ (nth_mem (by omega)))) (i := j) (by omega) rfl).chunks 0 3 0 (((nth items k).hh).o + j * 34) _ rfl rfl rfl) ?_)
    refine O_v rfl (C_alloc H114 [[(.int .i64 0)], [(.int .i64 0)], (idCells zeroId)] Tryz.zeroValue84 ?_)
    intro b116 w117 hb118 hx119 H120
    refine O_u (C_storeA H120 0 rfl 0 (sub := [[(.int .i64 (((nth ((nth items k).heads) j).tm).T))], [(.int .i64 (((nth ((nth items k).heads) j).tm).R))], (idCells ((nth ((nth items k).heads) j).data))]) [[(.int .i64 (((nth ((nth items k).heads) j).tm).T))], [(.int .i64 (((nth ((nth items k).heads) j).tm).R))], (idCells ((nth ((nth items k).heads) j).data))] Tryz.sizeOf84 rfl rfl rfl rfl ⟨[[(.int .i64 0)], [(.int .i64 0)], (idCells zeroId)], [], rfl, rfl, rfl⟩ rfl ?_)
    intro w121 hg122 H123
    refine O_nil (Then_n ?_)
    refine W_rgdM TryzMixed nob (fun i => if i == 7 then 2 else 0) [(0, .q 2), (1, .q 2), (2, .q 0), (4, .q 2), (5, .q 0), (3, .c 0), (6, .c 0), (7, .c 2), (8, .q 2)] (by kernel_rfl) ?_
    refine Lx_q (i := 0) rfl rfl _ (fun v124 hv125 => R_move (v := (slV h109 acc2)) rfl ⟨rfl, Gr.refl _ _⟩) ?_
    refine Lx_q (i := 1) rfl rfl _ (fun v126 hv127 => R_fieldAddr (off := 0) (oo := 0) Tryz.underlying84 rfl rfl Tryz.sizeOf69 rfl rfl ⟨rfl, Gr.refl _ _⟩) ?_
    refine Lx_q (i := 2) rfl rfl _ (fun v128 hv129 => R_loadA (cs := [[(.int .i64 (((nth ((nth items k).heads) j).tm).T))], [(.int .i64 (((nth ((nth items k).heads) j).tm).R))]]) Tryz.isAgg69 Tryz.sizeOf69 rfl rfl ((boxR_at ((H123.ext hv129).getOwn 0 rfl)).chunks 0 2 0 0 _ rfl rfl rfl) ⟨rfl, Gr.refl _ _⟩) ?_
    refine Lx_q (i := 4) rfl rfl _ (fun v130 hv131 => R_fieldAddr (off := 2) (oo := 2) Tryz.underlying84 rfl rfl Tryz.sizeOf45 rfl rfl ⟨rfl, Gr.refl _ _⟩) ?_
    refine Lx_q (i := 5) rfl rfl _ (fun v132 hv133 => R_loadA (cs := [(idCells ((nth ((nth items k).heads) j).data))]) Tryz.isAgg45 Tryz.sizeOf45 rfl rfl ((boxR_at ((H123.ext hv133).getOwn 0 rfl)).chunks 2 1 2 2 _ rfl rfl rfl) ⟨rfl, Gr.refl _ _⟩) ?_
    refine Lx_c (i := 3) rfl rfl (fun w134 hw135 => ?_)
    have H136 := H123.ext hw135
    refine (R_callL (vs := [(.slice none 0 0), (aggOf (stampCh ((nth ((nth items k).heads) j).tm)))]) obj_PutDir_c42 rfl rfl ((obj_at nilH [] ((nth ((nth items k).heads) j).tm) w134 (Sl.nil _ _ _ _) (by decide)).ret ?_))
    rintro _ w138 ⟨h137, rfl, hx139, ho140⟩
    have H141 := H136.addRow hx139 ho140
    refine ⟨GrF.ofExt hx139, ?_⟩
    refine Lx_c (i := 6) rfl rfl (fun w142 hw143 => ?_)
    have H144 := H141.ext hw143
    refine (R_callL (vs := [(slV h137 ([] ++ atB ((nth ((nth items k).heads) j).tm))), (aggOf (idCh ((nth ((nth items k).heads) j).data)))]) obj_PutDir_c40 rfl rfl ((enc_Id h137 ([] ++ atB ((nth ((nth items k).heads) j).tm)) ((nth ((nth items k).heads) j).data) w142 (H144.rowSl 0 rfl (fun _ => rfl)) (by have h1 := atB_len (nth (nth items k).heads j).tm; have h3 := (dirOk_lens hD (show k < items.length by omega)); simp only [List.length_append, List.length_nil, List.length_cons, idList_len]; omega)).ret ?_))
    rintro _ w146 ⟨h145, rfl, hx147, ho148⟩
    have H149 := H144.addRow hx147 ho148
    refine ⟨GrF.ofExt hx147, ?_⟩
    refine Lx_c (i := 7) rfl rfl (fun w150 hw151 => ?_)
    have H152 := H149.ext hw151
    refine (C_append H152 9 rfl (bytes := 1) (l := acc2) (ys := (([] ++ atB ((nth ((nth items k).heads) j).tm)) ++ idList ((nth ((nth items k).heads) j).data))) Tryz.underlying22 rfl rfl rfl rfl rfl (by decide) rfl rfl (OwnS.sl (H152.getOwn 0 rfl) (fun _ => rfl)) (fun _ => rfl) (fun _ => rfl) (by have h1 := atB_len (nth (nth items k).heads j).tm; have h3 := (dirOk_lens hD (show k < items.length by omega)); simp only [List.length_append, List.length_nil, List.length_cons, idList_len]; omega) (by decide) ?_)
    intro h153 w154 hg155 H156
    refine ⟨Gr.mono (M' := fun _ => True) hg155 (fun _ _ => trivial), ?_⟩
    refine Lx_q (i := 8) rfl rfl _ (fun v157 hv158 => R_assign (v := (slV h153 (acc2 ++ (([] ++ atB ((nth ((nth items k).heads) j).tm)) ++ idList ((nth ((nth items k).heads) j).data))))) rfl ⟨rfl, Gr.refl _ _⟩) ?_
    refine Lx_nil (fun w159 hw160 => ?_)
    have H161 := H156.ext hw160
    refine Blk_n (Then_n (W_reg ?_))
    refine O_v rfl (R_arith (a := ((j : Nat) : Int)) (b := 1) (r0 := ((j : Nat) : Int) + 1) (r := ((j + 1 : Nat) : Int)) rfl rfl rfl (wrapN _ (by omega)) ?_)
    refine O_v rfl (R_move (v := (.int .i64 ((j + 1 : Nat) : Int))) rfl ?_)
    refine O_nil (Then_n ?_)
    have H162 := H161.sub (B' := [rowR 5 1 encB h92 ((((([] ++ atB ((nth items k).node)) ++ atB ((nth items k).tm)) ++ textB ((nth items k).name)) ++ idList ((nth items k).sub)) ++ numB ((((nth items k).heads).length : Nat) : Int)), rowR 5 1 encB h84 (((([] ++ atB ((nth items k).node)) ++ atB ((nth items k).tm)) ++ textB ((nth items k).name)) ++ idList ((nth items k).sub)), rowR 5 1 encB h76 ((([] ++ atB ((nth items k).node)) ++ atB ((nth items k).tm)) ++ textB ((nth items k).name)), rowR 5 1 encB h68 (([] ++ atB ((nth items k).node)) ++ atB ((nth items k).tm)), rowR 5 1 encB h60 ([] ++ atB ((nth items k).node)), boxR b25 77 [[(.int .i64 (((nth items k).node).T))], [(.int .i64 (((nth items k).node).R))], [(.int .i64 (((nth items k).tm).T))], [(.int .i64 (((nth items k).tm).R))], [(.string ((nth items k).name))], (idCells ((nth items k).sub)), [(slV ((nth items k).hh) ((nth items k).heads))]], rowR 5 1 encB h153 (acc2 ++ (([] ++ atB ((nth ((nth items k).heads) j).tm)) ++ idList ((nth ((nth items k).heads) j).data))), rowR 5 1 encB ⟨some ⟨b8, 0, none⟩, b8, 0, 1⟩ ([2] : List UInt8)]) (I' := [deepI (Old w) headCh 34 (fun x : ItemS => x.hh) (fun x : ItemS => x.heads) items, slI (Old w) itemCh 38 hitems items]) (List.Sublist.cons _ (List.Sublist.cons _ (List.Sublist.cons _ (List.Sublist.cons_cons _ (List.Sublist.cons_cons _ (List.Sublist.cons_cons _ (List.Sublist.cons_cons _ (List.Sublist.cons_cons _ (List.Sublist.cons_cons _ (List.Sublist.cons_cons _ (List.Sublist.cons_cons _ List.Sublist.slnil))))))))))) (List.forall_mem_cons.2 ⟨List.mem_of_getElem? (i := 0) rfl, List.forall_mem_cons.2 ⟨List.mem_of_getElem? (i := 1) rfl, fun _ h => (nomatch h)⟩⟩)
    refine ⟨_, ?_, (j + 1), (acc2 ++ (([] ++ atB ((nth ((nth items k).heads) j).tm)) ++ idList ((nth ((nth items k).heads) j).data))), h153, rfl, (by omega), (head_step ha2 (by omega)), (by have h1 := atB_len (nth (nth items k).heads j).tm; have h3 := (dirOk_lens hD (show k < items.length by omega)); simp only [List.length_append, List.length_nil, List.length_cons, idList_len]; omega), (by omega), (by omega), _, envL_self ⟨rfl, rfl, rfl, rfl, rfl, rfl, rfl, rfl, rfl, rfl, rfl, rfl, rfl, rfl, rfl, rfl, rfl, rfl, rfl, rfl, rfl, rfl, rfl, rfl, rfl, rfl, rfl, rfl, rfl, rfl, rfl, rfl, trivial⟩, H162⟩
    omega
   ·have hc115 : ¬ (((j : Nat) : Int) < ((((nth items k).heads).length : Nat) : Int)) := (of_decide_eq_false hc115)
    refine W_exit (Then_x (Then_x (Blk_x (Blk_n (Then_n (W_reg ?_))))))
    refine O_v rfl (R_arith (a := ((k : Nat) : Int)) (b := 1) (r0 := ((k : Nat) : Int) + 1) (r := ((k + 1 : Nat) : Int)) rfl rfl rfl (wrapN _ (by omega)) ?_)
    refine O_v rfl (R_move (v := (.int .i64 ((k + 1 : Nat) : Int))) rfl ?_)
    refine O_nil (Then_n ?_)
    have H163 := H114.sub (B' := [rowR 5 1 encB h109 acc2, rowR 5 1 encB ⟨some ⟨b8, 0, none⟩, b8, 0, 1⟩ ([2] : List UInt8)]) (I' := [deepI (Old w) headCh 34 (fun x : ItemS => x.hh) (fun x : ItemS => x.heads) items, slI (Old w) itemCh 38 hitems items]) (List.Sublist.cons _ (List.Sublist.cons _ (List.Sublist.cons _ (List.Sublist.cons _ (List.Sublist.cons _ (List.Sublist.cons _ (List.Sublist.cons_cons _ (List.Sublist.cons_cons _ List.Sublist.slnil)))))))) (List.forall_mem_cons.2 ⟨List.mem_of_getElem? (i := 0) rfl, List.forall_mem_cons.2 ⟨List.mem_of_getElem? (i := 1) rfl, fun _ h => (nomatch h)⟩⟩)
    refine ⟨_, ?_, (k + 1), acc2, h109, rfl, (by omega), (item_end ha ha2 (by omega) (by omega)), (by have := dirOk_lens hD (show k < items.length by omega); omega), hD, _, envL_self ⟨rfl, rfl, rfl, rfl, rfl, rfl, trivial⟩, H163⟩
    omega
  ·have hc24 : ¬ (((k : Nat) : Int) < ((items.length : Nat) : Int)) := (of_decide_eq_false hc24)
   refine W_exit (Then_x (Then_x (Blk_x (Then_n (W_seq (W_reg ?_))))))
   refine O_v rfl (R_move (v := (slV h18 acc)) rfl ?_)
   refine O_v rfl (R_assign (v := (slV h18 acc)) rfl ?_)
   refine O_v rfl (R_assign (v := (.int .i64 0)) rfl ?_)
   refine O_nil (Then_n (W_ret ?_))
   refine ret_2 (v := (slV h18 acc)) (v' := (.int .i64 0)) Tryz.results15 rfl rfl ?_
   have hE : acc = putDirB items := (dir_end ha hD (by omega)).1
   have hV : 0 = putDirE items := (dir_end ha hD (by omega)).2
   refine ⟨h18, ?_, H23.gr, ?_⟩
   · exact two_eq (fun l n => Value.tuple #[slV h18 l, Value.int .i64 n]) hE hV
   · have hO := H23.retRow 0 rfl
     exact hE ▸ hO

end Go.Proofs.YthjdhfoeckfmbaaGreat
namespace Go.Proofs.YthjdhfoeckfmbaaGreat
open Go
set_option maxRecDepth 100000
set_option linter.unusedVariables false
set_option linter.unusedSimpArgs false
set_option linter.unusedSectionVars false
theorem obj_PutLabel_c40 : callable Tryz.prog 40 = true := by kernel_rfl
theorem obj_PutLabel_c41 : callable Tryz.prog 41 = true := by kernel_rfl
theorem obj_PutLabel_c70 : callable Tryz.prog 70 = true := by kernel_rfl
set_option maxHeartbeats 1000000 in
theorem obj_PutLabel (l : Label) (w : World) :
    Calls Tryz.prog 28 #[(aggOf (labelCh l))] w (Ret fun v w' => ∃ h0, v = .tuple #[slV h0 (putLabelB l), (.int .i64 (putLabelE l))] ∧ Ext w w' ∧ OwnS w.heap.size 5 1 encB h0 (putLabelB l) w') := by
 refine calls_W Tryz.func28 rfl Tryz.ntmps28 rfl ?_
 have H0 := Ctx.start w nob
 have hLn := textB_len l.name
 refine W_seq (W_reg ?_)
 refine O_v rfl (C_box H0 [(idCells l.target), [(.string l.name)], [(.string l.msg)]] rfl ?_)
 intro b1 w2 hb3 hx4 H5
 refine O_v rfl (R_assign (v := (.slice none 0 0)) rfl ?_)
 refine O_v rfl (R_assign (v := (.int .i64 0)) rfl ?_)
 refine O_nil (Then_n (W_seq (W_seq (W_reg ?_))))
 refine O_v rfl (R_loadA (cs := [(idCells l.target), [(.string l.name)], [(.string l.msg)]]) Tryz.isAgg55 Tryz.sizeOf55 rfl rfl ((boxR_at (H5.getOwn 0 rfl)).chunks 0 3 0 0 _ rfl rfl rfl) ?_)
 refine O_v rfl (R_callL (vs := [(aggOf (labelCh l))]) obj_PutLabel_c70 rfl rfl ((obj_rightLabel l w2 ).ret ?_))
 rintro _ w6 ⟨rfl, hx7⟩
 have H8 := H5.ext hx7
 refine O_v rfl (R_not rfl ?_)
 refine O_nil (Then_n ?_)
 refine W_cond (t := (!(labelOk l))) rfl (fun hc9 => ?_) (fun hc9 => ?_)
 ·have hc9 : (labelOk l) = false := (notT hc9)
  refine W_seq (W_reg ?_)
  refine O_v rfl (R_assign (v := (.slice none 0 0)) rfl ?_)
  refine O_v rfl (R_assign (v := (.int .i64 1)) rfl ?_)
  refine O_nil (Then_n (W_ret (Then_r ?_)))
  refine ret_2 (v := (.slice none 0 0)) (v' := (.int .i64 1)) Tryz.results28 rfl rfl ?_
  have H10 := H8.addNil 5 1 encB
  have hE : [] = putLabelB l := (putLabel_f (by assumption)).1
  have hV : 1 = putLabelE l := (putLabel_f (by assumption)).2
  refine ⟨nilH, ?_, H10.gr, ?_⟩
  · exact two_eq (fun l n => Value.tuple #[slV nilH l, Value.int .i64 n]) hE hV
  · have hO := H10.retRow 0 rfl
    exact hE ▸ hO
 ·have hc9 : (labelOk l) = true := (notF hc9)
  refine W_skip (Then_n (W_seq ?_))
  refine W_rgd TryzMixed [(1, .q 0), (2, .q 0), (4, .q 0), (5, .q 0), (7, .q 0), (8, .q 0), (0, .c 0), (3, .c 0), (6, .c 0), (9, .c 0), (10, .q 0), (11, .q 0)] (by kernel_rfl) ?_
  refine Lx_q (i := 1) rfl rfl _ (fun v11 hv12 => R_fieldAddr (off := 0) (oo := 0) Tryz.underlying55 rfl rfl Tryz.sizeOf45 rfl rfl ⟨rfl, Gr.refl _ _⟩) ?_
  refine Lx_q (i := 2) rfl rfl _ (fun v13 hv14 => R_loadA (cs := [(idCells l.target)]) Tryz.isAgg45 Tryz.sizeOf45 rfl rfl ((boxR_at ((H8.ext hv14).getOwn 0 rfl)).chunks 0 1 0 0 _ rfl rfl rfl) ⟨rfl, Gr.refl _ _⟩) ?_
  refine Lx_q (i := 4) rfl rfl _ (fun v15 hv16 => R_fieldAddr (off := 32) (oo := 32) Tryz.underlying55 rfl rfl Tryz.sizeOf9 rfl rfl ⟨rfl, Gr.refl _ _⟩) ?_
  refine Lx_q (i := 5) rfl rfl _ (fun v17 hv18 => R_load1 (v := (.string l.name)) Tryz.isAgg9 rfl ((boxR_at ((H8.ext hv18).getOwn 0 rfl)).chunks 1 1 32 32 _ rfl rfl rfl) ⟨rfl, Gr.refl _ _⟩) ?_
  refine Lx_q (i := 7) rfl rfl _ (fun v19 hv20 => R_fieldAddr (off := 33) (oo := 33) Tryz.underlying55 rfl rfl Tryz.sizeOf9 rfl rfl ⟨rfl, Gr.refl _ _⟩) ?_
  refine Lx_q (i := 8) rfl rfl _ (fun v21 hv22 => R_load1 (v := (.string l.msg)) Tryz.isAgg9 rfl ((boxR_at ((H8.ext hv22).getOwn 0 rfl)).chunks 2 1 33 33 _ rfl rfl rfl) ⟨rfl, Gr.refl _ _⟩) ?_
  refine Lx_c (i := 0) rfl rfl (fun w23 hw24 => ?_)
  have H25 := H8.ext hw24
  refine (C_buildSliceL H25 (enc := encB) (val := byteV) ([4] : List UInt8) Tryz.underlying22 Tryz.sizeOf5 Tryz.zeroValue5 rfl (by decide) (fun _ => rfl) (fun _ => rfl) rfl rfl (by decide) ?_)
  intro b26 w27 hb28 hx29 H30
  refine ⟨GrF.ofExt hx29, ?_⟩
  refine Lx_c (i := 3) rfl rfl (fun w31 hw32 => ?_)
  have H33 := H30.ext hw32
  refine (R_callL (vs := [(slV ⟨some ⟨b26, 0, none⟩, b26, 0, 1⟩ ([4] : List UInt8)), (aggOf (idCh l.target))]) obj_PutLabel_c40 rfl rfl ((enc_Id ⟨some ⟨b26, 0, none⟩, b26, 0, 1⟩ ([4] : List UInt8) l.target w31 (H33.rowSl 0 rfl (fun _ => rfl)) (by simp only [List.length_cons, List.length_nil]; omega)).ret ?_))
  rintro _ w35 ⟨h34, rfl, hx36, ho37⟩
  have H38 := H33.addRow hx36 ho37
  refine ⟨GrF.ofExt hx36, ?_⟩
  refine Lx_c (i := 6) rfl rfl (fun w39 hw40 => ?_)
  have H41 := H38.ext hw40
  refine (R_callL (vs := [(slV h34 (([4] : List UInt8) ++ idList l.target)), (.string l.name)]) obj_PutLabel_c41 rfl rfl ((enc_Text h34 (([4] : List UInt8) ++ idList l.target) l.name w39 (H41.rowSl 0 rfl (fun _ => rfl)) (label_h1 (by assumption))).ret ?_))
  rintro _ w43 ⟨h42, rfl, hx44, ho45⟩
  have H46 := H41.addRow hx44 ho45
  refine ⟨GrF.ofExt hx44, ?_⟩
  refine Lx_c (i := 9) rfl rfl (fun w47 hw48 => ?_)
  have H49 := H46.ext hw48
  refine (R_callL (vs := [(slV h42 ((([4] : List UInt8) ++ idList l.target) ++ textB l.name)), (.string l.msg)]) obj_PutLabel_c41 rfl rfl ((enc_Text h42 ((([4] : List UInt8) ++ idList l.target) ++ textB l.name) l.msg w47 (H49.rowSl 0 rfl (fun _ => rfl)) (label_h2 (by assumption))).ret ?_))
  rintro _ w51 ⟨h50, rfl, hx52, ho53⟩
  have H54 := H49.addRow hx52 ho53
  refine ⟨GrF.ofExt hx52, ?_⟩
  refine Lx_q (i := 10) rfl rfl _ (fun v55 hv56 => R_assign (v := (slV h50 (((([4] : List UInt8) ++ idList l.target) ++ textB l.name) ++ textB l.msg))) rfl ⟨rfl, Gr.refl _ _⟩) ?_
  refine Lx_q (i := 11) rfl rfl _ (fun v57 hv58 => R_assign (v := (.int .i64 0)) rfl ⟨rfl, Gr.refl _ _⟩) ?_
  refine Lx_nil (fun w59 hw60 => ?_)
  have H61 := H54.ext hw60
  refine Then_n (W_ret ?_)
  refine ret_2 (v := (slV h50 (((([4] : List UInt8) ++ idList l.target) ++ textB l.name) ++ textB l.msg))) (v' := (.int .i64 0)) Tryz.results28 rfl rfl ?_
  have hE : ((([4] : List UInt8) ++ idList l.target) ++ textB l.name) ++ textB l.msg = putLabelB l := (putLabel_t (by assumption)).1
  have hV : 0 = putLabelE l := (putLabel_t (by assumption)).2
  refine ⟨h50, ?_, H61.gr, ?_⟩
  · exact two_eq (fun l n => Value.tuple #[slV h50 l, Value.int .i64 n]) hE hV
  · have hO := H61.retRow 0 rfl
    exact hE ▸ hO

end Go.Proofs.YthjdhfoeckfmbaaGreat
/- What an object names, as the document says. -/
namespace Go.Proofs.YthjdhfoeckfmbaaGreat
open Go
set_option linter.unusedVariables false
set_option linter.unusedSimpArgs false
section
variable {ids acc : List ID} {id : ID} {k : Nat} {dn : Bool}
theorem rise_1 (hp : (acc, dn) = putTo ids id k) (h : (0 : Int) ≤ cmpId (nth ids k) id ∧ dn = false) (h2 : (0 : Int) < cmpId (nth ids k) id) : ((acc ++ [id]) ++ [nth ids k], true) = putTo ids id (k + 1) := by
  rw [putTo, ← hp]
  show _ = if _ then _ else _
  rw [if_pos h, if_pos h2]
theorem rise_2 (hp : (acc, dn) = putTo ids id k) (h : (0 : Int) ≤ cmpId (nth ids k) id ∧ dn = false) (h2 : ¬ (0 : Int) < cmpId (nth ids k) id) : (acc ++ [nth ids k], true) = putTo ids id (k + 1) := by
  rw [putTo, ← hp]
  show _ = if _ then _ else _
  rw [if_pos h, if_neg h2]
theorem rise_3 (hp : (acc, dn) = putTo ids id k) (h : ¬ (0 : Int) ≤ cmpId (nth ids k) id ∨ dn = true) : (acc ++ [nth ids k], dn) = putTo ids id (k + 1) := by
  rw [putTo, ← hp]
  show _ = if _ then _ else _
  rw [if_neg]
  rintro ⟨h1, h2⟩
  rcases h with h | h
  · exact h h1
  · have h2 : dn = false := h2
    rw [h2] at h; cases h
theorem rise_end1 (hp : (acc, dn) = putTo ids id k) (hk : ids.length = k) (h : dn = false) : acc ++ [id] = riseL ids id := by
  subst hk
  unfold riseL
  rw [← hp]
  subst h
  rfl
theorem rise_end2 (hp : (acc, dn) = putTo ids id k) (hk : ids.length = k) (h : dn = true) : acc = riseL ids id := by
  subst hk
  unfold riseL
  rw [← hp, if_pos h]
end
theorem putTo_len (l : List ID) (x : ID) : ∀ n, (putTo l x n).1.length ≤ n + (if (putTo l x n).2 = true then 1 else 0)
  | 0 => by simp [putTo]
  | n + 1 => by
    have ih := putTo_len l x n
    have eP : putTo l x (n + 1) = if 0 ≤ cmpId (nth l n) x ∧ (putTo l x n).2 = false then (if 0 < cmpId (nth l n) x then (putTo l x n).1 ++ [x] ++ [nth l n] else (putTo l x n).1 ++ [nth l n], true) else ((putTo l x n).1 ++ [nth l n], (putTo l x n).2) := rfl
    by_cases hc : 0 ≤ cmpId (nth l n) x ∧ (putTo l x n).2 = false
    · rw [eP, if_pos hc]
      rw [hc.2] at ih
      simp only [Bool.false_eq_true, if_false, Nat.add_zero] at ih
      simp only [if_true]
      split
      · simp only [List.length_append, List.length_cons, List.length_nil]; omega
      · simp only [List.length_append, List.length_cons, List.length_nil]; omega
    · rw [eP, if_neg hc]
      simp only [List.length_append, List.length_cons, List.length_nil]
      omega
theorem riseL_len (l : List ID) (x : ID) : (riseL l x).length ≤ l.length + 1 := by
  have h := putTo_len l x l.length
  unfold riseL
  split
  · rename_i hh; rw [if_pos hh] at h; exact h
  · rename_i hh; rw [if_neg hh] at h; rw [List.length_append, List.length_singleton]; omega
theorem putL_len (l : List ID) (x : ID) : (putL l x).length ≤ l.length + 1 := by
  unfold putL
  split
  · omega
  · exact riseL_len l x
theorem putAll_len : ∀ (xs l : List ID), (putAll l xs).length ≤ l.length + xs.length
  | [], l => by simp [putAll]
  | x :: xs, l => by
    have h1 := putL_len l x
    have h2 := putAll_len xs (putL l x)
    show (putAll (putL l x) xs).length ≤ _
    rw [List.length_cons]; omega
theorem putAll_app (l xs ys : List ID) : putAll (putAll l xs) ys = putAll l (xs ++ ys) := by simp [putAll, List.foldl_append]
theorem putAll_eq {xs ys : List ID} (h : ∀ y, y ∈ xs ↔ y ∈ ys) : putAll [] xs = putAll [] ys := by
  obtain ⟨h1, h2⟩ := putAll_set xs [] List.Pairwise.nil
  obtain ⟨h3, h4⟩ := putAll_set ys [] List.Pairwise.nil
  exact rise_mem_unique h1 h3 fun y => by rw [h2, h4, h]
theorem put_zero {id : ID} {ids : List ID} (h : id = zeroId) : [] ++ ids = putL ids id := by rw [putL, if_pos h]; rfl
theorem put_rise {id : ID} {ids : List ID} (h : ¬ id = zeroId) : riseL ids id = putL ids id := by rw [putL, if_neg h]
section
variable {b : List UInt8} {l : List ItemS} {acc acc2 xs : List ID} {k j : Nat} {X : ChangeS}
theorem dirR_ok (hr : l.map ItemS.core = (dirOf b).1) : dirOk l = true := by
  rw [dirOk_core, hr]
  by_cases h : (dirOf b).2 = 0
  · exact dirOf_ok h
  · have : (dirOf b).1 = [] := by
      unfold dirOf at h ⊢
      split at h
      · exact absurd rfl h
      · rename_i hh; rw [if_neg hh]
    rw [this]
    rfl
theorem changeR_ok (hr : X.core = (changeOf b).1) (h : ChangeB b = true) : changeOk X = true := by
  have := changeOf_ok (of_decide_eq_true h)
  rw [← hr] at this
  rw [changeOk_core]; exact this
theorem rputs_item (ha : acc = putAll [] (rawTo (l.map ItemS.core) k)) : putL acc (nth l k).sub = putAll acc ((itemIds (nth l k).core).take 1) := rfl
theorem rputs_head (h2 : acc2 = putAll acc ((itemIds (nth l k).core).take (j + 1))) (hj : j < (nth l k).heads.length) : putL acc2 (nth (nth l k).heads j).data = putAll acc ((itemIds (nth l k).core).take (j + 1 + 1)) := by
  have e1 : (itemIds (nth l k).core).length = (nth l k).heads.length + 1 := by simp [itemIds, ItemS.core]
  rw [h2, take_snoc (k := j + 1) (by omega), ← putAll_snoc]
  refine congrArg (putL _) ?_
  show _ = nth (((nth l k).heads).map (·.data)) j
  rw [nth_map _ hj]
theorem rputs_next (ha : acc = putAll [] (rawTo (l.map ItemS.core) k)) (hlt : k < l.length) (h2 : acc2 = putAll acc ((itemIds (nth l k).core).take (j + 1))) (hj : (nth l k).heads.length ≤ j) : acc2 = putAll [] (rawTo (l.map ItemS.core) (k + 1)) := by
  have e1 : (itemIds (nth l k).core).length = (nth l k).heads.length + 1 := by simp [itemIds, ItemS.core]
  rw [rawTo_succ (by simpa using hlt), nth_map _ hlt, h2, ha, List.take_of_length_le (by omega), putAll_app]
theorem rputs_len (hd : dirOk l = true) (ha : acc = putAll [] (rawTo (l.map ItemS.core) k)) (hk : k ≤ l.length) : acc.length ≤ 1001 * k := by
  have h1 := putAll_len (rawTo (l.map ItemS.core) k) []
  have h2 := rawTo_len hd k hk
  rw [ha]
  simp only [List.length_nil] at h1
  omega
theorem rputs_len2 (h2 : acc2 = putAll acc ((itemIds (nth l k).core).take (j + 1))) : acc2.length ≤ acc.length + (j + 1) := by
  have h1 := putAll_len ((itemIds (nth l k).core).take (j + 1)) acc
  rw [h2]
  have : ((itemIds (nth l k).core).take (j + 1)).length ≤ j + 1 := by rw [List.length_take]; omega
  omega
theorem kind_of_dir (h : (dirOf b).2 = 0) : kindOf b = 2 := by
  obtain ⟨h0, h1⟩ := dirOf_first h
  rw [kind_2 (by omega) (by rw [h1]; decide) (by rw [h1]; decide), if_pos h]
theorem kind_of_change (h : (changeOf b).2 = 0) : kindOf b = 3 := by
  obtain ⟨h0, h1⟩ := changeOf_first h
  rw [kind_3 (by omega) (by rw [h1]; decide) (by rw [h1]; decide) (by rw [h1]; decide), if_pos h]
theorem kind_of_label (h : (labelOf b).2 = 0) : kindOf b = 4 := by
  obtain ⟨h0, h1⟩ := labelOf_first h
  rw [kind_4 (by omega) (by rw [h1]; decide) (by rw [h1]; decide) (by rw [h1]; decide) (by rw [h1]; decide), if_pos h]
theorem kind4_ok (hk : kindOf b = 4) : (labelOf b).2 = 0 := by
  unfold kindOf at hk
  repeat' split at hk
  all_goals first
    | assumption
    | (exfalso; omega)
theorem linksR (hr : l.map ItemS.core = (dirOf b).1)
    (hx : ∀ y, y ∈ xs ↔ y ∈ rawTo (l.map ItemS.core) l.length ∨ ((changeOf b).2 = 0 ∧ (y = (changeOf b).1.tree ∨ y ∈ (changeOf b).1.parents ∨ y ∈ (changeOf b).1.ops.map (·.data))) ∨ ((labelOf b).2 = 0 ∧ y = (labelOf b).1.target)) : putAll [] xs = linksOf b := by
  refine putAll_eq fun y => ?_
  rw [hx]
  by_cases hd : (dirOf b).2 = 0
  · have hk := kind_of_dir hd
    have hc : ¬ (changeOf b).2 = 0 := fun h => by rw [kind_of_change h] at hk; cases hk
    have hl : ¬ (labelOf b).2 = 0 := fun h => by rw [kind_of_label h] at hk; cases hk
    have e : linksRaw b = rawTo (l.map ItemS.core) l.length := by
      rw [linksRaw, if_pos hk, ← hr, rawTo, List.take_of_length_le (by simp)]
    rw [e]
    simp [hc, hl]
  · have h0 : l.map ItemS.core = [] := by
      rw [hr]
      unfold dirOf at hd ⊢
      split at hd
      · exact absurd rfl hd
      · rename_i hh; rw [if_neg hh]
    have hk2 : ¬ kindOf b = 2 := fun h => hd (kind2_ok h)
    rw [h0]
    have e0 : rawTo [] l.length = [] := by simp [rawTo]
    rw [e0]
    by_cases hc : (changeOf b).2 = 0
    · have hk := kind_of_change hc
      have hl : ¬ (labelOf b).2 = 0 := fun h => by rw [kind_of_label h] at hk; cases hk
      rw [linksRaw, if_neg hk2, if_pos hk]
      simp only [List.not_mem_nil, false_or, hc, true_and, hl, false_and, or_false, List.mem_append, List.mem_singleton]
      constructor
      · rintro (h | h | h)
        · exact .inl (.inr h)
        · exact .inl (.inl h)
        · exact .inr h
      · rintro ((h | h) | h)
        · exact .inr (.inl h)
        · exact .inl h
        · exact .inr (.inr h)
    · have hk3 : ¬ kindOf b = 3 := fun h => hc (kind3_ok h)
      by_cases hl : (labelOf b).2 = 0
      · rw [linksRaw, if_neg hk2, if_neg hk3, if_pos (kind_of_label hl)]
        simp [hc, hl]
      · have hk4 : ¬ kindOf b = 4 := fun h => hl (kind4_ok h)
        rw [linksRaw, if_neg hk2, if_neg hk3, if_neg hk4]
        simp [hc, hl]
variable {i : Nat} {acc3 acc4 : List ID}
theorem rputs_par (h : acc3 = putAll (putL acc X.tree) (X.parents.take i)) (hi : i < X.parents.length) : putL acc3 (nth X.parents i) = putAll (putL acc X.tree) (X.parents.take (i + 1)) := by
  rw [h, take_snoc hi, putAll_snoc]
theorem rputs_op (h : acc4 = putAll acc3 ((X.ops.take i).map (·.data))) (hi : i < X.ops.length) : putL acc4 (nth X.ops i).data = putAll acc3 ((X.ops.take (i + 1)).map (·.data)) := by
  rw [h, take_snoc hi, List.map_append, List.map_singleton, putAll_snoc]
theorem rputs_chg (ha : acc = putAll [] (rawTo (l.map ItemS.core) k)) (hk : l.length ≤ k) (h3 : acc3 = putAll (putL acc X.tree) (X.parents.take i)) (hi : X.parents.length ≤ i) (h4 : acc4 = putAll acc3 ((X.ops.take j).map (·.data))) (hj : X.ops.length ≤ j) :
    acc4 = putAll [] (rawTo (l.map ItemS.core) l.length ++ (X.tree :: (X.parents ++ X.ops.map (·.data)))) := by
  have e : rawTo (l.map ItemS.core) k = rawTo (l.map ItemS.core) l.length := by
    unfold rawTo
    rw [List.take_of_length_le (by simpa using hk), List.take_of_length_le (by simp)]
  rw [h4, h3, ha, List.take_of_length_le hi, List.take_of_length_le hj, e, putAll_snoc, putAll_app, putAll_app]
  simp [List.append_assoc]
theorem rlinks_a (hr : l.map ItemS.core = (dirOf b).1) (hX : X.core = (changeOf b).1) (hB : ChangeB b = true) (h4 : acc4 = putAll [] (rawTo (l.map ItemS.core) l.length ++ (X.tree :: (X.parents ++ X.ops.map (·.data))))) (hl : (labelOf b).2 = 0) : putL acc4 (labelOf b).1.target = linksOf b := by
  exfalso
  have h1 := kind_of_change (of_decide_eq_true hB)
  rw [kind_of_label hl] at h1
  cases h1
theorem rlinks_b (hr : l.map ItemS.core = (dirOf b).1) (hX : X.core = (changeOf b).1) (hB : ChangeB b = true) (h4 : acc4 = putAll [] (rawTo (l.map ItemS.core) l.length ++ (X.tree :: (X.parents ++ X.ops.map (·.data))))) (hl : ¬ (labelOf b).2 = 0) : acc4 = linksOf b := by
  rw [h4]
  refine linksR hr fun y => ?_
  have hc : (changeOf b).2 = 0 := of_decide_eq_true hB
  have e1 : X.tree = (changeOf b).1.tree := congrArg ChangeC.tree hX
  have e2 : X.parents = (changeOf b).1.parents := congrArg ChangeC.parents hX
  have e3 : X.ops.map (·.data) = (changeOf b).1.ops.map (·.data) := by
    have := congrArg (fun c => c.ops.map (·.data)) hX
    simp only [ChangeS.core, List.map_map] at this
    exact this
  rw [e1, e2, e3]
  simp only [List.mem_append, List.mem_cons, hc, true_and, hl, false_and, or_false]
theorem rlinks_c (hr : l.map ItemS.core = (dirOf b).1) (hB : ChangeB b = false) (ha : acc = putAll [] (rawTo (l.map ItemS.core) k)) (hk : l.length ≤ k) (hl : (labelOf b).2 = 0) : putL acc (labelOf b).1.target = linksOf b := by
  have e : rawTo (l.map ItemS.core) k = rawTo (l.map ItemS.core) l.length := by
    unfold rawTo
    rw [List.take_of_length_le (by simpa using hk), List.take_of_length_le (by simp)]
  rw [ha, putAll_snoc, e]
  refine linksR hr fun y => ?_
  have hc : ¬ (changeOf b).2 = 0 := of_decide_eq_false hB
  simp only [List.mem_append, List.mem_singleton, hc, false_and, false_or, hl, true_and]
theorem rlinks_d (hr : l.map ItemS.core = (dirOf b).1) (hB : ChangeB b = false) (ha : acc = putAll [] (rawTo (l.map ItemS.core) k)) (hk : l.length ≤ k) (hl : ¬ (labelOf b).2 = 0) : acc = linksOf b := by
  have e : rawTo (l.map ItemS.core) k = rawTo (l.map ItemS.core) l.length := by
    unfold rawTo
    rw [List.take_of_length_le (by simpa using hk), List.take_of_length_le (by simp)]
  rw [ha, e]
  refine linksR hr fun y => ?_
  have hc : ¬ (changeOf b).2 = 0 := of_decide_eq_false hB
  simp only [hc, false_and, hl, or_false]
theorem rputs_len3 (h : acc3 = putAll (putL acc X.tree) (X.parents.take i)) : acc3.length ≤ acc.length + 1 + i := by
  have h1 := putAll_len (X.parents.take i) (putL acc X.tree)
  have h2 := putL_len acc X.tree
  have h3 : (X.parents.take i).length ≤ i := by rw [List.length_take]; omega
  rw [h]; omega
theorem rputs_len4 (h : acc4 = putAll acc3 ((X.ops.take j).map (·.data))) : acc4.length ≤ acc3.length + j := by
  have h1 := putAll_len ((X.ops.take j).map (·.data)) acc3
  have h3 : ((X.ops.take j).map (·.data)).length ≤ j := by rw [List.length_map, List.length_take]; omega
  rw [h]; omega
end
end Go.Proofs.YthjdhfoeckfmbaaGreat
/- The document's example of layer 4, in plain words. -/
namespace Go.Proofs.YthjdhfoeckfmbaaGreat
open Go
set_option linter.unusedVariables false
set_option linter.unusedSimpArgs false
set_option maxRecDepth 20000
def mkId (b : UInt8) : ID := ⟨#[b, 0, 0, 0, 0, 0, 0, 0, 0, 0, 0, 0, 0, 0, 0, 0, 0, 0, 0, 0, 0, 0, 0, 0, 0, 0, 0, 0, 0, 0, 0, 0], rfl⟩
def chg0 : ChangeS := { parents := [], ph := nilH, time := 1, r := 1, ops := [], oh := nilH, tree := mkId 9, msg := ByteArray.empty }
def item0 : ItemS := { node := ⟨1, 1⟩, tm := ⟨1, 1⟩, name := ⟨#[97]⟩, sub := zeroId, heads := [], hh := nilH }
def lab0 : Label := ⟨mkId 1, ⟨#[118]⟩, ByteArray.empty⟩
theorem numB_0 : numB 0 = [0] := by rw [numB, numGo_small (by decide)]; rfl
theorem numB_1 : numB 1 = [1] := by rw [numB, numGo_small (by decide)]; rfl
def z31 : List UInt8 := List.replicate 31 0
theorem chg_ok : changeOk chg0 = true := by decide
theorem chg_bytes : putChangeB chg0 = [3, 0, 1, 1, 0, 9] ++ z31 ++ [0] := by
  rw [putChangeB, if_pos chg_ok, changeB, opsTo, parTo, textB]
  show ((((([3] ++ numB 0) ++ [] ++ numB 1) ++ numB 1) ++ numB 0) ++ [] ++ idList (mkId 9)) ++ (numB 0 ++ []) = _
  rw [numB_0, numB_1]
  decide
theorem chg_kind : kindOf (putChangeB chg0) = 3 := by
  rw [chg_bytes]
  decide
theorem item_ok : dirOk [item0] = true := by decide
theorem item_bytes : putDirB [item0] = [2, 1, 1, 1, 1, 1, 1, 97, 0] ++ z31 ++ [0] := by
  rw [putDirB, if_pos item_ok, dirB, dirTo]
  show ([2] ++ numB 1) ++ [itemB item0].flatten = _
  rw [itemB, itemTo, atB, atB, textB]
  show ([2] ++ numB 1) ++ [((((([] : List UInt8) ++ (numB 1 ++ numB 1)) ++ (numB 1 ++ numB 1)) ++ (numB 1 ++ [97])) ++ idList zeroId ++ numB 0) ++ []].flatten = _
  rw [numB_0, numB_1]
  decide
theorem item_kind : kindOf (putDirB [item0]) = 2 := by
  rw [item_bytes]
  decide
theorem lab_ok : labelOk lab0 = true := by decide
theorem lab_bytes : putLabelB lab0 = [4, 1] ++ z31 ++ [1, 118, 0] := by
  rw [putLabelB, if_pos lab_ok, labelB, textB, textB]
  show (([4] ++ idList (mkId 1)) ++ (numB 1 ++ [118])) ++ (numB 0 ++ []) = _
  rw [numB_0, numB_1]
  decide
theorem lab_kind : kindOf (putLabelB lab0) = 4 := by
  rw [lab_bytes]
  decide
theorem chg_raw : linksRaw (putChangeB chg0) = [mkId 9] := by
  rw [linksRaw, if_neg (by rw [chg_kind]; decide), if_pos chg_kind, chg_bytes]
  decide
theorem chg_links : links1 (putChangeB chg0) = [mkId 9] := by
  rw [links1, chg_raw]
  decide
theorem chg_len : (((putChangeB chg0).length : Nat) : Int) = 38 := by rw [chg_bytes]; rfl
theorem chg_first : ((nth (putChangeB chg0) 0).toNat : Int) = 3 := by rw [chg_bytes]; rfl
theorem chg_ix : (0 : Int) < (((putChangeB chg0).length : Nat) : Int) := by rw [chg_len]; decide
theorem chg_ixn : 0 < (putChangeB chg0).length := by rw [chg_bytes]; decide
theorem chg_bound : (putChangeB chg0).length ≤ 140737488355328 := by rw [chg_bytes]; decide
theorem item_bound : (putDirB [item0]).length ≤ 140737488355328 := by rw [item_bytes]; decide
theorem lab_bound : (putLabelB lab0).length ≤ 140737488355328 := by rw [lab_bytes]; decide
theorem chg_raw1 : (linksRaw (putChangeB chg0)).length ≤ 1 := by rw [chg_raw]; decide
theorem chg_one : (((links1 (putChangeB chg0)).length : Nat) : Int) = 1 := by rw [chg_links]; rfl
/-! ### ObjBlobs -/
section
variable {b : List UInt8}
theorem pb_E (h : ¬ (4096 : Int) < ((b.length : Nat) : Int)) : putBlobE b = 0 := if_pos (by omega)
theorem pb_B (h : ¬ (4096 : Int) < ((b.length : Nat) : Int)) : putBlobB b = [1] ++ b := if_pos (by omega)
theorem pb_ok (h : ¬ (4096 : Int) < ((b.length : Nat) : Int)) : blobOk (putBlobB b) := by
  rw [pb_B h]
  exact ⟨by simp, rfl, by simp only [List.length_append, List.length_cons, List.length_nil]; omega⟩
theorem pb_E2 (h : ¬ (4096 : Int) < ((b.length : Nat) : Int)) : blobE (putBlobB b) = 0 := if_pos (pb_ok h)
theorem pb_B2 (h : ¬ (4096 : Int) < ((b.length : Nat) : Int)) : blobB (putBlobB b) = b := by
  rw [blobB, if_pos (pb_ok h), pb_B h]; rfl
theorem pb_K (h : ¬ (4096 : Int) < ((b.length : Nat) : Int)) : kindOf (putBlobB b) = 1 := by
  have h1 := pb_ok h
  rw [kindOf, if_neg (by have := h1.1; omega), if_pos h1.2.1, if_pos (pb_E2 h)]
theorem pb_len (h : ¬ (4096 : Int) < ((b.length : Nat) : Int)) : (putBlobB b).length ≤ 140737488355328 := by have := (pb_ok h).2.2; omega
theorem blobs_1 (h : (4096 : Int) < ((b.length : Nat) : Int)) : Value.bool (decide (putBlobE b = 2) && decide ((((putBlobB b).length : Nat) : Int) = 0)) = Value.bool true := by
  rw [putBlobE, putBlobB, if_neg (by omega), if_neg (by omega)]; rfl
theorem blobs_2 (h : ((b.length : Nat) : Int) = 0 ∨ ¬ ((nth b 0).toNat : Int) = 1) : Value.bool (decide (blobE b = 20) && decide ((((blobB b).length : Nat) : Int) = 0)) = Value.bool true := by
  have : ¬ blobOk b := fun ⟨h1, h2, h3⟩ => by omega
  rw [blobE, blobB, if_neg this, if_neg this]; rfl
theorem blobs_3 (h : ¬ ((b.length : Nat) : Int) = 0 ∧ ((nth b 0).toNat : Int) = 1) (h2 : ¬ (4096 : Int) < ((b.length : Nat) : Int)) : Value.bool (decide (blobE b = 0) && decide (blobB b = b.drop 1)) = Value.bool true := by
  have : blobOk b := ⟨by omega, by omega, by omega⟩
  rw [blobE, blobB, if_pos this, if_pos this]
  simp
end
end Go.Proofs.YthjdhfoeckfmbaaGreat
/- The statements on directories, commits and readings: the plain laws. -/
namespace Go.Proofs.YthjdhfoeckfmbaaGreat
open Go
set_option linter.unusedVariables false
set_option linter.unusedSimpArgs false
theorem chg_oneG : (((linksOf (putChangeB chg0)).length : Nat) : Int) = 1 := by
  rw [linksOf, chg_raw]
  rfl
section
variable {items l : List ItemS} {e : Int}
theorem dirs_no (h : dirOk items = false) : Value.bool (decide (putDirE items = 1) && decide ((((putDirB items).length : Nat) : Int) = 0)) = Value.bool true := by
  rw [putDirE, putDirB, h]; rfl
theorem dirs_len (h : dirOk items = true) : (putDirB items).length ≤ 140737488355328 := by
  have h1 := dir_lens h
  have h2 : ∀ l : List ItemS, (∀ x ∈ l, x.name.size ≤ 60 ∧ x.heads.length ≤ 1000) → ((l.map itemB).flatten).length ≤ 51000 * l.length := by
    intro l
    induction l with
    | nil => intro _; simp
    | cons x l ih =>
      intro hx
      have a := itemB_len (hx x (by simp))
      have b := ih (fun y hy => hx y (by simp [hy]))
      simp only [List.map_cons, List.flatten_cons, List.length_append, List.length_cons]
      omega
  have h3 := h2 items h1.2
  have h4 := numB_len ((items.length : Nat) : Int)
  rw [putDirB, if_pos h, dirB, dirTo, List.take_length]
  simp only [List.length_append, List.length_cons, List.length_nil]
  omega
theorem dirs_bytes (h : dirOk items = true) : putDirB items = dirB items := if_pos h
theorem dirs_e (h : dirOk items = true) (hr : (l.map ItemS.core, e) = dirOf (putDirB items)) : e = 0 := by
  rw [dirOf_put h] at hr; exact congrArg Prod.snd hr
theorem dirs_same (h : dirOk items = true) (hr : (l.map ItemS.core, e) = dirOf (putDirB items)) : l.map ItemS.core = items.map ItemS.core := by
  rw [dirOf_put h] at hr; exact congrArg Prod.fst hr
theorem dirs_kind (h : dirOk items = true) : kindOf (putDirB items) = 2 := kind_of_dir (by rw [dirOf_put h])
end
section
variable {c X : ChangeS} {e : Int}
theorem chgs_no (h : changeOk c = false) : Value.bool (decide (putChangeE c = 1) && decide ((((putChangeB c).length : Nat) : Int) = 0)) = Value.bool true := by
  rw [putChangeE, putChangeB, h]; rfl
theorem chgs_e (h : changeOk c = true) (hr : (X.core, e) = changeOf (putChangeB c)) : e = 0 := by
  rw [changeOf_put h] at hr; exact congrArg Prod.snd hr
theorem chgs_same (h : changeOk c = true) (hr : (X.core, e) = changeOf (putChangeB c)) : X.core = c.core := by
  rw [changeOf_put h] at hr; exact congrArg Prod.fst hr
theorem chgs_kind (h : changeOk c = true) : kindOf (putChangeB c) = 3 := kind_of_change (by rw [changeOf_put h])
theorem chgs_len (h : changeOk c = true) : (putChangeB c).length ≤ 140737488355328 := by have := (chB_len h).2; omega
end
section
variable {b : List UInt8} {l l2 : List ItemS} {X Y : ChangeS} {e : Int}
theorem reads_d (hr : (l.map ItemS.core, e) = dirOf b) : (!decide (decide (e = 0) = DirB b)) = false := by
  unfold DirB
  rw [← hr]; simp
theorem reads_c (hr : (X.core, e) = changeOf b) : (!decide (decide (e = 0) = ChangeB b)) = false := by
  unfold ChangeB
  rw [← hr]; simp
theorem reads_sd (hr : (l.map ItemS.core, e) = dirOf b) (h2 : l2.map ItemS.core = (dirOf b).1) : l.map ItemS.core = l2.map ItemS.core := by rw [h2, ← hr]
theorem reads_sc (hr : (X.core, e) = changeOf b) (h2 : Y.core = (changeOf b).1) : X.core = Y.core := by rw [h2, ← hr]
end
end Go.Proofs.YthjdhfoeckfmbaaGreat
namespace Go.Proofs.YthjdhfoeckfmbaaGreat
open Go
set_option maxRecDepth 100000
set_option linter.unusedVariables false
set_option linter.unusedSimpArgs false
set_option linter.unusedSectionVars false
theorem law04_alive_c10 : callable Tryz.prog 10 = true := by kernel_rfl
theorem law04_alive_c14 : callable Tryz.prog 14 = true := by kernel_rfl
theorem law04_alive_c15 : callable Tryz.prog 15 = true := by kernel_rfl
theorem law04_alive_c21 : callable Tryz.prog 21 = true := by kernel_rfl
theorem law04_alive_c23 : callable Tryz.prog 23 = true := by kernel_rfl
theorem law04_alive_c28 : callable Tryz.prog 28 = true := by kernel_rfl
set_option maxHeartbeats 4000000 in
theorem law04_alive  (w : World) :
    Calls Tryz.prog 9 #[] w (Ret fun v w' => v = (.bool true) ∧ Ext w w') := by
 refine calls_W Tryz.func9 rfl Tryz.ntmps9 rfl ?_
 have H0 := Ctx.start w nob
 refine W_seq (W_reg ?_)
 refine O_v rfl (R_assign (v := (.bool false)) rfl ?_)
 refine O_nil (Then_n (W_seq (W_reg ?_)))
 refine O_v rfl (C_buildSliceL H0 (enc := encB) (val := byteV) ([97, 98] : List UInt8) Tryz.underlying22 Tryz.sizeOf5 Tryz.zeroValue5 rfl (by decide) (fun _ => rfl) (fun _ => rfl) rfl rfl (by decide) ?_)
 intro b1 w2 hb3 hx4 H5
 refine O_v rfl (C_convBB H5 0 rfl Tryz.underlying22 Tryz.underlying5 rfl (by decide) ?_)
 intro w6 hg7 H8
 refine O_v rfl (R_callL (vs := [(slV ⟨some ⟨b1, 0, none⟩, b1, 0, 2⟩ ([97, 98] : List UInt8))]) law04_alive_c10 rfl rfl ((obj_PutBlob ⟨some ⟨b1, 0, none⟩, b1, 0, 2⟩ ([97, 98] : List UInt8) w6 (H8.slOld 0 rfl)).ret ?_))
 rintro _ w10 ⟨h9, rfl, hx11, ho12⟩
 have H13 := H8.addRow hx11 ho12
 refine O_v rfl (R_move (v := (.tuple #[(slV h9 (putBlobB ([97, 98] : List UInt8))), (.int .i64 (putBlobE ([97, 98] : List UInt8)))])) rfl ?_)
 refine O_v rfl (R_extract (v := (slV h9 (putBlobB ([97, 98] : List UInt8)))) rfl rfl ?_)
 refine O_v rfl (R_extract (v := (.int .i64 (putBlobE ([97, 98] : List UInt8)))) rfl rfl ?_)
 refine O_v rfl (R_assign (v := (slV h9 (putBlobB ([97, 98] : List UInt8)))) rfl ?_)
 refine O_v rfl (R_assign (v := (.int .i64 (putBlobE ([97, 98] : List UInt8)))) rfl ?_)
 refine O_nil (Then_n (W_seq (W_reg ?_)))
 refine O_v rfl (R_buildL (vs := [(0, (.int .u8 9))]) (v := aggOf [(idCells (mkId 9))]) rfl (fun _ => by kernel_rfl) ?_)
 refine O_v rfl (R_buildL (vs := [(1, (.int .i64 1)), (2, (.int .i64 1)), (4, (aggOf (idCh (mkId 9))))]) (v := aggOf [[(.slice none 0 0)], [(.int .i64 1)], [(.int .i64 1)], [(.slice none 0 0)], (idCells (mkId 9)), [(.string ByteArray.empty)]]) rfl (fun _ => by kernel_rfl) ?_)
 refine O_v rfl (R_callL (vs := [(aggOf [[(.slice none 0 0)], [(.int .i64 1)], [(.int .i64 1)], [(.slice none 0 0)], (idCells (mkId 9)), [(.string ByteArray.empty)]])]) law04_alive_c23 rfl rfl ((obj_PutChange ({ parents := [], ph := nilH, time := 1, r := 1, ops := [], oh := nilH, tree := (mkId 9), msg := ByteArray.empty } : ChangeS) w10 (Sl.nil _ _ _ _) (Sl.nil _ _ _ _) (fun _ hx => (nomatch hx))).ret ?_))
 rintro _ w15 ⟨h14, rfl, hx16, ho17⟩
 have H18 := H13.addRow hx16 ho17
 refine O_v rfl (R_move (v := (.tuple #[(slV h14 (putChangeB ({ parents := [], ph := nilH, time := 1, r := 1, ops := [], oh := nilH, tree := (mkId 9), msg := ByteArray.empty } : ChangeS))), (.int .i64 (putChangeE ({ parents := [], ph := nilH, time := 1, r := 1, ops := [], oh := nilH, tree := (mkId 9), msg := ByteArray.empty } : ChangeS)))])) rfl ?_)
 refine O_v rfl (R_extract (v := (slV h14 (putChangeB ({ parents := [], ph := nilH, time := 1, r := 1, ops := [], oh := nilH, tree := (mkId 9), msg := ByteArray.empty } : ChangeS)))) rfl rfl ?_)
 refine O_v rfl (R_extract (v := (.int .i64 (putChangeE ({ parents := [], ph := nilH, time := 1, r := 1, ops := [], oh := nilH, tree := (mkId 9), msg := ByteArray.empty } : ChangeS)))) rfl rfl ?_)
 refine O_v rfl (R_assign (v := (slV h14 (putChangeB ({ parents := [], ph := nilH, time := 1, r := 1, ops := [], oh := nilH, tree := (mkId 9), msg := ByteArray.empty } : ChangeS)))) rfl ?_)
 refine O_v rfl (R_assign (v := (.int .i64 (putChangeE ({ parents := [], ph := nilH, time := 1, r := 1, ops := [], oh := nilH, tree := (mkId 9), msg := ByteArray.empty } : ChangeS)))) rfl ?_)
 refine O_nil (Then_n (W_seq (W_reg ?_)))
 refine O_v rfl (R_buildL (vs := [(0, (.int .i64 1)), (1, (.int .i64 1))]) (v := aggOf [[(.int .i64 1)], [(.int .i64 1)]]) rfl (fun _ => by kernel_rfl) ?_)
 refine O_v rfl (R_buildL (vs := [(0, (.int .i64 1)), (1, (.int .i64 1))]) (v := aggOf [[(.int .i64 1)], [(.int .i64 1)]]) rfl (fun _ => by kernel_rfl) ?_)
 refine O_v rfl (R_buildL (vs := [(0, (aggOf [[(.int .i64 1)], [(.int .i64 1)]])), (1, (aggOf [[(.int .i64 1)], [(.int .i64 1)]])), (2, (.string (⟨#[97]⟩ : ByteArray)))]) (v := aggOf [[(.int .i64 1)], [(.int .i64 1)], [(.int .i64 1)], [(.int .i64 1)], [(.string (⟨#[97]⟩ : ByteArray))], (idCells zeroId), [(.slice none 0 0)]]) rfl (fun _ => by kernel_rfl) ?_)
 refine O_v rfl (C_buildSliceL H18 (enc := itemCh) (val := itemV) ([({ node := ({ T := 1, R := 1 } : Stamp), tm := ({ T := 1, R := 1 } : Stamp), name := (⟨#[97]⟩ : ByteArray), sub := zeroId, heads := [], hh := nilH } : ItemS)] : List ItemS) Tryz.underlying31 Tryz.sizeOf77 Tryz.zeroValue77 rfl (by decide) (fun _ => rfl) (fun _ => rfl) rfl rfl (by decide) ?_)
 intro b19 w20 hb21 hx22 H23
 refine O_v rfl (R_callL (vs := [(slV ⟨some ⟨b19, 0, none⟩, b19, 0, 1⟩ ([({ node := ({ T := 1, R := 1 } : Stamp), tm := ({ T := 1, R := 1 } : Stamp), name := (⟨#[97]⟩ : ByteArray), sub := zeroId, heads := [], hh := nilH } : ItemS)] : List ItemS))]) law04_alive_c15 rfl rfl ((obj_PutDir ⟨some ⟨b19, 0, none⟩, b19, 0, 1⟩ ([({ node := ({ T := 1, R := 1 } : Stamp), tm := ({ T := 1, R := 1 } : Stamp), name := (⟨#[97]⟩ : ByteArray), sub := zeroId, heads := [], hh := nilH } : ItemS)] : List ItemS) w20 (H23.rowSl 0 rfl (fun _ => rfl)) (deep1 (Sl.nil _ _ _ _))).ret ?_))
 rintro _ w25 ⟨h24, rfl, hx26, ho27⟩
 have H28 := H23.addRow hx26 ho27
 refine O_v rfl (R_move (v := (.tuple #[(slV h24 (putDirB ([({ node := ({ T := 1, R := 1 } : Stamp), tm := ({ T := 1, R := 1 } : Stamp), name := (⟨#[97]⟩ : ByteArray), sub := zeroId, heads := [], hh := nilH } : ItemS)] : List ItemS))), (.int .i64 (putDirE ([({ node := ({ T := 1, R := 1 } : Stamp), tm := ({ T := 1, R := 1 } : Stamp), name := (⟨#[97]⟩ : ByteArray), sub := zeroId, heads := [], hh := nilH } : ItemS)] : List ItemS)))])) rfl ?_)
 refine O_v rfl (R_extract (v := (slV h24 (putDirB ([({ node := ({ T := 1, R := 1 } : Stamp), tm := ({ T := 1, R := 1 } : Stamp), name := (⟨#[97]⟩ : ByteArray), sub := zeroId, heads := [], hh := nilH } : ItemS)] : List ItemS)))) rfl rfl ?_)
 refine O_v rfl (R_extract (v := (.int .i64 (putDirE ([({ node := ({ T := 1, R := 1 } : Stamp), tm := ({ T := 1, R := 1 } : Stamp), name := (⟨#[97]⟩ : ByteArray), sub := zeroId, heads := [], hh := nilH } : ItemS)] : List ItemS)))) rfl rfl ?_)
 refine O_v rfl (R_assign (v := (slV h24 (putDirB ([({ node := ({ T := 1, R := 1 } : Stamp), tm := ({ T := 1, R := 1 } : Stamp), name := (⟨#[97]⟩ : ByteArray), sub := zeroId, heads := [], hh := nilH } : ItemS)] : List ItemS)))) rfl ?_)
 refine O_v rfl (R_assign (v := (.int .i64 (putDirE ([({ node := ({ T := 1, R := 1 } : Stamp), tm := ({ T := 1, R := 1 } : Stamp), name := (⟨#[97]⟩ : ByteArray), sub := zeroId, heads := [], hh := nilH } : ItemS)] : List ItemS)))) rfl ?_)
 refine O_nil (Then_n (W_seq (W_reg ?_)))
 refine O_v rfl (R_buildL (vs := [(0, (.int .u8 1))]) (v := aggOf [(idCells (mkId 1))]) rfl (fun _ => by kernel_rfl) ?_)
 refine O_v rfl (R_buildL (vs := [(0, (aggOf (idCh (mkId 1)))), (1, (.string (⟨#[118]⟩ : ByteArray)))]) (v := aggOf [(idCells (mkId 1)), [(.string (⟨#[118]⟩ : ByteArray))], [(.string ByteArray.empty)]]) rfl (fun _ => by kernel_rfl) ?_)
 refine O_v rfl (R_callL (vs := [(aggOf [(idCells (mkId 1)), [(.string (⟨#[118]⟩ : ByteArray))], [(.string ByteArray.empty)]])]) law04_alive_c28 rfl rfl ((obj_PutLabel ({ target := (mkId 1), name := (⟨#[118]⟩ : ByteArray), msg := ByteArray.empty } : Label) w25 ).ret ?_))
 rintro _ w30 ⟨h29, rfl, hx31, ho32⟩
 have H33 := H28.addRow hx31 ho32
 refine O_v rfl (R_move (v := (.tuple #[(slV h29 (putLabelB ({ target := (mkId 1), name := (⟨#[118]⟩ : ByteArray), msg := ByteArray.empty } : Label))), (.int .i64 (putLabelE ({ target := (mkId 1), name := (⟨#[118]⟩ : ByteArray), msg := ByteArray.empty } : Label)))])) rfl ?_)
 refine O_v rfl (R_extract (v := (slV h29 (putLabelB ({ target := (mkId 1), name := (⟨#[118]⟩ : ByteArray), msg := ByteArray.empty } : Label)))) rfl rfl ?_)
 refine O_v rfl (R_extract (v := (.int .i64 (putLabelE ({ target := (mkId 1), name := (⟨#[118]⟩ : ByteArray), msg := ByteArray.empty } : Label)))) rfl rfl ?_)
 refine O_v rfl (R_assign (v := (slV h29 (putLabelB ({ target := (mkId 1), name := (⟨#[118]⟩ : ByteArray), msg := ByteArray.empty } : Label)))) rfl ?_)
 refine O_v rfl (R_assign (v := (.int .i64 (putLabelE ({ target := (mkId 1), name := (⟨#[118]⟩ : ByteArray), msg := ByteArray.empty } : Label)))) rfl ?_)
 refine O_nil (Then_n (W_seq ?_))
 refine W_rg [(0, .q 0), (1, .q 0), (2, .q 0), (3, .q 0), (4, .q 0), (5, .q 0), (6, .q 0), (7, .q 0), (8, .q 0), (9, .q 0), (10, .q 0), (11, .q 0), (12, .q 0), (13, .q 0), (14, .q 0), (15, .q 0), (16, .q 0), (17, .q 0), (18, .q 0), (19, .q 0), (20, .q 0), (21, .q 0), (22, .q 0), (23, .q 0), (24, .q 0), (25, .q 0), (26, .q 0), (27, .q 0), (28, .q 0), (29, .q 0), (30, .q 0), (31, .q 0), (32, .q 0), (33, .q 0), (34, .q 0), (35, .q 0), (36, .q 0), (37, .q 0), (38, .q 0), (39, .q 0), (40, .q 0), (41, .q 0), (42, .q 0), (43, .q 0), (44, .q 0), (45, .q 0), (46, .q 0), (47, .c 0), (48, .q 0), (49, .q 0), (50, .q 0), (51, .q 0)] (by kernel_rfl) ?_
 refine Lx_q (i := 0) rfl rfl _ (fun v34 hv35 => R_move (v := (.int .i64 (putBlobE ([97, 98] : List UInt8)))) rfl ⟨rfl, Gr.refl _ _⟩) ?_
 refine Lx_q (i := 1) rfl rfl (.bool true) (fun v36 hv37 => R_cmp (a := putBlobE ([97, 98] : List UInt8)) (b := 0) (r := (decide (putBlobE ([97, 98] : List UInt8) = 0))) rfl rfl rfl ⟨(boolK (by decide)), Gr.refl _ _⟩) ?_
 refine Lx_q (i := 2) rfl rfl _ (fun v38 hv39 => R_move (v := (.bool true)) rfl ⟨rfl, Gr.refl _ _⟩) ?_
 refine Lx_qT (i := 3) rfl rfl rfl rfl rfl _ (fun v40 hv41 => R_move (v := (slV h9 (putBlobB ([97, 98] : List UInt8)))) rfl ⟨rfl, Gr.refl _ _⟩) ?_
 refine Lx_qT (i := 4) rfl rfl rfl rfl rfl _ (fun v42 hv43 => R_conv_bs (l := putBlobB ([97, 98] : List UInt8)) Tryz.underlying22 Tryz.underlying5 Tryz.underlying9 (OwnS.sl ((H33.ext hv43).getOwn 4 rfl) (fun _ => rfl)) rfl ⟨rfl, Gr.refl _ _⟩) ?_
 refine Lx_qT (i := 5) rfl rfl rfl rfl rfl (.bool true) (fun v44 hv45 => R_cmpS (a := (⟨(putBlobB ([97, 98] : List UInt8)).toArray⟩ : ByteArray)) (b := (⟨#[1, 97, 98]⟩ : ByteArray)) (r := (decide ((⟨(putBlobB ([97, 98] : List UInt8)).toArray⟩ : ByteArray) = (⟨#[1, 97, 98]⟩ : ByteArray)))) rfl rfl rfl ⟨(boolK (by decide)), Gr.refl _ _⟩) ?_
 refine Lx_q (i := 6) rfl rfl _ (fun v46 hv47 => R_pick (t := true) (v := (.bool true)) rfl rfl ⟨rfl, Gr.refl _ _⟩) ?_
 refine Lx_q (i := 7) rfl rfl _ (fun v48 hv49 => R_move (v := (.bool true)) rfl ⟨rfl, Gr.refl _ _⟩) ?_
 refine Lx_qT (i := 8) rfl rfl rfl rfl rfl _ (fun v50 hv51 => R_move (v := (.int .i64 (putChangeE ({ parents := [], ph := nilH, time := 1, r := 1, ops := [], oh := nilH, tree := (mkId 9), msg := ByteArray.empty } : ChangeS)))) rfl ⟨rfl, Gr.refl _ _⟩) ?_
 refine Lx_qT (i := 9) rfl rfl rfl rfl rfl (.bool true) (fun v52 hv53 => R_cmp (a := putChangeE ({ parents := [], ph := nilH, time := 1, r := 1, ops := [], oh := nilH, tree := (mkId 9), msg := ByteArray.empty } : ChangeS)) (b := 0) (r := (decide (putChangeE ({ parents := [], ph := nilH, time := 1, r := 1, ops := [], oh := nilH, tree := (mkId 9), msg := ByteArray.empty } : ChangeS) = 0))) rfl rfl rfl ⟨(boolK (decide_eq_true (if_pos chg_ok))), Gr.refl _ _⟩) ?_
 refine Lx_q (i := 10) rfl rfl _ (fun v54 hv55 => R_pick (t := true) (v := (.bool true)) rfl rfl ⟨rfl, Gr.refl _ _⟩) ?_
 refine Lx_q (i := 11) rfl rfl _ (fun v56 hv57 => R_move (v := (.bool true)) rfl ⟨rfl, Gr.refl _ _⟩) ?_
 refine Lx_qT (i := 12) rfl rfl rfl rfl rfl _ (fun v58 hv59 => R_move (v := (slV h14 (putChangeB ({ parents := [], ph := nilH, time := 1, r := 1, ops := [], oh := nilH, tree := (mkId 9), msg := ByteArray.empty } : ChangeS)))) rfl ⟨rfl, Gr.refl _ _⟩) ?_
 refine Lx_qT (i := 13) rfl rfl rfl rfl rfl _ (fun v60 hv61 => R_len_slice (a := h14.a) (n := (putChangeB ({ parents := [], ph := nilH, time := 1, r := 1, ops := [], oh := nilH, tree := (mkId 9), msg := ByteArray.empty } : ChangeS)).length) (c := h14.c) Tryz.underlying22 rfl ⟨rfl, Gr.refl _ _⟩) ?_
 refine Lx_qT (i := 14) rfl rfl rfl rfl rfl (.bool true) (fun v62 hv63 => R_cmp (a := (((putChangeB ({ parents := [], ph := nilH, time := 1, r := 1, ops := [], oh := nilH, tree := (mkId 9), msg := ByteArray.empty } : ChangeS)).length : Nat) : Int)) (b := 38) (r := (decide ((((putChangeB ({ parents := [], ph := nilH, time := 1, r := 1, ops := [], oh := nilH, tree := (mkId 9), msg := ByteArray.empty } : ChangeS)).length : Nat) : Int) = 38))) rfl rfl rfl ⟨(boolK (decide_eq_true chg_len)), Gr.refl _ _⟩) ?_
 refine Lx_q (i := 15) rfl rfl _ (fun v64 hv65 => R_pick (t := true) (v := (.bool true)) rfl rfl ⟨rfl, Gr.refl _ _⟩) ?_
 refine Lx_q (i := 16) rfl rfl _ (fun v66 hv67 => R_move (v := (.bool true)) rfl ⟨rfl, Gr.refl _ _⟩) ?_
 refine Lx_qT (i := 17) rfl rfl rfl rfl rfl _ (fun v68 hv69 => R_move (v := (slV h14 (putChangeB ({ parents := [], ph := nilH, time := 1, r := 1, ops := [], oh := nilH, tree := (mkId 9), msg := ByteArray.empty } : ChangeS)))) rfl ⟨rfl, Gr.refl _ _⟩) ?_
 refine Lx_qT (i := 18) rfl rfl rfl rfl rfl _ (fun v70 hv71 => R_index_pure (OwnS.sl (H33.getOwn 3 rfl) (fun _ => rfl)) (n := (putChangeB ({ parents := [], ph := nilH, time := 1, r := 1, ops := [], oh := nilH, tree := (mkId 9), msg := ByteArray.empty } : ChangeS)).length) rfl (j := 0) (oo := (h14.o + 0 * 1)) Tryz.underlying22 Tryz.sizeOf5 rfl rfl (by omega) chg_ix rfl ⟨rfl, Gr.refl _ _⟩) ?_
 refine Lx_qT (i := 19) rfl rfl rfl rfl rfl _ (fun v72 hv73 => R_load1 (v := (.int .u8 ((nth (putChangeB ({ parents := [], ph := nilH, time := 1, r := 1, ops := [], oh := nilH, tree := (mkId 9), msg := ByteArray.empty } : ChangeS)) 0).toNat : Int))) Tryz.isAgg5 rfl ((Sl.elem (OwnS.sl ((H33.ext hv73).getOwn 3 rfl) (fun _ => rfl)) (i := 0) chg_ixn rfl).chunks 0 1 0 (h14.o + 0 * 1) _ rfl rfl rfl) ⟨rfl, Gr.refl _ _⟩) ?_
 refine Lx_qT (i := 20) rfl rfl rfl rfl rfl (.bool true) (fun v74 hv75 => R_cmp (a := ((nth (putChangeB ({ parents := [], ph := nilH, time := 1, r := 1, ops := [], oh := nilH, tree := (mkId 9), msg := ByteArray.empty } : ChangeS)) 0).toNat : Int)) (b := 3) (r := (decide (((nth (putChangeB ({ parents := [], ph := nilH, time := 1, r := 1, ops := [], oh := nilH, tree := (mkId 9), msg := ByteArray.empty } : ChangeS)) 0).toNat : Int) = 3))) rfl rfl rfl ⟨(boolK (decide_eq_true chg_first)), Gr.refl _ _⟩) ?_
 refine Lx_q (i := 21) rfl rfl _ (fun v76 hv77 => R_pick (t := true) (v := (.bool true)) rfl rfl ⟨rfl, Gr.refl _ _⟩) ?_
 refine Lx_q (i := 22) rfl rfl _ (fun v78 hv79 => R_move (v := (.bool true)) rfl ⟨rfl, Gr.refl _ _⟩) ?_
 refine Lx_qT (i := 23) rfl rfl rfl rfl rfl _ (fun v80 hv81 => R_move (v := (.int .i64 (putDirE ([({ node := ({ T := 1, R := 1 } : Stamp), tm := ({ T := 1, R := 1 } : Stamp), name := (⟨#[97]⟩ : ByteArray), sub := zeroId, heads := [], hh := nilH } : ItemS)] : List ItemS)))) rfl ⟨rfl, Gr.refl _ _⟩) ?_
 refine Lx_qT (i := 24) rfl rfl rfl rfl rfl (.bool true) (fun v82 hv83 => R_cmp (a := putDirE ([({ node := ({ T := 1, R := 1 } : Stamp), tm := ({ T := 1, R := 1 } : Stamp), name := (⟨#[97]⟩ : ByteArray), sub := zeroId, heads := [], hh := nilH } : ItemS)] : List ItemS)) (b := 0) (r := (decide (putDirE ([({ node := ({ T := 1, R := 1 } : Stamp), tm := ({ T := 1, R := 1 } : Stamp), name := (⟨#[97]⟩ : ByteArray), sub := zeroId, heads := [], hh := nilH } : ItemS)] : List ItemS) = 0))) rfl rfl rfl ⟨(boolK (decide_eq_true (if_pos item_ok))), Gr.refl _ _⟩) ?_
 refine Lx_q (i := 25) rfl rfl _ (fun v84 hv85 => R_pick (t := true) (v := (.bool true)) rfl rfl ⟨rfl, Gr.refl _ _⟩) ?_
 refine Lx_q (i := 26) rfl rfl _ (fun v86 hv87 => R_move (v := (.bool true)) rfl ⟨rfl, Gr.refl _ _⟩) ?_
 refine Lx_qT (i := 27) rfl rfl rfl rfl rfl _ (fun v88 hv89 => R_move (v := (slV h24 (putDirB ([({ node := ({ T := 1, R := 1 } : Stamp), tm := ({ T := 1, R := 1 } : Stamp), name := (⟨#[97]⟩ : ByteArray), sub := zeroId, heads := [], hh := nilH } : ItemS)] : List ItemS)))) rfl ⟨rfl, Gr.refl _ _⟩) ?_
 refine Lx_qT (i := 28) rfl rfl rfl rfl rfl (.int .i64 (kindOf (putDirB ([({ node := ({ T := 1, R := 1 } : Stamp), tm := ({ T := 1, R := 1 } : Stamp), name := (⟨#[97]⟩ : ByteArray), sub := zeroId, heads := [], hh := nilH } : ItemS)] : List ItemS)))) (fun v90 hv91 => R_callL (vs := [(slV h24 (putDirB ([({ node := ({ T := 1, R := 1 } : Stamp), tm := ({ T := 1, R := 1 } : Stamp), name := (⟨#[97]⟩ : ByteArray), sub := zeroId, heads := [], hh := nilH } : ItemS)] : List ItemS)))]) law04_alive_c14 rfl rfl (obj_Kind h24 (putDirB ([({ node := ({ T := 1, R := 1 } : Stamp), tm := ({ T := 1, R := 1 } : Stamp), name := (⟨#[97]⟩ : ByteArray), sub := zeroId, heads := [], hh := nilH } : ItemS)] : List ItemS)) v90 ((H33.ext hv91).rowSl 1 rfl (fun _ => rfl)) item_bound)) ?_
 refine Lx_qT (i := 29) rfl rfl rfl rfl rfl (.bool true) (fun v92 hv93 => R_cmp (a := kindOf (putDirB ([({ node := ({ T := 1, R := 1 } : Stamp), tm := ({ T := 1, R := 1 } : Stamp), name := (⟨#[97]⟩ : ByteArray), sub := zeroId, heads := [], hh := nilH } : ItemS)] : List ItemS))) (b := 2) (r := (decide (kindOf (putDirB ([({ node := ({ T := 1, R := 1 } : Stamp), tm := ({ T := 1, R := 1 } : Stamp), name := (⟨#[97]⟩ : ByteArray), sub := zeroId, heads := [], hh := nilH } : ItemS)] : List ItemS)) = 2))) rfl rfl rfl ⟨(boolK (decide_eq_true item_kind)), Gr.refl _ _⟩) ?_
 refine Lx_q (i := 30) rfl rfl _ (fun v94 hv95 => R_pick (t := true) (v := (.bool true)) rfl rfl ⟨rfl, Gr.refl _ _⟩) ?_
 refine Lx_q (i := 31) rfl rfl _ (fun v96 hv97 => R_move (v := (.bool true)) rfl ⟨rfl, Gr.refl _ _⟩) ?_
 refine Lx_qT (i := 32) rfl rfl rfl rfl rfl _ (fun v98 hv99 => R_move (v := (.int .i64 (putLabelE ({ target := (mkId 1), name := (⟨#[118]⟩ : ByteArray), msg := ByteArray.empty } : Label)))) rfl ⟨rfl, Gr.refl _ _⟩) ?_
 refine Lx_qT (i := 33) rfl rfl rfl rfl rfl (.bool true) (fun v100 hv101 => R_cmp (a := putLabelE ({ target := (mkId 1), name := (⟨#[118]⟩ : ByteArray), msg := ByteArray.empty } : Label)) (b := 0) (r := (decide (putLabelE ({ target := (mkId 1), name := (⟨#[118]⟩ : ByteArray), msg := ByteArray.empty } : Label) = 0))) rfl rfl rfl ⟨(boolK (decide_eq_true (if_pos lab_ok))), Gr.refl _ _⟩) ?_
 refine Lx_q (i := 34) rfl rfl _ (fun v102 hv103 => R_pick (t := true) (v := (.bool true)) rfl rfl ⟨rfl, Gr.refl _ _⟩) ?_
 refine Lx_q (i := 35) rfl rfl _ (fun v104 hv105 => R_move (v := (.bool true)) rfl ⟨rfl, Gr.refl _ _⟩) ?_
 refine Lx_qT (i := 36) rfl rfl rfl rfl rfl _ (fun v106 hv107 => R_move (v := (slV h29 (putLabelB ({ target := (mkId 1), name := (⟨#[118]⟩ : ByteArray), msg := ByteArray.empty } : Label)))) rfl ⟨rfl, Gr.refl _ _⟩) ?_
 refine Lx_qT (i := 37) rfl rfl rfl rfl rfl (.int .i64 (kindOf (putLabelB ({ target := (mkId 1), name := (⟨#[118]⟩ : ByteArray), msg := ByteArray.empty } : Label)))) (fun v108 hv109 => R_callL (vs := [(slV h29 (putLabelB ({ target := (mkId 1), name := (⟨#[118]⟩ : ByteArray), msg := ByteArray.empty } : Label)))]) law04_alive_c14 rfl rfl (obj_Kind h29 (putLabelB ({ target := (mkId 1), name := (⟨#[118]⟩ : ByteArray), msg := ByteArray.empty } : Label)) v108 ((H33.ext hv109).rowSl 0 rfl (fun _ => rfl)) lab_bound)) ?_
 refine Lx_qT (i := 38) rfl rfl rfl rfl rfl (.bool true) (fun v110 hv111 => R_cmp (a := kindOf (putLabelB ({ target := (mkId 1), name := (⟨#[118]⟩ : ByteArray), msg := ByteArray.empty } : Label))) (b := 4) (r := (decide (kindOf (putLabelB ({ target := (mkId 1), name := (⟨#[118]⟩ : ByteArray), msg := ByteArray.empty } : Label)) = 4))) rfl rfl rfl ⟨(boolK (decide_eq_true lab_kind)), Gr.refl _ _⟩) ?_
 refine Lx_q (i := 39) rfl rfl _ (fun v112 hv113 => R_pick (t := true) (v := (.bool true)) rfl rfl ⟨rfl, Gr.refl _ _⟩) ?_
 refine Lx_q (i := 40) rfl rfl _ (fun v114 hv115 => R_move (v := (.bool true)) rfl ⟨rfl, Gr.refl _ _⟩) ?_
 refine Lx_qT (i := 41) rfl rfl rfl rfl rfl _ (fun v116 hv117 => R_move (v := (slV h14 (putChangeB ({ parents := [], ph := nilH, time := 1, r := 1, ops := [], oh := nilH, tree := (mkId 9), msg := ByteArray.empty } : ChangeS)))) rfl ⟨rfl, Gr.refl _ _⟩) ?_
 refine Lx_qT (i := 42) rfl rfl rfl rfl rfl (.int .i64 (kindOf (putChangeB ({ parents := [], ph := nilH, time := 1, r := 1, ops := [], oh := nilH, tree := (mkId 9), msg := ByteArray.empty } : ChangeS)))) (fun v118 hv119 => R_callL (vs := [(slV h14 (putChangeB ({ parents := [], ph := nilH, time := 1, r := 1, ops := [], oh := nilH, tree := (mkId 9), msg := ByteArray.empty } : ChangeS)))]) law04_alive_c14 rfl rfl (obj_Kind h14 (putChangeB ({ parents := [], ph := nilH, time := 1, r := 1, ops := [], oh := nilH, tree := (mkId 9), msg := ByteArray.empty } : ChangeS)) v118 ((H33.ext hv119).rowSl 3 rfl (fun _ => rfl)) chg_bound)) ?_
 refine Lx_qT (i := 43) rfl rfl rfl rfl rfl (.bool true) (fun v120 hv121 => R_cmp (a := kindOf (putChangeB ({ parents := [], ph := nilH, time := 1, r := 1, ops := [], oh := nilH, tree := (mkId 9), msg := ByteArray.empty } : ChangeS))) (b := 3) (r := (decide (kindOf (putChangeB ({ parents := [], ph := nilH, time := 1, r := 1, ops := [], oh := nilH, tree := (mkId 9), msg := ByteArray.empty } : ChangeS)) = 3))) rfl rfl rfl ⟨(boolK (decide_eq_true chg_kind)), Gr.refl _ _⟩) ?_
 refine Lx_q (i := 44) rfl rfl _ (fun v122 hv123 => R_pick (t := true) (v := (.bool true)) rfl rfl ⟨rfl, Gr.refl _ _⟩) ?_
 refine Lx_q (i := 45) rfl rfl _ (fun v124 hv125 => R_move (v := (.bool true)) rfl ⟨rfl, Gr.refl _ _⟩) ?_
 refine Lx_qT (i := 46) rfl rfl rfl rfl rfl _ (fun v126 hv127 => R_move (v := (slV h14 (putChangeB ({ parents := [], ph := nilH, time := 1, r := 1, ops := [], oh := nilH, tree := (mkId 9), msg := ByteArray.empty } : ChangeS)))) rfl ⟨rfl, Gr.refl _ _⟩) ?_
 refine Lx_cT (i := 47) rfl rfl rfl rfl rfl (fun w128 hw129 => ?_)
 have H130 := H33.ext hw129
 refine (R_callL (vs := [(slV h14 (putChangeB ({ parents := [], ph := nilH, time := 1, r := 1, ops := [], oh := nilH, tree := (mkId 9), msg := ByteArray.empty } : ChangeS)))]) law04_alive_c21 rfl rfl ((obj_LinksG h14 (putChangeB ({ parents := [], ph := nilH, time := 1, r := 1, ops := [], oh := nilH, tree := (mkId 9), msg := ByteArray.empty } : ChangeS)) w128 (H130.rowSl 3 rfl (fun _ => rfl)) chg_bound).ret ?_))
 rintro _ w133 ⟨h131, S132, rfl, hx134, hS135, hv136⟩
 have H137 := H130.addImm hx134 (slI S132 idCh 32 h131 (linksOf (putChangeB ({ parents := [], ph := nilH, time := 1, r := 1, ops := [], oh := nilH, tree := (mkId 9), msg := ByteArray.empty } : ChangeS)))) hv136 hS135
 refine ⟨GrF.ofExt hx134, ?_⟩
 refine Lx_qT (i := 48) rfl rfl rfl rfl rfl _ (fun v138 hv139 => R_len_slice (a := h131.a) (n := (linksOf (putChangeB ({ parents := [], ph := nilH, time := 1, r := 1, ops := [], oh := nilH, tree := (mkId 9), msg := ByteArray.empty } : ChangeS))).length) (c := h131.c) Tryz.underlying39 rfl ⟨rfl, Gr.refl _ _⟩) ?_
 refine Lx_qT (i := 49) rfl rfl rfl rfl rfl (.bool true) (fun v140 hv141 => R_cmp (a := (((linksOf (putChangeB ({ parents := [], ph := nilH, time := 1, r := 1, ops := [], oh := nilH, tree := (mkId 9), msg := ByteArray.empty } : ChangeS))).length : Nat) : Int)) (b := 1) (r := (decide ((((linksOf (putChangeB ({ parents := [], ph := nilH, time := 1, r := 1, ops := [], oh := nilH, tree := (mkId 9), msg := ByteArray.empty } : ChangeS))).length : Nat) : Int) = 1))) rfl rfl rfl ⟨(boolK (decide_eq_true chg_oneG)), Gr.refl _ _⟩) ?_
 refine Lx_q (i := 50) rfl rfl _ (fun v142 hv143 => R_pick (t := true) (v := (.bool true)) rfl rfl ⟨rfl, Gr.refl _ _⟩) ?_
 refine Lx_q (i := 51) rfl rfl _ (fun v144 hv145 => R_assign (v := (.bool true)) rfl ⟨rfl, Gr.refl _ _⟩) ?_
 refine Lx_nil (fun w146 hw147 => ?_)
 have H148 := H137.ext hw147
 refine Then_n (W_ret ?_)
 refine ret_1 (v := (.bool true)) Tryz.results9 rfl ?_
 exact ⟨rfl, H148.gr⟩

end Go.Proofs.YthjdhfoeckfmbaaGreat
namespace Go.Proofs.YthjdhfoeckfmbaaGreat
open Go
set_option maxRecDepth 100000
set_option linter.unusedVariables false
set_option linter.unusedSimpArgs false
set_option linter.unusedSectionVars false
variable [DD]
set_option maxHeartbeats 1000000 in
theorem ref02_Done (x : RdS) (Fx : Nat → Prop) (q : List UInt8 × Bool) (w : World) (Sx : Sl Fx encB 1 x.bh x.b w) (XFx : ∀ b, Fx b → b < w.heap.size) (Ex : x.st = q) :
    Calls Tryz.prog 75 #[(aggOf (rdCh x))] w (Ret fun v w' => v = (.bool (rdDone q)) ∧ Ext w w') := by
 refine calls_W Tryz.func75 rfl Tryz.ntmps75 rfl ?_
 have H0 := Ctx.start w nob
 have H1 := H0.addSl _ Sx (fun b hb => ⟨XFx b hb, fun _ ho => (nomatch ho)⟩)
 have LSx := Sx.len
 refine W_seq (W_reg ?_)
 refine O_v rfl (C_box H1 [[(slV x.bh x.b)], [(.bool x.bad)]] rfl ?_)
 intro b4 w5 hb6 hx7 H8
 refine O_v rfl (R_assign (v := (.bool false)) rfl ?_)
 refine O_nil (Then_n (W_seq ?_))
 refine W_rg [(0, .q 0), (1, .q 0), (2, .q 0), (3, .q 0), (4, .q 0), (5, .q 0), (6, .q 0), (7, .q 0), (8, .q 0), (9, .q 0)] (by kernel_rfl) ?_
 refine Lx_q (i := 0) rfl rfl _ (fun v9 hv10 => R_fieldAddr (off := 1) (oo := 1) Tryz.underlying110 rfl rfl Tryz.sizeOf4 rfl rfl ⟨rfl, Gr.refl _ _⟩) ?_
 refine Lx_q (i := 1) rfl rfl _ (fun v11 hv12 => R_load1 (v := (.bool x.bad)) Tryz.isAgg4 rfl ((boxR_at ((H8.ext hv12).getOwn 0 rfl)).chunks 1 1 1 1 _ rfl rfl rfl) ⟨rfl, Gr.refl _ _⟩) ?_
 refine Lx_q (i := 2) rfl rfl _ (fun v13 hv14 => R_not rfl ⟨rfl, Gr.refl _ _⟩) ?_
 refine Lx_q (i := 3) rfl rfl _ (fun v15 hv16 => R_move (v := (.bool (!x.bad))) rfl ⟨rfl, Gr.refl _ _⟩) ?_
 refine Lx_qg (i := 4) true (!x.bad) rfl rfl rfl rfl rfl (!x.bad) ga_t _ (fun hA v17 hv18 => R_fieldAddr (off := 0) (oo := 0) Tryz.underlying110 rfl rfl Tryz.sizeOf22 rfl rfl ⟨rfl, Gr.refl _ _⟩) ?_
 refine Lx_qg (i := 5) true (!x.bad) rfl rfl rfl rfl rfl (!x.bad) ga_t _ (fun hA v19 hv20 => R_load1 (v := (slV x.bh x.b)) Tryz.isAgg22 (gv_t hA) ((boxR_at ((H8.ext hv20).getOwn 0 rfl)).chunks 0 1 0 0 _ rfl rfl rfl) ⟨rfl, Gr.refl _ _⟩) ?_
 refine Lx_qg (i := 6) true (!x.bad) rfl rfl rfl rfl rfl (!x.bad) ga_t _ (fun hA v21 hv22 => R_len_slice (a := x.bh.a) (n := x.b.length) (c := x.bh.c) Tryz.underlying22 (gv_t hA) ⟨rfl, Gr.refl _ _⟩) ?_
 refine Lx_qg (i := 7) true (!x.bad) rfl rfl rfl rfl rfl (!x.bad) ga_t _ (fun hA v23 hv24 => R_cmp (a := ((x.b.length : Nat) : Int)) (b := 0) (r := (decide (((x.b.length : Nat) : Int) = 0))) (gv_t hA) rfl rfl ⟨rfl, Gr.refl _ _⟩) ?_
 refine Lx_q (i := 8) rfl rfl _ (fun v25 hv26 => R_pick (t := (!x.bad)) (v := (.bool ((!x.bad) && (decide (((x.b.length : Nat) : Int) = 0))))) rfl pk_and ⟨rfl, Gr.refl _ _⟩) ?_
 refine Lx_q (i := 9) rfl rfl _ (fun v27 hv28 => R_assign (v := (.bool ((!x.bad) && (decide (((x.b.length : Nat) : Int) = 0))))) rfl ⟨rfl, Gr.refl _ _⟩) ?_
 refine Lx_nil (fun w29 hw30 => ?_)
 have H31 := H8.ext hw30
 refine Then_n (W_ret ?_)
 refine ret_1 (v := (.bool ((!x.bad) && (decide (((x.b.length : Nat) : Int) = 0))))) Tryz.results75 rfl ?_
 exact ⟨(done_eq Ex), H31.gr⟩

end Go.Proofs.YthjdhfoeckfmbaaGreat
namespace Go.Proofs.YthjdhfoeckfmbaaGreat
open Go
set_option maxRecDepth 100000
set_option linter.unusedVariables false
set_option linter.unusedSimpArgs false
set_option linter.unusedSectionVars false
variable [DD]
set_option maxHeartbeats 1000000 in
theorem ref02_failed  (w : World) :
    Calls Tryz.prog 109 #[] w (Ret fun v w' => ∃ X : RdS, v = rdV X ∧ Ext w w' ∧ X.st = ([], true) ∧ Sl nob encB 1 X.bh X.b w') := by
 refine calls_W Tryz.func109 rfl Tryz.ntmps109 rfl ?_
 have H0 := Ctx.start w nob
 refine W_seq (W_reg ?_)
 refine O_v rfl (C_alloc H0 [[(.slice none 0 0)], [(.bool false)]] Tryz.zeroValue110 ?_)
 intro b1 w2 hb3 hx4 H5
 refine O_nil (Then_n (W_seq (W_reg ?_)))
 refine O_v rfl (R_buildL (vs := [(0, (.slice none 0 0)), (1, (.bool true))]) (v := aggOf [[(.slice none 0 0)], [(.bool true)]]) rfl (fun _ => by kernel_rfl) ?_)
 refine O_u (C_storeA H5 0 rfl 0 (sub := [[(.slice none 0 0)], [(.bool true)]]) [[(.slice none 0 0)], [(.bool true)]] Tryz.sizeOf110 rfl rfl rfl rfl ⟨[[(.slice none 0 0)], [(.bool false)]], [], rfl, rfl, rfl⟩ rfl ?_)
 intro w6 hg7 H8
 refine O_nil (Then_n (W_ret ?_))
 refine ret_c Tryz.results109 (inMem (cs := [[(.slice none 0 0)], [(.bool true)]]) rfl Tryz.isAgg110 Tryz.sizeOf110 rfl (boxR_at (H8.getOwn 0 rfl))) ?_
 exact ⟨({ b := [], bh := nilH, bad := true } : RdS), rfl, H8.gr, rfl, (Sl.nil _ _ _ _)⟩

end Go.Proofs.YthjdhfoeckfmbaaGreat
namespace Go.Proofs.YthjdhfoeckfmbaaGreat
open Go
set_option maxRecDepth 100000
set_option linter.unusedVariables false
set_option linter.unusedSimpArgs false
set_option linter.unusedSectionVars false
variable [DD]
theorem ref02_GetId_c109 : callable Tryz.prog 109 = true := by kernel_rfl
set_option maxHeartbeats 1000000 in
theorem ref02_GetId (x : RdS) (Fx : Nat → Prop) (q : List UInt8 × Bool) (w : World) (Sx : Sl Fx encB 1 x.bh x.b w) (XFx : ∀ b, Fx b → b < w.heap.size) (Ex : x.st = q) :
    Calls Tryz.prog 76 #[(aggOf (rdCh x))] w (Ret fun v w' => ∃ X : RdS, v = .tuple #[(aggOf (idCh ((rdId q).1))), rdV X] ∧ Ext w w' ∧ X.st = (rdId q).2 ∧ Sl Fx encB 1 X.bh X.b w') := by
 refine calls_W Tryz.func76 rfl Tryz.ntmps76 rfl ?_
 have H0 := Ctx.start w nob
 have H1 := H0.addSl _ Sx (fun b hb => ⟨XFx b hb, fun _ ho => (nomatch ho)⟩)
 have LSx := Sx.len
 refine W_seq (W_reg ?_)
 refine O_v rfl (C_box H1 [[(slV x.bh x.b)], [(.bool x.bad)]] rfl ?_)
 intro b4 w5 hb6 hx7 H8
 refine O_v rfl (C_alloc H8 [(idCells zeroId)] Tryz.zeroValue44 ?_)
 intro b9 w10 hb11 hx12 H13
 refine O_v rfl (C_alloc H13 [[(.slice none 0 0)], [(.bool false)]] Tryz.zeroValue110 ?_)
 intro b14 w15 hb16 hx17 H18
 refine O_nil (Then_n (W_seq (W_reg ?_)))
 refine O_v rfl (R_buildL (vs := []) (v := aggOf [(idCells zeroId)]) rfl (fun _ => by kernel_rfl) ?_)
 refine O_v rfl (C_alloc H18 [(idCells zeroId)] Tryz.zeroValue44 ?_)
 intro b19 w20 hb21 hx22 H23
 refine O_u (C_storeA H23 0 rfl 0 (sub := [(idCells zeroId)]) [(idCells zeroId)] Tryz.sizeOf44 rfl rfl rfl rfl ⟨[(idCells zeroId)], [], rfl, rfl, rfl⟩ rfl ?_)
 intro w24 hg25 H26
 refine O_nil (Then_n (W_seq (W_seq ?_)))
 refine W_rg [(0, .q 0), (1, .q 0), (2, .q 0), (3, .q 0), (4, .q 0), (5, .q 0), (6, .q 0), (7, .q 0)] (by kernel_rfl) ?_
 refine Lx_q (i := 0) rfl rfl _ (fun v27 hv28 => R_fieldAddr (off := 1) (oo := 1) Tryz.underlying110 rfl rfl Tryz.sizeOf4 rfl rfl ⟨rfl, Gr.refl _ _⟩) ?_
 refine Lx_q (i := 1) rfl rfl _ (fun v29 hv30 => R_load1 (v := (.bool x.bad)) Tryz.isAgg4 rfl ((boxR_at ((H26.ext hv30).getOwn 3 rfl)).chunks 1 1 1 1 _ rfl rfl rfl) ⟨rfl, Gr.refl _ _⟩) ?_
 refine Lx_q (i := 2) rfl rfl _ (fun v31 hv32 => R_move (v := (.bool x.bad)) rfl ⟨rfl, Gr.refl _ _⟩) ?_
 refine Lx_qg (i := 3) true x.bad rfl rfl rfl rfl rfl (!x.bad) ga_f _ (fun hA v33 hv34 => R_fieldAddr (off := 0) (oo := 0) Tryz.underlying110 rfl rfl Tryz.sizeOf22 rfl rfl ⟨rfl, Gr.refl _ _⟩) ?_
 refine Lx_qg (i := 4) true x.bad rfl rfl rfl rfl rfl (!x.bad) ga_f _ (fun hA v35 hv36 => R_load1 (v := (slV x.bh x.b)) Tryz.isAgg22 (gv_t hA) ((boxR_at ((H26.ext hv36).getOwn 3 rfl)).chunks 0 1 0 0 _ rfl rfl rfl) ⟨rfl, Gr.refl _ _⟩) ?_
 refine Lx_qg (i := 5) true x.bad rfl rfl rfl rfl rfl (!x.bad) ga_f _ (fun hA v37 hv38 => R_len_slice (a := x.bh.a) (n := x.b.length) (c := x.bh.c) Tryz.underlying22 (gv_t hA) ⟨rfl, Gr.refl _ _⟩) ?_
 refine Lx_qg (i := 6) true x.bad rfl rfl rfl rfl rfl (!x.bad) ga_f _ (fun hA v39 hv40 => R_cmp (a := ((x.b.length : Nat) : Int)) (b := 32) (r := (decide (((x.b.length : Nat) : Int) < 32))) (gv_t hA) rfl rfl ⟨rfl, Gr.refl _ _⟩) ?_
 refine Lx_q (i := 7) rfl rfl _ (fun v41 hv42 => R_pick (t := x.bad) (v := (.bool (x.bad || (decide (((x.b.length : Nat) : Int) < 32))))) rfl pk_or ⟨rfl, Gr.refl _ _⟩) ?_
 refine Lx_nil (fun w43 hw44 => ?_)
 have H45 := H26.ext hw44
 refine Then_n ?_
 refine W_cond (t := (x.bad || (decide (((x.b.length : Nat) : Int) < 32)))) rfl (fun hc46 => ?_) (fun hc46 => ?_)
 ·have hc46 : (x.bad = true ∨ (((x.b.length : Nat) : Int) < 32)) := (Or.imp (fun h => h) (fun h => (of_decide_eq_true h)) (orT hc46))
  refine W_seq ?_
  refine W_rgdM TryzMixed nob (fun i => if i == 2 || i == 3 then 2 else 0) [(0, .q 0), (1, .c 0), (2, .c 2), (3, .c 2)] (by kernel_rfl) ?_
  refine Lx_q (i := 0) rfl rfl _ (fun v47 hv48 => R_loadA (cs := [(idCells zeroId)]) Tryz.isAgg44 Tryz.sizeOf44 rfl rfl ((boxR_at ((H45.ext hv48).getOwn 0 rfl)).chunks 0 1 0 0 _ rfl rfl rfl) ⟨rfl, Gr.refl _ _⟩) ?_
  refine Lx_c (i := 1) rfl rfl (fun w49 hw50 => ?_)
  have H51 := H45.ext hw50
  refine (R_callL (vs := []) ref02_GetId_c109 rfl rfl ((ref02_failed  w49 ).ret ?_))
  rintro _ w53 ⟨x52, rfl, hx54, hr55, hs56⟩
  have H57 := H51.ext hx54
  have H58 := H57.addImm' (slI nob encB 1 x52.bh x52.b) hs56 (fun _ h => h.elim)
  refine ⟨GrF.ofExt hx54, ?_⟩
  refine Lx_cu (i := 2) rfl (fun w59 hw60 => ?_)
  have H61 := H58.ext hw60
  refine (C_storeA H61 2 rfl 0 (sub := [(idCells zeroId)]) [(idCells zeroId)] Tryz.sizeOf44 rfl rfl rfl rfl ⟨[(idCells zeroId)], [], rfl, rfl, rfl⟩ rfl ?_)
  intro w62 hg63 H64
  refine ⟨Gr.mono (M' := fun _ => True) hg63 (fun _ _ => trivial), ?_⟩
  refine Lx_cu (i := 3) rfl (fun w65 hw66 => ?_)
  have H67 := H64.ext hw66
  refine (C_storeA H67 1 rfl 0 (sub := [[(slV x52.bh x52.b)], [(.bool x52.bad)]]) [[(slV x52.bh x52.b)], [(.bool x52.bad)]] Tryz.sizeOf110 rfl rfl rfl rfl ⟨[[(.slice none 0 0)], [(.bool false)]], [], rfl, rfl, rfl⟩ rfl ?_)
  intro w68 hg69 H70
  refine ⟨Gr.mono (M' := fun _ => True) hg69 (fun _ _ => trivial), ?_⟩
  refine Lx_nil (fun w71 hw72 => ?_)
  have H73 := H70.ext hw72
  refine Then_n (W_ret (Then_r ?_))
  refine ret_cc Tryz.results76 (inMem (cs := [(idCells zeroId)]) rfl Tryz.isAgg44 Tryz.sizeOf44 rfl (boxR_at (H73.getOwn 2 rfl))) (inMem (cs := [[(slV x52.bh x52.b)], [(.bool x52.bad)]]) rfl Tryz.isAgg110 Tryz.sizeOf110 rfl (boxR_at (H73.getOwn 1 rfl))) ?_
  exact ⟨x52, (id_val (gi_f Ex (by assumption))), H73.gr, (hr55.trans (congrArg Prod.snd (gi_f Ex (by assumption)))), ((H73.sl 0 rfl).mono (fun _ h => h.elim))⟩
 ·have hc46 : (x.bad = false ∧ ¬ (((x.b.length : Nat) : Int) < 32)) := (And.imp (fun h => h) (fun h => (of_decide_eq_false h)) (orF hc46))
  refine W_skip (Then_n (W_seq (W_seq (W_reg ?_))))
  refine O_v rfl (R_assign (v := (.int .i64 0)) rfl ?_)
  refine O_nil (Then_n (W_block ?_))
  refine W_loop (fun m74 e75 w76 => ∃ (k : Nat), ∃ (dd : ID), m74 = 32 - k ∧ (k ≤ 32) ∧ (dd = idPut zeroId (x.b.take k)) ∧ ∃ eb77, e75 = envL [(1, (.pointer (some ⟨b4, 0, none⟩))), (2, (.pointer (some ⟨b9, 0, none⟩))), (3, (.pointer (some ⟨b14, 0, none⟩))), (4, (.pointer (some ⟨b19, 0, none⟩))), (5, (.int .i64 ((k : Nat) : Int)))] eb77 ∧ Ctx w nob w76 [boxR b19 44 [(idCells dd)], boxR b14 110 [[(.slice none 0 0)], [(.bool false)]], boxR b9 44 [(idCells zeroId)], boxR b4 110 [[(slV x.bh x.b)], [(.bool x.bad)]]] [slI Fx encB 1 x.bh x.b]) _ ⟨0, zeroId, rfl, (by omega), (idPut_nil zeroId).symm, _, envL_self ⟨rfl, rfl, rfl, rfl, rfl, trivial⟩, H45⟩ ?_
  rintro m74 _ w76 ⟨k, dd, rfl, hk, hd, eb77, rfl, H78⟩
  refine W_seq (W_seq (W_reg ?_))
  refine O_v rfl (R_move (v := (.int .i64 ((k : Nat) : Int))) rfl ?_)
  refine O_v rfl (R_cmp (a := ((k : Nat) : Int)) (b := 32) (r := (decide (((k : Nat) : Int) < 32))) rfl rfl rfl ?_)
  refine O_nil (Then_n ?_)
  refine W_cond (t := (decide (((k : Nat) : Int) < 32))) rfl (fun hc79 => ?_) (fun hc79 => ?_)
  ·have hc79 : (((k : Nat) : Int) < 32) := (of_decide_eq_true hc79)
   refine W_skip (Then_n (W_seq (W_block (W_reg ?_))))
   refine O_v rfl (R_move (v := (.int .i64 ((k : Nat) : Int))) rfl ?_)
   refine O_v rfl (R_fieldAddr (off := 0) (oo := 0) Tryz.underlying110 rfl rfl Tryz.sizeOf22 rfl rfl ?_)
   refine O_v rfl (R_load1 (v := (slV x.bh x.b)) Tryz.isAgg22 rfl ((boxR_at (H78.getOwn 3 rfl)).chunks 0 1 0 0 _ rfl rfl rfl) ?_)
   refine O_v rfl (R_move (v := (.int .i64 ((k : Nat) : Int))) rfl ?_)
   refine O_v rfl (R_index_pure (H78.sl 0 rfl) (n := x.b.length) rfl (j := ((k : Nat) : Int)) (oo := (x.bh.o + k * 1)) Tryz.underlying22 Tryz.sizeOf5 rfl rfl (by omega) (by omega) rfl ?_)
   refine O_v rfl (R_load1 (v := (.int .u8 ((nth x.b k).toNat : Int))) Tryz.isAgg5 rfl ((Sl.elem (H78.sl 0 rfl) (i := k) (by omega) rfl).chunks 0 1 0 (x.bh.o + k * 1) _ rfl rfl rfl) ?_)
   refine O_v rfl (R_index_array (n := 32) (k := 1) (o := 0) (oo := (0 + k * 1)) (j := ((k : Nat) : Int)) Tryz.underlying44 Tryz.sizeOf5 rfl rfl (by omega) (by omega) rfl ?_)
   refine O_u (C_storeId H78 0 (v := dd) (o := k) (c := (nth x.b k)) rfl Tryz.sizeOf5 rfl rfl (by omega) ?_)
   intro w80 hg81 H82
   refine O_nil (Blk_n (Then_n (W_reg ?_)))
   refine O_v rfl (R_move (v := (.int .i64 ((k : Nat) : Int))) rfl ?_)
   refine O_v rfl (R_arith (a := ((k : Nat) : Int)) (b := 1) (r0 := ((k : Nat) : Int) + 1) (r := ((k + 1 : Nat) : Int)) rfl rfl rfl (wrapN _ (by omega)) ?_)
   refine O_v rfl (R_assign (v := (.int .i64 ((k + 1 : Nat) : Int))) rfl ?_)
   refine O_nil (Then_n ?_)
   refine ⟨_, ?_, (k + 1), (idSet dd k (nth x.b k)), rfl, (by omega), (by rw [hd]; exact idSet_put _ _ (by omega) (by omega)), _, envL_self ⟨rfl, rfl, rfl, rfl, rfl, trivial⟩, H82⟩
   omega
  ·have hc79 : ¬ (((k : Nat) : Int) < 32) := (of_decide_eq_false hc79)
   refine W_exit (Then_x (Then_x (Blk_x (Then_n (W_seq ?_)))))
   refine W_rgdM TryzMixed (fun c => c = b9) (fun i => if i == 5 then 1 else if i == 6 then 2 else 0) [(0, .q 1), (1, .q 2), (2, .q 1), (3, .q 2), (4, .q 2), (5, .c 1), (6, .c 2)] (by kernel_rfl) ?_
   refine Lx_q (i := 0) rfl rfl _ (fun v83 hv84 => R_loadA (cs := [(idCells dd)]) Tryz.isAgg44 Tryz.sizeOf44 rfl rfl ((boxR_at (H78.ownGr 0 2 (by decide) rfl rfl hv84 (fun _ h => congrArg some h.symm))).chunks 0 1 0 0 _ rfl rfl rfl) ⟨rfl, Gr.refl _ _⟩) ?_
   refine Lx_q (i := 1) rfl rfl _ (fun v85 hv86 => R_fieldAddr (off := 0) (oo := 0) Tryz.underlying110 rfl rfl Tryz.sizeOf22 rfl rfl ⟨rfl, Gr.refl _ _⟩) ?_
   refine Lx_q (i := 2) rfl rfl _ (fun v87 hv88 => R_load1 (v := (slV x.bh x.b)) Tryz.isAgg22 rfl ((boxR_at (H78.ownGr 3 2 (by decide) rfl rfl hv88 (fun _ h => congrArg some h.symm))).chunks 0 1 0 0 _ rfl rfl rfl) ⟨rfl, Gr.refl _ _⟩) ?_
   refine Lx_q (i := 3) rfl rfl _ (fun v89 hv90 => R_sliceS (h := x.bh) (l := x.b) (a := 32) (b := x.b.length) (m := x.bh.c) (x.b.drop 32) Tryz.underlying22 Tryz.sizeOf5 rfl rfl rfl rfl (by decide) (by omega) (by first | omega | exact Nat.le_refl _) (by have := Sl.cap (H78.sl 0 rfl); omega) (by first | omega | exact Nat.le_refl _ | (have := Sl.cap (H78.sl 0 rfl); omega)) (by rw [List.take_length])  ⟨rfl, Gr.refl _ _⟩) ?_
   refine Lx_q (i := 4) rfl rfl _ (fun v91 hv92 => R_buildL (vs := [(0, (slV (hSub x.bh 1 32 x.bh.c) (x.b.drop 32))), (1, (.bool false))]) (v := aggOf [[(slV (hSub x.bh 1 32 x.bh.c) (x.b.drop 32))], [(.bool false)]]) rfl (fun _ => by kernel_rfl) ⟨rfl, Gr.refl _ _⟩) ?_
   refine Lx_cu (i := 5) rfl (fun w93 hw94 => ?_)
   have H95 := H78.ext hw94
   refine (C_storeA H95 2 rfl 0 (sub := [(idCells dd)]) [(idCells dd)] Tryz.sizeOf44 rfl rfl rfl rfl ⟨[(idCells zeroId)], [], rfl, rfl, rfl⟩ rfl ?_)
   intro w96 hg97 H98
   refine ⟨Gr.mono hg97 (fun _ h => (Option.some.inj h).symm), ?_⟩
   refine Lx_cu (i := 6) rfl (fun w99 hw100 => ?_)
   have H101 := H98.ext hw100
   refine (C_storeA H101 1 rfl 0 (sub := [[(slV (hSub x.bh 1 32 x.bh.c) (x.b.drop 32))], [(.bool false)]]) [[(slV (hSub x.bh 1 32 x.bh.c) (x.b.drop 32))], [(.bool false)]] Tryz.sizeOf110 rfl rfl rfl rfl ⟨[[(.slice none 0 0)], [(.bool false)]], [], rfl, rfl, rfl⟩ rfl ?_)
   intro w102 hg103 H104
   refine ⟨Gr.mono (M' := fun _ => True) hg103 (fun _ _ => trivial), ?_⟩
   refine Lx_nil (fun w105 hw106 => ?_)
   have H107 := H104.ext hw106
   refine Then_n (W_ret ?_)
   refine ret_cc Tryz.results76 (inMem (cs := [(idCells dd)]) rfl Tryz.isAgg44 Tryz.sizeOf44 rfl (boxR_at (H107.getOwn 2 rfl))) (inMem (cs := [[(slV (hSub x.bh 1 32 x.bh.c) (x.b.drop 32))], [(.bool false)]]) rfl Tryz.isAgg110 Tryz.sizeOf110 rfl (boxR_at (H107.getOwn 1 rfl))) ?_
   exact ⟨({ b := x.b.drop 32, bh := hSub x.bh 1 32 x.bh.c, bad := false } : RdS), (id_val (gi_t Ex (by assumption) hd (by omega))), H107.gr, (congrArg Prod.snd (gi_t Ex (by assumption) hd (by omega))), (Sl.sub (H107.sl 0 rfl) 32 x.b.length x.bh.c (by omega) (by first | omega | exact Nat.le_refl _) (by have := Sl.cap (H78.sl 0 rfl); omega) (by first | omega | exact Nat.le_refl _ | (have := Sl.cap (H78.sl 0 rfl); omega)) (by rw [List.take_length]))⟩

end Go.Proofs.YthjdhfoeckfmbaaGreat
namespace Go.Proofs.YthjdhfoeckfmbaaGreat
open Go
set_option maxRecDepth 100000
set_option linter.unusedVariables false
set_option linter.unusedSimpArgs false
set_option linter.unusedSectionVars false
variable [DD]
theorem ref02_GetNum_c109 : callable Tryz.prog 109 = true := by kernel_rfl
set_option maxHeartbeats 4000000 in
theorem ref02_GetNum (x : RdS) (Fx : Nat → Prop) (q : List UInt8 × Bool) (most : Int) (w : World) (Sx : Sl Fx encB 1 x.bh x.b w) (XFx : ∀ b, Fx b → b < w.heap.size) (Ex : x.st = q) :
    Calls Tryz.prog 72 #[(aggOf (rdCh x)), (.int .i64 most)] w (Ret fun v w' => ∃ X : RdS, v = .tuple #[(.int .i64 ((((rdNum q most).1) : Nat) : Int)), rdV X] ∧ Ext w w' ∧ X.st = (rdNum q most).2 ∧ Sl Fx encB 1 X.bh X.b w') := by
 refine calls_W Tryz.func72 rfl Tryz.ntmps72 rfl ?_
 have H0 := Ctx.start w nob
 have H1 := H0.addSl _ Sx (fun b hb => ⟨XFx b hb, fun _ ho => (nomatch ho)⟩)
 have LSx := Sx.len
 refine W_seq (W_reg ?_)
 refine O_v rfl (C_box H1 [[(slV x.bh x.b)], [(.bool x.bad)]] rfl ?_)
 intro b4 w5 hb6 hx7 H8
 refine O_v rfl (R_assign (v := (.int .i64 0)) rfl ?_)
 refine O_v rfl (C_alloc H8 [[(.slice none 0 0)], [(.bool false)]] Tryz.zeroValue110 ?_)
 intro b9 w10 hb11 hx12 H13
 refine O_nil (Then_n (W_seq (W_reg ?_)))
 refine O_v rfl (R_assign (v := (.int .i64 0)) rfl ?_)
 refine O_nil (Then_n (W_seq (W_reg ?_)))
 refine O_v rfl (R_assign (v := (.int .i64 1)) rfl ?_)
 refine O_nil (Then_n (W_seq (W_seq (W_reg ?_))))
 refine O_v rfl (R_assign (v := (.int .i64 0)) rfl ?_)
 refine O_nil (Then_n (W_block ?_))
 refine W_loop (fun m14 e15 w16 => ∃ (k : Nat), ∃ (u : Nat), m14 = 9 - k ∧ (k ≤ 9) ∧ (u < 2 ^ (7 * k)) ∧ (rdNumGo most (9 - k) k u (x.b.drop k, x.bad) = rdNum q most) ∧ ∃ eb17, e15 = envL [(1, (.int .i64 most)), (2, (.pointer (some ⟨b4, 0, none⟩))), (5, (.pointer (some ⟨b9, 0, none⟩))), (6, (.int .i64 ((u : Nat) : Int))), (7, (.int .i64 ((2 ^ (7 * min k 8) : Nat) : Int))), (8, (.int .i64 ((k : Nat) : Int)))] eb17 ∧ Ctx w nob w16 [boxR b9 110 [[(.slice none 0 0)], [(.bool false)]], boxR b4 110 [[(slV x.bh x.b)], [(.bool x.bad)]]] [slI Fx encB 1 x.bh x.b]) _ ⟨0, 0, rfl, (by omega), Nat.one_pos, (gn_start Ex), _, envL_self ⟨rfl, rfl, rfl, rfl, rfl, rfl, trivial⟩, H13⟩ ?_
 rintro m14 _ w16 ⟨k, u, rfl, hk, hu, hgo, eb17, rfl, H18⟩
 refine W_seq (W_seq ?_)
 refine W_rg [(0, .q 0), (1, .q 0), (2, .q 0), (3, .q 0), (4, .q 0), (5, .q 0), (6, .q 0), (7, .q 0), (8, .q 0), (9, .q 0), (10, .q 0), (11, .q 0), (12, .q 0), (13, .q 0)] (by kernel_rfl) ?_
 refine Lx_q (i := 0) rfl rfl _ (fun v19 hv20 => R_move (v := (.int .i64 ((k : Nat) : Int))) rfl ⟨rfl, Gr.refl _ _⟩) ?_
 refine Lx_q (i := 1) rfl rfl _ (fun v21 hv22 => R_fieldAddr (off := 0) (oo := 0) Tryz.underlying110 rfl rfl Tryz.sizeOf22 rfl rfl ⟨rfl, Gr.refl _ _⟩) ?_
 refine Lx_q (i := 2) rfl rfl _ (fun v23 hv24 => R_load1 (v := (slV x.bh x.b)) Tryz.isAgg22 rfl ((boxR_at ((H18.ext hv24).getOwn 1 rfl)).chunks 0 1 0 0 _ rfl rfl rfl) ⟨rfl, Gr.refl _ _⟩) ?_
 refine Lx_q (i := 3) rfl rfl _ (fun v25 hv26 => R_len_slice (a := x.bh.a) (n := x.b.length) (c := x.bh.c) Tryz.underlying22 rfl ⟨rfl, Gr.refl _ _⟩) ?_
 refine Lx_q (i := 4) rfl rfl _ (fun v27 hv28 => R_cmp (a := ((k : Nat) : Int)) (b := ((x.b.length : Nat) : Int)) (r := (decide (((k : Nat) : Int) < ((x.b.length : Nat) : Int)))) rfl rfl rfl ⟨rfl, Gr.refl _ _⟩) ?_
 refine Lx_q (i := 5) rfl rfl _ (fun v29 hv30 => R_move (v := (.bool (decide (((k : Nat) : Int) < ((x.b.length : Nat) : Int))))) rfl ⟨rfl, Gr.refl _ _⟩) ?_
 refine Lx_qg (i := 6) true (decide (((k : Nat) : Int) < ((x.b.length : Nat) : Int))) rfl rfl rfl rfl rfl (decide (((k : Nat) : Int) < ((x.b.length : Nat) : Int))) ga_t _ (fun hA v31 hv32 => R_move (v := (.int .i64 ((k : Nat) : Int))) rfl ⟨rfl, Gr.refl _ _⟩) ?_
 refine Lx_qg (i := 7) true (decide (((k : Nat) : Int) < ((x.b.length : Nat) : Int))) rfl rfl rfl rfl rfl (decide (((k : Nat) : Int) < ((x.b.length : Nat) : Int))) ga_t _ (fun hA v33 hv34 => R_cmp (a := ((k : Nat) : Int)) (b := 9) (r := (decide (((k : Nat) : Int) < 9))) (gv_t hA) rfl rfl ⟨rfl, Gr.refl _ _⟩) ?_
 refine Lx_q (i := 8) rfl rfl _ (fun v35 hv36 => R_pick (t := (decide (((k : Nat) : Int) < ((x.b.length : Nat) : Int)))) (v := (.bool ((decide (((k : Nat) : Int) < ((x.b.length : Nat) : Int))) && (decide (((k : Nat) : Int) < 9))))) rfl pk_and ⟨rfl, Gr.refl _ _⟩) ?_
 refine Lx_q (i := 9) rfl rfl _ (fun v37 hv38 => R_move (v := (.bool ((decide (((k : Nat) : Int) < ((x.b.length : Nat) : Int))) && (decide (((k : Nat) : Int) < 9))))) rfl ⟨rfl, Gr.refl _ _⟩) ?_
 refine Lx_qg (i := 10) true ((decide (((k : Nat) : Int) < ((x.b.length : Nat) : Int))) && (decide (((k : Nat) : Int) < 9))) rfl rfl rfl rfl rfl ((decide (((k : Nat) : Int) < ((x.b.length : Nat) : Int))) && (decide (((k : Nat) : Int) < 9))) ga_t _ (fun hA v39 hv40 => R_fieldAddr (off := 1) (oo := 1) Tryz.underlying110 rfl rfl Tryz.sizeOf4 rfl rfl ⟨rfl, Gr.refl _ _⟩) ?_
 refine Lx_qg (i := 11) true ((decide (((k : Nat) : Int) < ((x.b.length : Nat) : Int))) && (decide (((k : Nat) : Int) < 9))) rfl rfl rfl rfl rfl ((decide (((k : Nat) : Int) < ((x.b.length : Nat) : Int))) && (decide (((k : Nat) : Int) < 9))) ga_t _ (fun hA v41 hv42 => R_load1 (v := (.bool x.bad)) Tryz.isAgg4 (gv_t hA) ((boxR_at ((H18.ext hv42).getOwn 1 rfl)).chunks 1 1 1 1 _ rfl rfl rfl) ⟨rfl, Gr.refl _ _⟩) ?_
 refine Lx_qg (i := 12) true ((decide (((k : Nat) : Int) < ((x.b.length : Nat) : Int))) && (decide (((k : Nat) : Int) < 9))) rfl rfl rfl rfl rfl ((decide (((k : Nat) : Int) < ((x.b.length : Nat) : Int))) && (decide (((k : Nat) : Int) < 9))) ga_t _ (fun hA v43 hv44 => R_not (gv_t hA) ⟨rfl, Gr.refl _ _⟩) ?_
 refine Lx_q (i := 13) rfl rfl _ (fun v45 hv46 => R_pick (t := ((decide (((k : Nat) : Int) < ((x.b.length : Nat) : Int))) && (decide (((k : Nat) : Int) < 9)))) (v := (.bool (((decide (((k : Nat) : Int) < ((x.b.length : Nat) : Int))) && (decide (((k : Nat) : Int) < 9))) && (!x.bad)))) rfl pk_and ⟨rfl, Gr.refl _ _⟩) ?_
 refine Lx_nil (fun w47 hw48 => ?_)
 have H49 := H18.ext hw48
 refine Then_n ?_
 refine W_cond (t := (((decide (((k : Nat) : Int) < ((x.b.length : Nat) : Int))) && (decide (((k : Nat) : Int) < 9))) && (!x.bad))) rfl (fun hc50 => ?_) (fun hc50 => ?_)
 ·have hc50 : (((((k : Nat) : Int) < ((x.b.length : Nat) : Int)) ∧ (((k : Nat) : Int) < 9)) ∧ x.bad = false) := (And.imp (fun h => (And.imp (fun h => (of_decide_eq_true h)) (fun h => (of_decide_eq_true h)) (andT h))) (fun h => (notT h)) (andT hc50))
  have hC := hc50
  refine W_skip (Then_n (W_seq (W_block (W_seq (W_reg ?_)))))
  refine O_v rfl (R_fieldAddr (off := 0) (oo := 0) Tryz.underlying110 rfl rfl Tryz.sizeOf22 rfl rfl ?_)
  refine O_v rfl (R_load1 (v := (slV x.bh x.b)) Tryz.isAgg22 rfl ((boxR_at (H49.getOwn 1 rfl)).chunks 0 1 0 0 _ rfl rfl rfl) ?_)
  refine O_v rfl (R_move (v := (.int .i64 ((k : Nat) : Int))) rfl ?_)
  refine O_v rfl (R_index_pure (H49.sl 0 rfl) (n := x.b.length) rfl (j := ((k : Nat) : Int)) (oo := (x.bh.o + k * 1)) Tryz.underlying22 Tryz.sizeOf5 rfl rfl (by omega) (by omega) rfl ?_)
  refine O_v rfl (R_load1 (v := (.int .u8 ((nth x.b k).toNat : Int))) Tryz.isAgg5 rfl ((Sl.elem (H49.sl 0 rfl) (i := k) (by omega) rfl).chunks 0 1 0 (x.bh.o + k * 1) _ rfl rfl rfl) ?_)
  refine O_v rfl (R_rem (a := (((nth x.b k).toNat : Nat) : Int)) (b := ((128 : Nat) : Int)) (r := ((((nth x.b k).toNat % 128) : Nat) : Int)) rfl rfl (by decide) (tmod_nat _ _) ?_)
  refine O_v rfl (R_conv_int (a := ((((nth x.b k).toNat % 128) : Nat) : Int)) (r := ((((nth x.b k).toNat % 128) : Nat) : Int)) Tryz.underlying5 Tryz.underlying2 rfl (w64 _ (by omega)) ?_)
  refine O_v rfl (R_assign (v := (.int .i64 ((((nth x.b k).toNat % 128) : Nat) : Int))) rfl ?_)
  refine O_nil (Then_n (W_seq (W_seq ?_)))
  refine W_rg [(0, .q 0), (1, .q 0), (2, .q 0), (3, .q 0), (4, .q 0), (5, .q 0)] (by kernel_rfl) ?_
  refine Lx_q (i := 0) rfl rfl _ (fun v51 hv52 => R_move (v := (.int .i64 ((k : Nat) : Int))) rfl ⟨rfl, Gr.refl _ _⟩) ?_
  refine Lx_q (i := 1) rfl rfl _ (fun v53 hv54 => R_cmp (a := ((k : Nat) : Int)) (b := 8) (r := (decide (((k : Nat) : Int) = 8))) rfl rfl rfl ⟨rfl, Gr.refl _ _⟩) ?_
  refine Lx_q (i := 2) rfl rfl _ (fun v55 hv56 => R_move (v := (.bool (decide (((k : Nat) : Int) = 8)))) rfl ⟨rfl, Gr.refl _ _⟩) ?_
  refine Lx_qg (i := 3) true (decide (((k : Nat) : Int) = 8)) rfl rfl rfl rfl rfl (decide (((k : Nat) : Int) = 8)) ga_t _ (fun hA v57 hv58 => R_move (v := (.int .i64 ((((nth x.b k).toNat % 128) : Nat) : Int))) rfl ⟨rfl, Gr.refl _ _⟩) ?_
  refine Lx_qg (i := 4) true (decide (((k : Nat) : Int) = 8)) rfl rfl rfl rfl rfl (decide (((k : Nat) : Int) = 8)) ga_t _ (fun hA v59 hv60 => R_cmp (a := ((((nth x.b k).toNat % 128) : Nat) : Int)) (b := 64) (r := (decide (64 < ((((nth x.b k).toNat % 128) : Nat) : Int)))) (gv_t hA) rfl rfl ⟨rfl, Gr.refl _ _⟩) ?_
  refine Lx_q (i := 5) rfl rfl _ (fun v61 hv62 => R_pick (t := (decide (((k : Nat) : Int) = 8))) (v := (.bool ((decide (((k : Nat) : Int) = 8)) && (decide (64 < ((((nth x.b k).toNat % 128) : Nat) : Int)))))) rfl pk_and ⟨rfl, Gr.refl _ _⟩) ?_
  refine Lx_nil (fun w63 hw64 => ?_)
  have H65 := H49.ext hw64
  refine Then_n ?_
  refine W_cond (t := ((decide (((k : Nat) : Int) = 8)) && (decide (64 < ((((nth x.b k).toNat % 128) : Nat) : Int))))) rfl (fun hc66 => ?_) (fun hc66 => ?_)
  ·have hc66 : ((((k : Nat) : Int) = 8) ∧ (64 < ((((nth x.b k).toNat % 128) : Nat) : Int))) := (And.imp (fun h => (of_decide_eq_true h)) (fun h => (of_decide_eq_true h)) (andT hc66))
   refine W_seq (W_reg ?_)
   refine O_v rfl (R_callL (vs := []) ref02_GetNum_c109 rfl rfl ((ref02_failed  w63 ).ret ?_))
   rintro _ w68 ⟨x67, rfl, hx69, hr70, hs71⟩
   have H72 := H65.ext hx69
   have H73 := H72.addImm' (slI nob encB 1 x67.bh x67.b) hs71 (fun _ h => h.elim)
   refine O_v rfl (R_assign (v := (.int .i64 0)) rfl ?_)
   refine O_u (C_storeA H73 0 rfl 0 (sub := [[(slV x67.bh x67.b)], [(.bool x67.bad)]]) [[(slV x67.bh x67.b)], [(.bool x67.bad)]] Tryz.sizeOf110 rfl rfl rfl rfl ⟨[[(.slice none 0 0)], [(.bool false)]], [], rfl, rfl, rfl⟩ rfl ?_)
   intro w74 hg75 H76
   refine O_nil (Then_n (W_ret (Then_r (Blk_r (Then_r (Then_r (Blk_r (Then_r ?_))))))))
   refine ret_tc (v := (.int .i64 0)) Tryz.results72 rfl (inMem (cs := [[(slV x67.bh x67.b)], [(.bool x67.bad)]]) rfl Tryz.isAgg110 Tryz.sizeOf110 rfl (boxR_at (H76.getOwn 0 rfl))) ?_
   exact ⟨x67, (two_val (gn_8 hgo hu hC (by assumption))), H76.gr, (hr70.trans (congrArg Prod.snd (gn_8 hgo hu hC (by assumption)))), ((H76.sl 0 rfl).mono (fun _ h => h.elim))⟩
  ·have hc66 : (¬ (((k : Nat) : Int) = 8) ∨ ¬ (64 < ((((nth x.b k).toNat % 128) : Nat) : Int))) := (Or.imp (fun h => (of_decide_eq_false h)) (fun h => (of_decide_eq_false h)) (andF hc66))
   have hM := gn_mul (x := (nth x.b k).toNat) (show k < 9 by omega) hc66
   have hU := gn_small hu (show k < 9 by omega)
   refine W_skip (Then_n (W_seq (W_reg ?_)))
   refine O_v rfl (R_move (v := (.int .i64 ((u : Nat) : Int))) rfl ?_)
   refine O_v rfl (R_move (v := (.int .i64 ((((nth x.b k).toNat % 128) : Nat) : Int))) rfl ?_)
   refine O_v rfl (R_move (v := (.int .i64 ((2 ^ (7 * min k 8) : Nat) : Int))) rfl ?_)
   refine O_v rfl (R_arith (a := ((((nth x.b k).toNat % 128) : Nat) : Int)) (b := ((2 ^ (7 * min k 8) : Nat) : Int)) (r0 := ((((nth x.b k).toNat % 128) : Nat) : Int) * ((2 ^ (7 * min k 8) : Nat) : Int)) (r := ((((nth x.b k).toNat % 128 * 2 ^ (7 * min k 8)) : Nat) : Int)) rfl rfl rfl (by rw [← Int.natCast_mul]; exact w64 _ (by omega)) ?_)
   refine O_v rfl (R_arith (a := ((u : Nat) : Int)) (b := ((((nth x.b k).toNat % 128 * 2 ^ (7 * min k 8)) : Nat) : Int)) (r0 := ((u : Nat) : Int) + ((((nth x.b k).toNat % 128 * 2 ^ (7 * min k 8)) : Nat) : Int)) (r := (((u + (nth x.b k).toNat % 128 * 2 ^ (7 * min k 8)) : Nat) : Int)) rfl rfl rfl (by rw [← Int.natCast_add]; exact w64 _ (by omega)) ?_)
   refine O_v rfl (R_assign (v := (.int .i64 (((u + (nth x.b k).toNat % 128 * 2 ^ (7 * min k 8)) : Nat) : Int))) rfl ?_)
   refine O_nil (Then_n (W_seq (W_seq (W_reg ?_))))
   refine O_v rfl (R_fieldAddr (off := 0) (oo := 0) Tryz.underlying110 rfl rfl Tryz.sizeOf22 rfl rfl ?_)
   refine O_v rfl (R_load1 (v := (slV x.bh x.b)) Tryz.isAgg22 rfl ((boxR_at (H65.getOwn 1 rfl)).chunks 0 1 0 0 _ rfl rfl rfl) ?_)
   refine O_v rfl (R_move (v := (.int .i64 ((k : Nat) : Int))) rfl ?_)
   refine O_v rfl (R_index_pure (H65.sl 0 rfl) (n := x.b.length) rfl (j := ((k : Nat) : Int)) (oo := (x.bh.o + k * 1)) Tryz.underlying22 Tryz.sizeOf5 rfl rfl (by omega) (by omega) rfl ?_)
   refine O_v rfl (R_load1 (v := (.int .u8 ((nth x.b k).toNat : Int))) Tryz.isAgg5 rfl ((Sl.elem (H65.sl 0 rfl) (i := k) (by omega) rfl).chunks 0 1 0 (x.bh.o + k * 1) _ rfl rfl rfl) ?_)
   refine O_v rfl (R_cmp (a := ((nth x.b k).toNat : Int)) (b := 128) (r := (decide (((nth x.b k).toNat : Int) < 128))) rfl rfl rfl ?_)
   refine O_nil (Then_n ?_)
   refine W_cond (t := (decide (((nth x.b k).toNat : Int) < 128))) rfl (fun hc77 => ?_) (fun hc77 => ?_)
   ·have hc77 : (((nth x.b k).toNat : Int) < 128) := (of_decide_eq_true hc77)
    have hB := hc77
    refine W_seq (W_seq ?_)
    refine W_rg [(0, .q 0), (1, .q 0), (2, .q 0), (3, .q 0), (4, .q 0), (5, .q 0), (6, .q 0), (7, .q 0), (8, .q 0), (9, .q 0), (10, .q 0), (11, .q 0), (12, .q 0), (13, .q 0), (14, .q 0), (15, .q 0), (16, .q 0), (17, .q 0), (18, .q 0)] (by kernel_rfl) ?_
    refine Lx_q (i := 0) rfl rfl _ (fun v78 hv79 => R_fieldAddr (off := 0) (oo := 0) Tryz.underlying110 rfl rfl Tryz.sizeOf22 rfl rfl ⟨rfl, Gr.refl _ _⟩) ?_
    refine Lx_q (i := 1) rfl rfl _ (fun v80 hv81 => R_load1 (v := (slV x.bh x.b)) Tryz.isAgg22 rfl ((boxR_at ((H65.ext hv81).getOwn 1 rfl)).chunks 0 1 0 0 _ rfl rfl rfl) ⟨rfl, Gr.refl _ _⟩) ?_
    refine Lx_q (i := 2) rfl rfl _ (fun v82 hv83 => R_move (v := (.int .i64 ((k : Nat) : Int))) rfl ⟨rfl, Gr.refl _ _⟩) ?_
    refine Lx_q (i := 3) rfl rfl _ (fun v84 hv85 => R_index_pure (H65.sl 0 rfl) (n := x.b.length) rfl (j := ((k : Nat) : Int)) (oo := (x.bh.o + k * 1)) Tryz.underlying22 Tryz.sizeOf5 rfl rfl (by omega) (by omega) rfl ⟨rfl, Gr.refl _ _⟩) ?_
    refine Lx_q (i := 4) rfl rfl _ (fun v86 hv87 => R_load1 (v := (.int .u8 ((nth x.b k).toNat : Int))) Tryz.isAgg5 rfl ((Sl.elem ((H65.ext hv87).sl 0 rfl) (i := k) (by omega) rfl).chunks 0 1 0 (x.bh.o + k * 1) _ rfl rfl rfl) ⟨rfl, Gr.refl _ _⟩) ?_
    refine Lx_q (i := 5) rfl rfl _ (fun v88 hv89 => R_cmp (a := ((nth x.b k).toNat : Int)) (b := 0) (r := (decide (((nth x.b k).toNat : Int) = 0))) rfl rfl rfl ⟨rfl, Gr.refl _ _⟩) ?_
    refine Lx_q (i := 6) rfl rfl _ (fun v90 hv91 => R_move (v := (.bool (decide (((nth x.b k).toNat : Int) = 0)))) rfl ⟨rfl, Gr.refl _ _⟩) ?_
    refine Lx_qg (i := 7) true (decide (((nth x.b k).toNat : Int) = 0)) rfl rfl rfl rfl rfl (decide (((nth x.b k).toNat : Int) = 0)) ga_t _ (fun hA v92 hv93 => R_move (v := (.int .i64 ((k : Nat) : Int))) rfl ⟨rfl, Gr.refl _ _⟩) ?_
    refine Lx_qg (i := 8) true (decide (((nth x.b k).toNat : Int) = 0)) rfl rfl rfl rfl rfl (decide (((nth x.b k).toNat : Int) = 0)) ga_t _ (fun hA v94 hv95 => R_cmp (a := ((k : Nat) : Int)) (b := 0) (r := (decide (0 < ((k : Nat) : Int)))) (gv_t hA) rfl rfl ⟨rfl, Gr.refl _ _⟩) ?_
    refine Lx_q (i := 9) rfl rfl _ (fun v96 hv97 => R_pick (t := (decide (((nth x.b k).toNat : Int) = 0))) (v := (.bool ((decide (((nth x.b k).toNat : Int) = 0)) && (decide (0 < ((k : Nat) : Int)))))) rfl pk_and ⟨rfl, Gr.refl _ _⟩) ?_
    refine Lx_q (i := 10) rfl rfl _ (fun v98 hv99 => R_move (v := (.bool ((decide (((nth x.b k).toNat : Int) = 0)) && (decide (0 < ((k : Nat) : Int)))))) rfl ⟨rfl, Gr.refl _ _⟩) ?_
    refine Lx_qg (i := 11) true ((decide (((nth x.b k).toNat : Int) = 0)) && (decide (0 < ((k : Nat) : Int)))) rfl rfl rfl rfl rfl (!((decide (((nth x.b k).toNat : Int) = 0)) && (decide (0 < ((k : Nat) : Int))))) ga_f _ (fun hA v100 hv101 => R_move (v := (.int .i64 (((u + (nth x.b k).toNat % 128 * 2 ^ (7 * min k 8)) : Nat) : Int))) rfl ⟨rfl, Gr.refl _ _⟩) ?_
    refine Lx_qg (i := 12) true ((decide (((nth x.b k).toNat : Int) = 0)) && (decide (0 < ((k : Nat) : Int)))) rfl rfl rfl rfl rfl (!((decide (((nth x.b k).toNat : Int) = 0)) && (decide (0 < ((k : Nat) : Int))))) ga_f _ (fun hA v102 hv103 => R_cmp (a := (((u + (nth x.b k).toNat % 128 * 2 ^ (7 * min k 8)) : Nat) : Int)) (b := 4611686018427387904) (r := (decide (4611686018427387904 < (((u + (nth x.b k).toNat % 128 * 2 ^ (7 * min k 8)) : Nat) : Int)))) (gv_t hA) rfl rfl ⟨rfl, Gr.refl _ _⟩) ?_
    refine Lx_q (i := 13) rfl rfl _ (fun v104 hv105 => R_pick (t := ((decide (((nth x.b k).toNat : Int) = 0)) && (decide (0 < ((k : Nat) : Int))))) (v := (.bool (((decide (((nth x.b k).toNat : Int) = 0)) && (decide (0 < ((k : Nat) : Int)))) || (decide (4611686018427387904 < (((u + (nth x.b k).toNat % 128 * 2 ^ (7 * min k 8)) : Nat) : Int)))))) rfl pk_or ⟨rfl, Gr.refl _ _⟩) ?_
    refine Lx_q (i := 14) rfl rfl _ (fun v106 hv107 => R_move (v := (.bool (((decide (((nth x.b k).toNat : Int) = 0)) && (decide (0 < ((k : Nat) : Int)))) || (decide (4611686018427387904 < (((u + (nth x.b k).toNat % 128 * 2 ^ (7 * min k 8)) : Nat) : Int)))))) rfl ⟨rfl, Gr.refl _ _⟩) ?_
    refine Lx_qg (i := 15) true (((decide (((nth x.b k).toNat : Int) = 0)) && (decide (0 < ((k : Nat) : Int)))) || (decide (4611686018427387904 < (((u + (nth x.b k).toNat % 128 * 2 ^ (7 * min k 8)) : Nat) : Int)))) rfl rfl rfl rfl rfl (!(((decide (((nth x.b k).toNat : Int) = 0)) && (decide (0 < ((k : Nat) : Int)))) || (decide (4611686018427387904 < (((u + (nth x.b k).toNat % 128 * 2 ^ (7 * min k 8)) : Nat) : Int))))) ga_f _ (fun hA v108 hv109 => R_move (v := (.int .i64 (((u + (nth x.b k).toNat % 128 * 2 ^ (7 * min k 8)) : Nat) : Int))) rfl ⟨rfl, Gr.refl _ _⟩) ?_
    refine Lx_qg (i := 16) true (((decide (((nth x.b k).toNat : Int) = 0)) && (decide (0 < ((k : Nat) : Int)))) || (decide (4611686018427387904 < (((u + (nth x.b k).toNat % 128 * 2 ^ (7 * min k 8)) : Nat) : Int)))) rfl rfl rfl rfl rfl (!(((decide (((nth x.b k).toNat : Int) = 0)) && (decide (0 < ((k : Nat) : Int)))) || (decide (4611686018427387904 < (((u + (nth x.b k).toNat % 128 * 2 ^ (7 * min k 8)) : Nat) : Int))))) ga_f _ (fun hA v110 hv111 => R_move (v := (.int .i64 most)) rfl ⟨rfl, Gr.refl _ _⟩) ?_
    refine Lx_qg (i := 17) true (((decide (((nth x.b k).toNat : Int) = 0)) && (decide (0 < ((k : Nat) : Int)))) || (decide (4611686018427387904 < (((u + (nth x.b k).toNat % 128 * 2 ^ (7 * min k 8)) : Nat) : Int)))) rfl rfl rfl rfl rfl (!(((decide (((nth x.b k).toNat : Int) = 0)) && (decide (0 < ((k : Nat) : Int)))) || (decide (4611686018427387904 < (((u + (nth x.b k).toNat % 128 * 2 ^ (7 * min k 8)) : Nat) : Int))))) ga_f _ (fun hA v112 hv113 => R_cmp (a := (((u + (nth x.b k).toNat % 128 * 2 ^ (7 * min k 8)) : Nat) : Int)) (b := most) (r := (decide (most < (((u + (nth x.b k).toNat % 128 * 2 ^ (7 * min k 8)) : Nat) : Int)))) (gv_t hA) (gv_t hA) rfl ⟨rfl, Gr.refl _ _⟩) ?_
    refine Lx_q (i := 18) rfl rfl _ (fun v114 hv115 => R_pick (t := (((decide (((nth x.b k).toNat : Int) = 0)) && (decide (0 < ((k : Nat) : Int)))) || (decide (4611686018427387904 < (((u + (nth x.b k).toNat % 128 * 2 ^ (7 * min k 8)) : Nat) : Int))))) (v := (.bool ((((decide (((nth x.b k).toNat : Int) = 0)) && (decide (0 < ((k : Nat) : Int)))) || (decide (4611686018427387904 < (((u + (nth x.b k).toNat % 128 * 2 ^ (7 * min k 8)) : Nat) : Int)))) || (decide (most < (((u + (nth x.b k).toNat % 128 * 2 ^ (7 * min k 8)) : Nat) : Int)))))) rfl pk_or ⟨rfl, Gr.refl _ _⟩) ?_
    refine Lx_nil (fun w116 hw117 => ?_)
    have H118 := H65.ext hw117
    refine Then_n ?_
    refine W_cond (t := ((((decide (((nth x.b k).toNat : Int) = 0)) && (decide (0 < ((k : Nat) : Int)))) || (decide (4611686018427387904 < (((u + (nth x.b k).toNat % 128 * 2 ^ (7 * min k 8)) : Nat) : Int)))) || (decide (most < (((u + (nth x.b k).toNat % 128 * 2 ^ (7 * min k 8)) : Nat) : Int))))) rfl (fun hc119 => ?_) (fun hc119 => ?_)
    ·have hc119 : ((((((nth x.b k).toNat : Int) = 0) ∧ (0 < ((k : Nat) : Int))) ∨ (4611686018427387904 < (((u + (nth x.b k).toNat % 128 * 2 ^ (7 * min k 8)) : Nat) : Int))) ∨ (most < (((u + (nth x.b k).toNat % 128 * 2 ^ (7 * min k 8)) : Nat) : Int))) := (Or.imp (fun h => (Or.imp (fun h => (And.imp (fun h => (of_decide_eq_true h)) (fun h => (of_decide_eq_true h)) (andT h))) (fun h => (of_decide_eq_true h)) (orT h))) (fun h => (of_decide_eq_true h)) (orT hc119))
     refine W_seq (W_reg ?_)
     refine O_v rfl (R_callL (vs := []) ref02_GetNum_c109 rfl rfl ((ref02_failed  w116 ).ret ?_))
     rintro _ w121 ⟨x120, rfl, hx122, hr123, hs124⟩
     have H125 := H118.ext hx122
     have H126 := H125.addImm' (slI nob encB 1 x120.bh x120.b) hs124 (fun _ h => h.elim)
     refine O_v rfl (R_assign (v := (.int .i64 0)) rfl ?_)
     refine O_u (C_storeA H126 0 rfl 0 (sub := [[(slV x120.bh x120.b)], [(.bool x120.bad)]]) [[(slV x120.bh x120.b)], [(.bool x120.bad)]] Tryz.sizeOf110 rfl rfl rfl rfl ⟨[[(.slice none 0 0)], [(.bool false)]], [], rfl, rfl, rfl⟩ rfl ?_)
     intro w127 hg128 H129
     refine O_nil (Then_n (W_ret (Then_r (Then_r (Blk_r (Then_r (Then_r (Blk_r (Then_r ?_)))))))))
     refine ret_tc (v := (.int .i64 0)) Tryz.results72 rfl (inMem (cs := [[(slV x120.bh x120.b)], [(.bool x120.bad)]]) rfl Tryz.isAgg110 Tryz.sizeOf110 rfl (boxR_at (H129.getOwn 0 rfl))) ?_
     exact ⟨x120, (two_val (gn_no hgo hu hC hB (by assumption))), H129.gr, (hr123.trans (congrArg Prod.snd (gn_no hgo hu hC hB (by assumption)))), ((H129.sl 0 rfl).mono (fun _ h => h.elim))⟩
    ·have hc119 : (((¬ (((nth x.b k).toNat : Int) = 0) ∨ ¬ (0 < ((k : Nat) : Int))) ∧ ¬ (4611686018427387904 < (((u + (nth x.b k).toNat % 128 * 2 ^ (7 * min k 8)) : Nat) : Int))) ∧ ¬ (most < (((u + (nth x.b k).toNat % 128 * 2 ^ (7 * min k 8)) : Nat) : Int))) := (And.imp (fun h => (And.imp (fun h => (Or.imp (fun h => (of_decide_eq_false h)) (fun h => (of_decide_eq_false h)) (andF h))) (fun h => (of_decide_eq_false h)) (orF h))) (fun h => (of_decide_eq_false h)) (orF hc119))
     refine W_skip (Then_n (W_seq ?_))
     refine W_rgdM TryzMixed nob (fun i => if i == 8 then 2 else 0) [(0, .q 2), (1, .q 2), (2, .q 0), (3, .q 2), (4, .q 2), (5, .q 2), (6, .q 2), (7, .q 2), (8, .c 2)] (by kernel_rfl) ?_
     refine Lx_q (i := 0) rfl rfl _ (fun v130 hv131 => R_move (v := (.int .i64 (((u + (nth x.b k).toNat % 128 * 2 ^ (7 * min k 8)) : Nat) : Int))) rfl ⟨rfl, Gr.refl _ _⟩) ?_
     refine Lx_q (i := 1) rfl rfl _ (fun v132 hv133 => R_fieldAddr (off := 0) (oo := 0) Tryz.underlying110 rfl rfl Tryz.sizeOf22 rfl rfl ⟨rfl, Gr.refl _ _⟩) ?_
     refine Lx_q (i := 2) rfl rfl _ (fun v134 hv135 => R_load1 (v := (slV x.bh x.b)) Tryz.isAgg22 rfl ((boxR_at ((H118.ext hv135).getOwn 1 rfl)).chunks 0 1 0 0 _ rfl rfl rfl) ⟨rfl, Gr.refl _ _⟩) ?_
     refine Lx_q (i := 3) rfl rfl _ (fun v136 hv137 => R_move (v := (.int .i64 ((k : Nat) : Int))) rfl ⟨rfl, Gr.refl _ _⟩) ?_
     refine Lx_q (i := 4) rfl rfl _ (fun v138 hv139 => R_arith (a := ((k : Nat) : Int)) (b := 1) (r0 := ((k : Nat) : Int) + 1) (r := ((k + 1 : Nat) : Int)) rfl rfl rfl (wrapN _ (by omega)) ⟨rfl, Gr.refl _ _⟩) ?_
     refine Lx_q (i := 5) rfl rfl _ (fun v140 hv141 => R_sliceS (h := x.bh) (l := x.b) (a := (k + 1)) (b := x.b.length) (m := x.bh.c) (x.b.drop (k + 1)) Tryz.underlying22 Tryz.sizeOf5 rfl rfl rfl rfl (by decide) (by omega) (by first | omega | exact Nat.le_refl _) (by have := Sl.cap (H118.sl 0 rfl); omega) (by first | omega | exact Nat.le_refl _ | (have := Sl.cap (H118.sl 0 rfl); omega)) (by rw [List.take_length])  ⟨rfl, Gr.refl _ _⟩) ?_
     refine Lx_q (i := 6) rfl rfl _ (fun v142 hv143 => R_buildL (vs := [(0, (slV (hSub x.bh 1 (k + 1) x.bh.c) (x.b.drop (k + 1)))), (1, (.bool false))]) (v := aggOf [[(slV (hSub x.bh 1 (k + 1) x.bh.c) (x.b.drop (k + 1)))], [(.bool false)]]) rfl (fun _ => by kernel_rfl) ⟨rfl, Gr.refl _ _⟩) ?_
     refine Lx_q (i := 7) rfl rfl _ (fun v144 hv145 => R_assign (v := (.int .i64 (((u + (nth x.b k).toNat % 128 * 2 ^ (7 * min k 8)) : Nat) : Int))) rfl ⟨rfl, Gr.refl _ _⟩) ?_
     refine Lx_cu (i := 8) rfl (fun w146 hw147 => ?_)
     have H148 := H118.ext hw147
     refine (C_storeA H148 0 rfl 0 (sub := [[(slV (hSub x.bh 1 (k + 1) x.bh.c) (x.b.drop (k + 1)))], [(.bool false)]]) [[(slV (hSub x.bh 1 (k + 1) x.bh.c) (x.b.drop (k + 1)))], [(.bool false)]] Tryz.sizeOf110 rfl rfl rfl rfl ⟨[[(.slice none 0 0)], [(.bool false)]], [], rfl, rfl, rfl⟩ rfl ?_)
     intro w149 hg150 H151
     refine ⟨Gr.mono (M' := fun _ => True) hg150 (fun _ _ => trivial), ?_⟩
     refine Lx_nil (fun w152 hw153 => ?_)
     have H154 := H151.ext hw153
     refine Then_n (W_ret (Then_r (Blk_r (Then_r (Then_r (Blk_r (Then_r ?_)))))))
     refine ret_tc (v := (.int .i64 (((u + (nth x.b k).toNat % 128 * 2 ^ (7 * min k 8)) : Nat) : Int))) Tryz.results72 rfl (inMem (cs := [[(slV (hSub x.bh 1 (k + 1) x.bh.c) (x.b.drop (k + 1)))], [(.bool false)]]) rfl Tryz.isAgg110 Tryz.sizeOf110 rfl (boxR_at (H154.getOwn 0 rfl))) ?_
     exact ⟨({ b := x.b.drop (k + 1), bh := hSub x.bh 1 (k + 1) x.bh.c, bad := false } : RdS), (two_val (gn_yes hgo hu hC hB (by assumption))), H154.gr, (congrArg Prod.snd (gn_yes hgo hu hC hB (by assumption))), (Sl.sub (H154.sl 0 rfl) (k + 1) x.b.length x.bh.c (by omega) (by first | omega | exact Nat.le_refl _) (by have := Sl.cap (H118.sl 0 rfl); omega) (by first | omega | exact Nat.le_refl _ | (have := Sl.cap (H118.sl 0 rfl); omega)) (by rw [List.take_length]))⟩
   ·have hc77 : ¬ (((nth x.b k).toNat : Int) < 128) := (of_decide_eq_false hc77)
    have hB := hc77
    refine W_skip (Then_n (W_seq (W_reg ?_)))
    refine O_v rfl (R_move (v := (.int .i64 ((k : Nat) : Int))) rfl ?_)
    refine O_v rfl (R_cmp (a := ((k : Nat) : Int)) (b := 8) (r := (decide (((k : Nat) : Int) < 8))) rfl rfl rfl ?_)
    refine O_nil (Then_n ?_)
    refine W_cond (t := (decide (((k : Nat) : Int) < 8))) rfl (fun hc155 => ?_) (fun hc155 => ?_)
    ·have hc155 : (((k : Nat) : Int) < 8) := (of_decide_eq_true hc155)
     refine W_reg ?_
     refine O_v rfl (R_move (v := (.int .i64 ((2 ^ (7 * min k 8) : Nat) : Int))) rfl ?_)
     refine O_v rfl (R_arith (a := ((2 ^ (7 * min k 8) : Nat) : Int)) (b := 128) (r0 := ((2 ^ (7 * min k 8) : Nat) : Int) * 128) (r := (((2 ^ (7 * min k 8) * 128) : Nat) : Int)) rfl rfl rfl (by have := gn_unit (k := k) (by omega); rw [show (128 : Int) = ((128 : Nat) : Int) from rfl, ← Int.natCast_mul]; exact w64 _ (by omega)) ?_)
     refine O_v rfl (R_assign (v := (.int .i64 (((2 ^ (7 * min k 8) * 128) : Nat) : Int))) rfl ?_)
     refine O_nil (Blk_n (Then_n (W_reg ?_)))
     refine O_v rfl (R_move (v := (.int .i64 ((k : Nat) : Int))) rfl ?_)
     refine O_v rfl (R_arith (a := ((k : Nat) : Int)) (b := 1) (r0 := ((k : Nat) : Int) + 1) (r := ((k + 1 : Nat) : Int)) rfl rfl rfl (wrapN _ (by omega)) ?_)
     refine O_v rfl (R_assign (v := (.int .i64 ((k + 1 : Nat) : Int))) rfl ?_)
     refine O_nil (Then_n ?_)
     refine ⟨_, ?_, (k + 1), (u + (nth x.b k).toNat % 128 * 2 ^ (7 * min k 8)), rfl, (by omega), (gn_lt hu (by omega)), (gn_next hgo hu hC hB), _, envL_self ⟨rfl, rfl, rfl, rfl, (by first | exact gn_unitA (by omega) | exact gn_unitB (by omega)), rfl, trivial⟩, H65⟩
     omega
    ·have hc155 : ¬ (((k : Nat) : Int) < 8) := (of_decide_eq_false hc155)
     refine W_skip (Blk_n (Then_n (W_reg ?_)))
     refine O_v rfl (R_move (v := (.int .i64 ((k : Nat) : Int))) rfl ?_)
     refine O_v rfl (R_arith (a := ((k : Nat) : Int)) (b := 1) (r0 := ((k : Nat) : Int) + 1) (r := ((k + 1 : Nat) : Int)) rfl rfl rfl (wrapN _ (by omega)) ?_)
     refine O_v rfl (R_assign (v := (.int .i64 ((k + 1 : Nat) : Int))) rfl ?_)
     refine O_nil (Then_n ?_)
     refine ⟨_, ?_, (k + 1), (u + (nth x.b k).toNat % 128 * 2 ^ (7 * min k 8)), rfl, (by omega), (gn_lt hu (by omega)), (gn_next hgo hu hC hB), _, envL_self ⟨rfl, rfl, rfl, rfl, (by first | exact gn_unitA (by omega) | exact gn_unitB (by omega)), rfl, trivial⟩, H65⟩
     omega
 ·have hc50 : ((¬ (((k : Nat) : Int) < ((x.b.length : Nat) : Int)) ∨ ¬ (((k : Nat) : Int) < 9)) ∨ x.bad = true) := (Or.imp (fun h => (Or.imp (fun h => (of_decide_eq_false h)) (fun h => (of_decide_eq_false h)) (andF h))) (fun h => (notF h)) (andF hc50))
  refine W_exit (Then_x (Then_x (Blk_x (Then_n (W_seq (W_reg ?_))))))
  refine O_v rfl (R_callL (vs := []) ref02_GetNum_c109 rfl rfl ((ref02_failed  w47 ).ret ?_))
  rintro _ w157 ⟨x156, rfl, hx158, hr159, hs160⟩
  have H161 := H49.ext hx158
  have H162 := H161.addImm' (slI nob encB 1 x156.bh x156.b) hs160 (fun _ h => h.elim)
  refine O_v rfl (R_assign (v := (.int .i64 0)) rfl ?_)
  refine O_u (C_storeA H162 0 rfl 0 (sub := [[(slV x156.bh x156.b)], [(.bool x156.bad)]]) [[(slV x156.bh x156.b)], [(.bool x156.bad)]] Tryz.sizeOf110 rfl rfl rfl rfl ⟨[[(.slice none 0 0)], [(.bool false)]], [], rfl, rfl, rfl⟩ rfl ?_)
  intro w163 hg164 H165
  refine O_nil (Then_n (W_ret ?_))
  refine ret_tc (v := (.int .i64 0)) Tryz.results72 rfl (inMem (cs := [[(slV x156.bh x156.b)], [(.bool x156.bad)]]) rfl Tryz.isAgg110 Tryz.sizeOf110 rfl (boxR_at (H165.getOwn 0 rfl))) ?_
  exact ⟨x156, (two_val (gn_end hgo hk (by assumption))), H165.gr, (hr159.trans (congrArg Prod.snd (gn_end hgo hk (by assumption)))), ((H165.sl 0 rfl).mono (fun _ h => h.elim))⟩

end Go.Proofs.YthjdhfoeckfmbaaGreat
namespace Go.Proofs.YthjdhfoeckfmbaaGreat
open Go
set_option maxRecDepth 100000
set_option linter.unusedVariables false
set_option linter.unusedSimpArgs false
set_option linter.unusedSectionVars false
variable [DD]
theorem ref02_GetText_c72 : callable Tryz.prog 72 = true := by kernel_rfl
theorem ref02_GetText_c109 : callable Tryz.prog 109 = true := by kernel_rfl
set_option maxHeartbeats 1000000 in
theorem ref02_GetText (x : RdS) (Fx : Nat → Prop) (q : List UInt8 × Bool) (most : Int) (w : World) (Sx : Sl Fx encB 1 x.bh x.b w) (XFx : ∀ b, Fx b → b < w.heap.size) (Ex : x.st = q) :
    Calls Tryz.prog 78 #[(aggOf (rdCh x)), (.int .i64 most)] w (Ret fun v w' => ∃ X : RdS, v = .tuple #[(.string ((rdText q most).1)), rdV X] ∧ Ext w w' ∧ X.st = (rdText q most).2 ∧ Sl Fx encB 1 X.bh X.b w') := by
 refine calls_W Tryz.func78 rfl Tryz.ntmps78 rfl ?_
 have H0 := Ctx.start w nob
 have H1 := H0.addSl _ Sx (fun b hb => ⟨XFx b hb, fun _ ho => (nomatch ho)⟩)
 have LSx := Sx.len
 refine W_seq (W_reg ?_)
 refine O_v rfl (C_box H1 [[(slV x.bh x.b)], [(.bool x.bad)]] rfl ?_)
 intro b4 w5 hb6 hx7 H8
 refine O_v rfl (R_assign (v := (.string ByteArray.empty)) rfl ?_)
 refine O_v rfl (C_alloc H8 [[(.slice none 0 0)], [(.bool false)]] Tryz.zeroValue110 ?_)
 intro b9 w10 hb11 hx12 H13
 refine O_nil (Then_n (W_seq (W_reg ?_)))
 refine O_v rfl (R_loadA (cs := [[(slV x.bh x.b)], [(.bool x.bad)]]) Tryz.isAgg110 Tryz.sizeOf110 rfl rfl ((boxR_at (H13.getOwn 1 rfl)).chunks 0 2 0 0 _ rfl rfl rfl) ?_)
 refine O_v rfl (R_move (v := (.int .i64 most)) rfl ?_)
 refine O_v rfl (R_callL (vs := [(aggOf (rdCh x)), (.int .i64 most)]) ref02_GetText_c72 rfl rfl ((ref02_GetNum x Fx q most w10 (H13.sl 0 rfl) (H13.imm _ (List.mem_of_getElem? (i := 0) rfl)).2 Ex).ret ?_))
 rintro _ w15 ⟨x14, rfl, hx16, hr17, hs18⟩
 have H19 := H13.ext hx16
 have H20 := H19.immOf 0 rfl (slI Fx encB 1 x14.bh x14.b) (fun _ h => h) (fun _ => hs18)
 refine O_v rfl (R_move (v := (.tuple #[(.int .i64 ((((rdNum q most).1) : Nat) : Int)), (aggOf (rdCh x14))])) rfl ?_)
 refine O_v rfl (R_extract (v := (.int .i64 ((((rdNum q most).1) : Nat) : Int))) rfl rfl ?_)
 refine O_v rfl (R_extract (v := (aggOf (rdCh x14))) rfl rfl ?_)
 refine O_v rfl (C_alloc H20 [[(.slice none 0 0)], [(.bool false)]] Tryz.zeroValue110 ?_)
 intro b21 w22 hb23 hx24 H25
 refine O_v rfl (R_assign (v := (.int .i64 ((((rdNum q most).1) : Nat) : Int))) rfl ?_)
 refine O_u (C_storeA H25 0 rfl 0 (sub := [[(slV x14.bh x14.b)], [(.bool x14.bad)]]) [[(slV x14.bh x14.b)], [(.bool x14.bad)]] Tryz.sizeOf110 rfl rfl rfl rfl ⟨[[(.slice none 0 0)], [(.bool false)]], [], rfl, rfl, rfl⟩ rfl ?_)
 intro w26 hg27 H28
 refine O_nil (Then_n (W_seq (W_seq ?_)))
 refine W_rg [(0, .q 0), (1, .q 0), (2, .q 0), (3, .q 0), (4, .q 0), (5, .q 0), (6, .q 0), (7, .q 0), (8, .q 0)] (by kernel_rfl) ?_
 refine Lx_q (i := 0) rfl rfl _ (fun v29 hv30 => R_fieldAddr (off := 1) (oo := 1) Tryz.underlying110 rfl rfl Tryz.sizeOf4 rfl rfl ⟨rfl, Gr.refl _ _⟩) ?_
 refine Lx_q (i := 1) rfl rfl _ (fun v31 hv32 => R_load1 (v := (.bool x14.bad)) Tryz.isAgg4 rfl ((boxR_at ((H28.ext hv32).getOwn 0 rfl)).chunks 1 1 1 1 _ rfl rfl rfl) ⟨rfl, Gr.refl _ _⟩) ?_
 refine Lx_q (i := 2) rfl rfl _ (fun v33 hv34 => R_move (v := (.bool x14.bad)) rfl ⟨rfl, Gr.refl _ _⟩) ?_
 refine Lx_qg (i := 3) true x14.bad rfl rfl rfl rfl rfl (!x14.bad) ga_f _ (fun hA v35 hv36 => R_move (v := (.int .i64 ((((rdNum q most).1) : Nat) : Int))) rfl ⟨rfl, Gr.refl _ _⟩) ?_
 refine Lx_qg (i := 4) true x14.bad rfl rfl rfl rfl rfl (!x14.bad) ga_f _ (fun hA v37 hv38 => R_fieldAddr (off := 0) (oo := 0) Tryz.underlying110 rfl rfl Tryz.sizeOf22 rfl rfl ⟨rfl, Gr.refl _ _⟩) ?_
 refine Lx_qg (i := 5) true x14.bad rfl rfl rfl rfl rfl (!x14.bad) ga_f _ (fun hA v39 hv40 => R_load1 (v := (slV x14.bh x14.b)) Tryz.isAgg22 (gv_t hA) ((boxR_at ((H28.ext hv40).getOwn 0 rfl)).chunks 0 1 0 0 _ rfl rfl rfl) ⟨rfl, Gr.refl _ _⟩) ?_
 refine Lx_qg (i := 6) true x14.bad rfl rfl rfl rfl rfl (!x14.bad) ga_f _ (fun hA v41 hv42 => R_len_slice (a := x14.bh.a) (n := x14.b.length) (c := x14.bh.c) Tryz.underlying22 (gv_t hA) ⟨rfl, Gr.refl _ _⟩) ?_
 refine Lx_qg (i := 7) true x14.bad rfl rfl rfl rfl rfl (!x14.bad) ga_f _ (fun hA v43 hv44 => R_cmp (a := ((((rdNum q most).1) : Nat) : Int)) (b := ((x14.b.length : Nat) : Int)) (r := (decide (((x14.b.length : Nat) : Int) < ((((rdNum q most).1) : Nat) : Int)))) (gv_t hA) (gv_t hA) rfl ⟨rfl, Gr.refl _ _⟩) ?_
 refine Lx_q (i := 8) rfl rfl _ (fun v45 hv46 => R_pick (t := x14.bad) (v := (.bool (x14.bad || (decide (((x14.b.length : Nat) : Int) < ((((rdNum q most).1) : Nat) : Int)))))) rfl pk_or ⟨rfl, Gr.refl _ _⟩) ?_
 refine Lx_nil (fun w47 hw48 => ?_)
 have H49 := H28.ext hw48
 refine Then_n ?_
 refine W_cond (t := (x14.bad || (decide (((x14.b.length : Nat) : Int) < ((((rdNum q most).1) : Nat) : Int))))) rfl (fun hc50 => ?_) (fun hc50 => ?_)
 ·have hc50 : (x14.bad = true ∨ (((x14.b.length : Nat) : Int) < ((((rdNum q most).1) : Nat) : Int))) := (Or.imp (fun h => h) (fun h => (of_decide_eq_true h)) (orT hc50))
  refine W_seq (W_reg ?_)
  refine O_v rfl (R_callL (vs := []) ref02_GetText_c109 rfl rfl ((ref02_failed  w47 ).ret ?_))
  rintro _ w52 ⟨x51, rfl, hx53, hr54, hs55⟩
  have H56 := H49.ext hx53
  have H57 := H56.addImm' (slI nob encB 1 x51.bh x51.b) hs55 (fun _ h => h.elim)
  refine O_v rfl (R_assign (v := (.string ByteArray.empty)) rfl ?_)
  refine O_u (C_storeA H57 1 rfl 0 (sub := [[(slV x51.bh x51.b)], [(.bool x51.bad)]]) [[(slV x51.bh x51.b)], [(.bool x51.bad)]] Tryz.sizeOf110 rfl rfl rfl rfl ⟨[[(.slice none 0 0)], [(.bool false)]], [], rfl, rfl, rfl⟩ rfl ?_)
  intro w58 hg59 H60
  refine O_nil (Then_n (W_ret (Then_r ?_)))
  refine ret_tc (v := (.string ByteArray.empty)) Tryz.results78 rfl (inMem (cs := [[(slV x51.bh x51.b)], [(.bool x51.bad)]]) rfl Tryz.isAgg110 Tryz.sizeOf110 rfl (boxR_at (H60.getOwn 1 rfl))) ?_
  exact ⟨x51, (gt_f hr17 (by assumption)).1, H60.gr, (hr54.trans (gt_f (v := .bool true) hr17 (by assumption)).2), ((H60.sl 0 rfl).mono (fun _ h => h.elim))⟩
 ·have hc50 : (x14.bad = false ∧ ¬ (((x14.b.length : Nat) : Int) < ((((rdNum q most).1) : Nat) : Int))) := (And.imp (fun h => h) (fun h => (of_decide_eq_false h)) (orF hc50))
  refine W_skip (Then_n (W_seq ?_))
  refine W_rgdM TryzMixed nob (fun i => if i == 11 then 2 else 0) [(0, .q 2), (1, .q 0), (2, .q 2), (3, .q 2), (4, .q 0), (5, .q 2), (6, .q 0), (7, .q 2), (8, .q 2), (9, .q 2), (10, .q 2), (11, .c 2)] (by kernel_rfl) ?_
  refine Lx_q (i := 0) rfl rfl _ (fun v61 hv62 => R_fieldAddr (off := 0) (oo := 0) Tryz.underlying110 rfl rfl Tryz.sizeOf22 rfl rfl ⟨rfl, Gr.refl _ _⟩) ?_
  refine Lx_q (i := 1) rfl rfl _ (fun v63 hv64 => R_load1 (v := (slV x14.bh x14.b)) Tryz.isAgg22 rfl ((boxR_at ((H49.ext hv64).getOwn 0 rfl)).chunks 0 1 0 0 _ rfl rfl rfl) ⟨rfl, Gr.refl _ _⟩) ?_
  refine Lx_q (i := 2) rfl rfl _ (fun v65 hv66 => R_move (v := (.int .i64 ((((rdNum q most).1) : Nat) : Int))) rfl ⟨rfl, Gr.refl _ _⟩) ?_
  refine Lx_q (i := 3) rfl rfl _ (fun v67 hv68 => R_sliceS (h := x14.bh) (l := x14.b) (a := 0) (b := ((rdNum q most).1)) (m := x14.bh.c) (x14.b.take ((rdNum q most).1)) Tryz.underlying22 Tryz.sizeOf5 rfl rfl rfl rfl (by decide) (by omega) (by first | omega | exact Nat.le_refl _) (by have := Sl.cap (H49.sl 0 rfl); omega) (by first | omega | exact Nat.le_refl _ | (have := Sl.cap (H49.sl 0 rfl); omega)) rfl  ⟨rfl, Gr.refl _ _⟩) ?_
  refine Lx_q (i := 4) rfl rfl _ (fun v69 hv70 => R_conv_bs (l := x14.b.take ((rdNum q most).1)) Tryz.underlying22 Tryz.underlying5 Tryz.underlying9 (Sl.sub ((H49.ext hv70).sl 0 rfl) 0 ((rdNum q most).1) x14.bh.c (by omega) (by first | omega | exact Nat.le_refl _) (by have := Sl.cap (H49.sl 0 rfl); omega) (by first | omega | exact Nat.le_refl _ | (have := Sl.cap (H49.sl 0 rfl); omega)) rfl) rfl ⟨rfl, Gr.refl _ _⟩) ?_
  refine Lx_q (i := 5) rfl rfl _ (fun v71 hv72 => R_fieldAddr (off := 0) (oo := 0) Tryz.underlying110 rfl rfl Tryz.sizeOf22 rfl rfl ⟨rfl, Gr.refl _ _⟩) ?_
  refine Lx_q (i := 6) rfl rfl _ (fun v73 hv74 => R_load1 (v := (slV x14.bh x14.b)) Tryz.isAgg22 rfl ((boxR_at ((H49.ext hv74).getOwn 0 rfl)).chunks 0 1 0 0 _ rfl rfl rfl) ⟨rfl, Gr.refl _ _⟩) ?_
  refine Lx_q (i := 7) rfl rfl _ (fun v75 hv76 => R_move (v := (.int .i64 ((((rdNum q most).1) : Nat) : Int))) rfl ⟨rfl, Gr.refl _ _⟩) ?_
  refine Lx_q (i := 8) rfl rfl _ (fun v77 hv78 => R_sliceS (h := x14.bh) (l := x14.b) (a := ((rdNum q most).1)) (b := x14.b.length) (m := x14.bh.c) (x14.b.drop ((rdNum q most).1)) Tryz.underlying22 Tryz.sizeOf5 rfl rfl rfl rfl (by decide) (by omega) (by first | omega | exact Nat.le_refl _) (by have := Sl.cap (H49.sl 0 rfl); omega) (by first | omega | exact Nat.le_refl _ | (have := Sl.cap (H49.sl 0 rfl); omega)) (by rw [List.take_length])  ⟨rfl, Gr.refl _ _⟩) ?_
  refine Lx_q (i := 9) rfl rfl _ (fun v79 hv80 => R_buildL (vs := [(0, (slV (hSub x14.bh 1 ((rdNum q most).1) x14.bh.c) (x14.b.drop ((rdNum q most).1)))), (1, (.bool false))]) (v := aggOf [[(slV (hSub x14.bh 1 ((rdNum q most).1) x14.bh.c) (x14.b.drop ((rdNum q most).1)))], [(.bool false)]]) rfl (fun _ => by kernel_rfl) ⟨rfl, Gr.refl _ _⟩) ?_
  refine Lx_q (i := 10) rfl rfl _ (fun v81 hv82 => R_assign (v := (.string (⟨(x14.b.take ((rdNum q most).1)).toArray⟩ : ByteArray))) rfl ⟨rfl, Gr.refl _ _⟩) ?_
  refine Lx_cu (i := 11) rfl (fun w83 hw84 => ?_)
  have H85 := H49.ext hw84
  refine (C_storeA H85 1 rfl 0 (sub := [[(slV (hSub x14.bh 1 ((rdNum q most).1) x14.bh.c) (x14.b.drop ((rdNum q most).1)))], [(.bool false)]]) [[(slV (hSub x14.bh 1 ((rdNum q most).1) x14.bh.c) (x14.b.drop ((rdNum q most).1)))], [(.bool false)]] Tryz.sizeOf110 rfl rfl rfl rfl ⟨[[(.slice none 0 0)], [(.bool false)]], [], rfl, rfl, rfl⟩ rfl ?_)
  intro w86 hg87 H88
  refine ⟨Gr.mono (M' := fun _ => True) hg87 (fun _ _ => trivial), ?_⟩
  refine Lx_nil (fun w89 hw90 => ?_)
  have H91 := H88.ext hw90
  refine Then_n (W_ret ?_)
  refine ret_tc (v := (.string (⟨(x14.b.take ((rdNum q most).1)).toArray⟩ : ByteArray))) Tryz.results78 rfl (inMem (cs := [[(slV (hSub x14.bh 1 ((rdNum q most).1) x14.bh.c) (x14.b.drop ((rdNum q most).1)))], [(.bool false)]]) rfl Tryz.isAgg110 Tryz.sizeOf110 rfl (boxR_at (H91.getOwn 1 rfl))) ?_
  exact ⟨({ b := x14.b.drop ((rdNum q most).1), bh := hSub x14.bh 1 ((rdNum q most).1) x14.bh.c, bad := false } : RdS), (gt_t hr17 (by assumption)).1, H91.gr, (gt_t (v := .bool true) hr17 (by assumption)).2, (Sl.sub (H91.sl 0 rfl) ((rdNum q most).1) x14.b.length x14.bh.c (by omega) (by first | omega | exact Nat.le_refl _) (by have := Sl.cap (H49.sl 0 rfl); omega) (by first | omega | exact Nat.le_refl _ | (have := Sl.cap (H49.sl 0 rfl); omega)) (by rw [List.take_length]))⟩

end Go.Proofs.YthjdhfoeckfmbaaGreat
namespace Go.Proofs.YthjdhfoeckfmbaaGreat
open Go
set_option maxRecDepth 100000
set_option linter.unusedVariables false
set_option linter.unusedSimpArgs false
set_option linter.unusedSectionVars false
variable [DD]
theorem ref03_GetStamp_c72 : callable Tryz.prog 72 = true := by kernel_rfl
set_option maxHeartbeats 1000000 in
theorem ref03_GetStamp (x : RdS) (Fx : Nat → Prop) (q : List UInt8 × Bool) (w : World) (Sx : Sl Fx encB 1 x.bh x.b w) (XFx : ∀ b, Fx b → b < w.heap.size) (Ex : x.st = q) :
    Calls Tryz.prog 110 #[(aggOf (rdCh x))] w (Ret fun v w' => ∃ X : RdS, v = .tuple #[(aggOf (stampCh ((rdAt q).1))), rdV X] ∧ Ext w w' ∧ X.st = (rdAt q).2 ∧ Sl Fx encB 1 X.bh X.b w') := by
 refine calls_W Tryz.func110 rfl Tryz.ntmps110 rfl ?_
 have H0 := Ctx.start w nob
 have H1 := H0.addSl _ Sx (fun b hb => ⟨XFx b hb, fun _ ho => (nomatch ho)⟩)
 have LSx := Sx.len
 refine W_seq (W_reg ?_)
 refine O_v rfl (C_box H1 [[(slV x.bh x.b)], [(.bool x.bad)]] rfl ?_)
 intro b4 w5 hb6 hx7 H8
 refine O_v rfl (C_alloc H8 [[(.int .i64 0)], [(.int .i64 0)]] Tryz.zeroValue69 ?_)
 intro b9 w10 hb11 hx12 H13
 refine O_v rfl (C_alloc H13 [[(.slice none 0 0)], [(.bool false)]] Tryz.zeroValue110 ?_)
 intro b14 w15 hb16 hx17 H18
 refine O_nil (Then_n (W_seq (W_reg ?_)))
 refine O_v rfl (R_loadA (cs := [[(slV x.bh x.b)], [(.bool x.bad)]]) Tryz.isAgg110 Tryz.sizeOf110 rfl rfl ((boxR_at (H18.getOwn 2 rfl)).chunks 0 2 0 0 _ rfl rfl rfl) ?_)
 refine O_v rfl (R_callL (vs := [(aggOf (rdCh x)), (.int .i64 1099511627776)]) ref03_GetStamp_c72 rfl rfl ((ref02_GetNum x Fx q 1099511627776 w15 (H18.sl 0 rfl) (H18.imm _ (List.mem_of_getElem? (i := 0) rfl)).2 Ex).ret ?_))
 rintro _ w20 ⟨x19, rfl, hx21, hr22, hs23⟩
 have H24 := H18.ext hx21
 have H25 := H24.immOf 0 rfl (slI Fx encB 1 x19.bh x19.b) (fun _ h => h) (fun _ => hs23)
 refine O_v rfl (R_move (v := (.tuple #[(.int .i64 ((((rdNum q 1099511627776).1) : Nat) : Int)), (aggOf (rdCh x19))])) rfl ?_)
 refine O_v rfl (R_extract (v := (.int .i64 ((((rdNum q 1099511627776).1) : Nat) : Int))) rfl rfl ?_)
 refine O_v rfl (R_extract (v := (aggOf (rdCh x19))) rfl rfl ?_)
 refine O_v rfl (C_alloc H25 [[(.slice none 0 0)], [(.bool false)]] Tryz.zeroValue110 ?_)
 intro b26 w27 hb28 hx29 H30
 refine O_v rfl (R_assign (v := (.int .i64 ((((rdNum q 1099511627776).1) : Nat) : Int))) rfl ?_)
 refine O_u (C_storeA H30 0 rfl 0 (sub := [[(slV x19.bh x19.b)], [(.bool x19.bad)]]) [[(slV x19.bh x19.b)], [(.bool x19.bad)]] Tryz.sizeOf110 rfl rfl rfl rfl ⟨[[(.slice none 0 0)], [(.bool false)]], [], rfl, rfl, rfl⟩ rfl ?_)
 intro w31 hg32 H33
 refine O_nil (Then_n (W_seq (W_reg ?_)))
 refine O_v rfl (R_loadA (cs := [[(slV x19.bh x19.b)], [(.bool x19.bad)]]) Tryz.isAgg110 Tryz.sizeOf110 rfl rfl ((boxR_at (H33.getOwn 0 rfl)).chunks 0 2 0 0 _ rfl rfl rfl) ?_)
 refine O_v rfl (R_callL (vs := [(aggOf (rdCh x19)), (.int .i64 65536)]) ref03_GetStamp_c72 rfl rfl ((ref02_GetNum x19 Fx ((rdNum q 1099511627776).2) 65536 w31 (H33.sl 0 rfl) (H33.imm _ (List.mem_of_getElem? (i := 0) rfl)).2 hr22).ret ?_))
 rintro _ w35 ⟨x34, rfl, hx36, hr37, hs38⟩
 have H39 := H33.ext hx36
 have H40 := H39.immOf 0 rfl (slI Fx encB 1 x34.bh x34.b) (fun _ h => h) (fun _ => hs38)
 refine O_v rfl (R_move (v := (.tuple #[(.int .i64 ((((rdNum ((rdNum q 1099511627776).2) 65536).1) : Nat) : Int)), (aggOf (rdCh x34))])) rfl ?_)
 refine O_v rfl (R_extract (v := (.int .i64 ((((rdNum ((rdNum q 1099511627776).2) 65536).1) : Nat) : Int))) rfl rfl ?_)
 refine O_v rfl (R_extract (v := (aggOf (rdCh x34))) rfl rfl ?_)
 refine O_v rfl (C_alloc H40 [[(.slice none 0 0)], [(.bool false)]] Tryz.zeroValue110 ?_)
 intro b41 w42 hb43 hx44 H45
 refine O_v rfl (R_assign (v := (.int .i64 ((((rdNum ((rdNum q 1099511627776).2) 65536).1) : Nat) : Int))) rfl ?_)
 refine O_u (C_storeA H45 0 rfl 0 (sub := [[(slV x34.bh x34.b)], [(.bool x34.bad)]]) [[(slV x34.bh x34.b)], [(.bool x34.bad)]] Tryz.sizeOf110 rfl rfl rfl rfl ⟨[[(.slice none 0 0)], [(.bool false)]], [], rfl, rfl, rfl⟩ rfl ?_)
 intro w46 hg47 H48
 refine O_nil (Then_n (W_seq ?_))
 refine W_rgdM TryzMixed (fun c => c = b9) (fun i => if i == 4 then 1 else if i == 5 then 2 else 0) [(0, .q 2), (1, .q 2), (2, .q 2), (3, .q 1), (4, .c 1), (5, .c 2)] (by kernel_rfl) ?_
 refine Lx_q (i := 0) rfl rfl _ (fun v49 hv50 => R_move (v := (.int .i64 ((((rdNum q 1099511627776).1) : Nat) : Int))) rfl ⟨rfl, Gr.refl _ _⟩) ?_
 refine Lx_q (i := 1) rfl rfl _ (fun v51 hv52 => R_move (v := (.int .i64 ((((rdNum ((rdNum q 1099511627776).2) 65536).1) : Nat) : Int))) rfl ⟨rfl, Gr.refl _ _⟩) ?_
 refine Lx_q (i := 2) rfl rfl _ (fun v53 hv54 => R_buildL (vs := [(0, (.int .i64 ((((rdNum q 1099511627776).1) : Nat) : Int))), (1, (.int .i64 ((((rdNum ((rdNum q 1099511627776).2) 65536).1) : Nat) : Int)))]) (v := aggOf [[(.int .i64 ((((rdNum q 1099511627776).1) : Nat) : Int))], [(.int .i64 ((((rdNum ((rdNum q 1099511627776).2) 65536).1) : Nat) : Int))]]) rfl (fun _ => by kernel_rfl) ⟨rfl, Gr.refl _ _⟩) ?_
 refine Lx_q (i := 3) rfl rfl _ (fun v55 hv56 => R_loadA (cs := [[(slV x34.bh x34.b)], [(.bool x34.bad)]]) Tryz.isAgg110 Tryz.sizeOf110 rfl rfl ((boxR_at (H48.ownGr 0 3 (by decide) rfl rfl hv56 (fun _ h => congrArg some h.symm))).chunks 0 2 0 0 _ rfl rfl rfl) ⟨rfl, Gr.refl _ _⟩) ?_
 refine Lx_cu (i := 4) rfl (fun w57 hw58 => ?_)
 have H59 := H48.ext hw58
 refine (C_storeA H59 3 rfl 0 (sub := [[(.int .i64 ((((rdNum q 1099511627776).1) : Nat) : Int))], [(.int .i64 ((((rdNum ((rdNum q 1099511627776).2) 65536).1) : Nat) : Int))]]) [[(.int .i64 ((((rdNum q 1099511627776).1) : Nat) : Int))], [(.int .i64 ((((rdNum ((rdNum q 1099511627776).2) 65536).1) : Nat) : Int))]] Tryz.sizeOf69 rfl rfl rfl rfl ⟨[[(.int .i64 0)], [(.int .i64 0)]], [], rfl, rfl, rfl⟩ rfl ?_)
 intro w60 hg61 H62
 refine ⟨Gr.mono hg61 (fun _ h => (Option.some.inj h).symm), ?_⟩
 refine Lx_cu (i := 5) rfl (fun w63 hw64 => ?_)
 have H65 := H62.ext hw64
 refine (C_storeA H65 2 rfl 0 (sub := [[(slV x34.bh x34.b)], [(.bool x34.bad)]]) [[(slV x34.bh x34.b)], [(.bool x34.bad)]] Tryz.sizeOf110 rfl rfl rfl rfl ⟨[[(.slice none 0 0)], [(.bool false)]], [], rfl, rfl, rfl⟩ rfl ?_)
 intro w66 hg67 H68
 refine ⟨Gr.mono (M' := fun _ => True) hg67 (fun _ _ => trivial), ?_⟩
 refine Lx_nil (fun w69 hw70 => ?_)
 have H71 := H68.ext hw70
 refine Then_n (W_ret ?_)
 refine ret_cc Tryz.results110 (inMem (cs := [[(.int .i64 ((((rdNum q 1099511627776).1) : Nat) : Int))], [(.int .i64 ((((rdNum ((rdNum q 1099511627776).2) 65536).1) : Nat) : Int))]]) rfl Tryz.isAgg69 Tryz.sizeOf69 rfl (boxR_at (H71.getOwn 3 rfl))) (inMem (cs := [[(slV x34.bh x34.b)], [(.bool x34.bad)]]) rfl Tryz.isAgg110 Tryz.sizeOf110 rfl (boxR_at (H71.getOwn 2 rfl))) ?_
 exact ⟨x34, rfl, H71.gr, hr37, (H71.sl 0 rfl)⟩

end Go.Proofs.YthjdhfoeckfmbaaGreat
namespace Go.Proofs.YthjdhfoeckfmbaaGreat
open Go
set_option maxRecDepth 100000
set_option linter.unusedVariables false
set_option linter.unusedSimpArgs false
set_option linter.unusedSectionVars false
variable [DD]
set_option maxHeartbeats 1000000 in
theorem ref03_Cmp (a : Stamp) (b : Stamp) (w : World) :
    Calls Tryz.prog 44 #[(aggOf (stampCh a)), (aggOf (stampCh b))] w (Ret fun v w' => v = (.int .i64 (cmpSt a b)) ∧ Ext w w') := by
 refine calls_W Tryz.func44 rfl Tryz.ntmps44 rfl ?_
 have H0 := Ctx.start w nob
 refine W_seq (W_reg ?_)
 refine O_v rfl (C_box H0 [[(.int .i64 a.T)], [(.int .i64 a.R)]] rfl ?_)
 intro b1 w2 hb3 hx4 H5
 refine O_v rfl (C_box H5 [[(.int .i64 b.T)], [(.int .i64 b.R)]] rfl ?_)
 intro b6 w7 hb8 hx9 H10
 refine O_v rfl (R_assign (v := (.int .i64 0)) rfl ?_)
 refine O_nil (Then_n (W_seq (W_seq ?_)))
 refine W_rg [(0, .q 0), (1, .q 0), (2, .q 0), (3, .q 0), (4, .q 0), (5, .q 0), (6, .q 0), (7, .q 0), (8, .q 0), (9, .q 0), (10, .q 0), (11, .q 0), (12, .q 0), (13, .q 0), (14, .q 0), (15, .q 0), (16, .q 0), (17, .q 0), (18, .q 0)] (by kernel_rfl) ?_
 refine Lx_q (i := 0) rfl rfl _ (fun v11 hv12 => R_fieldAddr (off := 0) (oo := 0) Tryz.underlying69 rfl rfl Tryz.sizeOf2 rfl rfl ⟨rfl, Gr.refl _ _⟩) ?_
 refine Lx_q (i := 1) rfl rfl _ (fun v13 hv14 => R_load1 (v := (.int .i64 a.T)) Tryz.isAgg2 rfl ((boxR_at ((H10.ext hv14).getOwn 1 rfl)).chunks 0 1 0 0 _ rfl rfl rfl) ⟨rfl, Gr.refl _ _⟩) ?_
 refine Lx_q (i := 2) rfl rfl _ (fun v15 hv16 => R_fieldAddr (off := 0) (oo := 0) Tryz.underlying69 rfl rfl Tryz.sizeOf2 rfl rfl ⟨rfl, Gr.refl _ _⟩) ?_
 refine Lx_q (i := 3) rfl rfl _ (fun v17 hv18 => R_load1 (v := (.int .i64 b.T)) Tryz.isAgg2 rfl ((boxR_at ((H10.ext hv18).getOwn 0 rfl)).chunks 0 1 0 0 _ rfl rfl rfl) ⟨rfl, Gr.refl _ _⟩) ?_
 refine Lx_q (i := 4) rfl rfl _ (fun v19 hv20 => R_cmp (a := a.T) (b := b.T) (r := (decide (a.T < b.T))) rfl rfl rfl ⟨rfl, Gr.refl _ _⟩) ?_
 refine Lx_q (i := 5) rfl rfl _ (fun v21 hv22 => R_move (v := (.bool (decide (a.T < b.T)))) rfl ⟨rfl, Gr.refl _ _⟩) ?_
 refine Lx_qg (i := 6) true (decide (a.T < b.T)) rfl rfl rfl rfl rfl (!(decide (a.T < b.T))) ga_f _ (fun hA v23 hv24 => R_fieldAddr (off := 0) (oo := 0) Tryz.underlying69 rfl rfl Tryz.sizeOf2 rfl rfl ⟨rfl, Gr.refl _ _⟩) ?_
 refine Lx_qg (i := 7) true (decide (a.T < b.T)) rfl rfl rfl rfl rfl (!(decide (a.T < b.T))) ga_f _ (fun hA v25 hv26 => R_load1 (v := (.int .i64 a.T)) Tryz.isAgg2 (gv_t hA) ((boxR_at ((H10.ext hv26).getOwn 1 rfl)).chunks 0 1 0 0 _ rfl rfl rfl) ⟨rfl, Gr.refl _ _⟩) ?_
 refine Lx_qg (i := 8) true (decide (a.T < b.T)) rfl rfl rfl rfl rfl (!(decide (a.T < b.T))) ga_f _ (fun hA v27 hv28 => R_fieldAddr (off := 0) (oo := 0) Tryz.underlying69 rfl rfl Tryz.sizeOf2 rfl rfl ⟨rfl, Gr.refl _ _⟩) ?_
 refine Lx_qg (i := 9) true (decide (a.T < b.T)) rfl rfl rfl rfl rfl (!(decide (a.T < b.T))) ga_f _ (fun hA v29 hv30 => R_load1 (v := (.int .i64 b.T)) Tryz.isAgg2 (gv_t hA) ((boxR_at ((H10.ext hv30).getOwn 0 rfl)).chunks 0 1 0 0 _ rfl rfl rfl) ⟨rfl, Gr.refl _ _⟩) ?_
 refine Lx_qg (i := 10) true (decide (a.T < b.T)) rfl rfl rfl rfl rfl (!(decide (a.T < b.T))) ga_f _ (fun hA v31 hv32 => R_cmp (a := a.T) (b := b.T) (r := (decide (a.T = b.T))) (gv_t hA) (gv_t hA) rfl ⟨rfl, Gr.refl _ _⟩) ?_
 refine Lx_qg (i := 11) true (decide (a.T < b.T)) rfl rfl rfl rfl rfl (!(decide (a.T < b.T))) ga_f _ (fun hA v33 hv34 => R_move (v := (.bool (decide (a.T = b.T)))) (gv_t hA) ⟨rfl, Gr.refl _ _⟩) ?_
 refine Lx_qg (i := 12) (!(decide (a.T < b.T))) (decide (a.T = b.T)) rfl rfl rfl rfl rfl ((!(decide (a.T < b.T))) && (decide (a.T = b.T))) gb_t _ (fun hA v35 hv36 => R_fieldAddr (off := 1) (oo := 1) Tryz.underlying69 rfl rfl Tryz.sizeOf3 rfl rfl ⟨rfl, Gr.refl _ _⟩) ?_
 refine Lx_qg (i := 13) (!(decide (a.T < b.T))) (decide (a.T = b.T)) rfl rfl rfl rfl rfl ((!(decide (a.T < b.T))) && (decide (a.T = b.T))) gb_t _ (fun hA v37 hv38 => R_load1 (v := (.int .i64 a.R)) Tryz.isAgg3 (gv_t hA) ((boxR_at ((H10.ext hv38).getOwn 1 rfl)).chunks 1 1 1 1 _ rfl rfl rfl) ⟨rfl, Gr.refl _ _⟩) ?_
 refine Lx_qg (i := 14) (!(decide (a.T < b.T))) (decide (a.T = b.T)) rfl rfl rfl rfl rfl ((!(decide (a.T < b.T))) && (decide (a.T = b.T))) gb_t _ (fun hA v39 hv40 => R_fieldAddr (off := 1) (oo := 1) Tryz.underlying69 rfl rfl Tryz.sizeOf3 rfl rfl ⟨rfl, Gr.refl _ _⟩) ?_
 refine Lx_qg (i := 15) (!(decide (a.T < b.T))) (decide (a.T = b.T)) rfl rfl rfl rfl rfl ((!(decide (a.T < b.T))) && (decide (a.T = b.T))) gb_t _ (fun hA v41 hv42 => R_load1 (v := (.int .i64 b.R)) Tryz.isAgg3 (gv_t hA) ((boxR_at ((H10.ext hv42).getOwn 0 rfl)).chunks 1 1 1 1 _ rfl rfl rfl) ⟨rfl, Gr.refl _ _⟩) ?_
 refine Lx_qg (i := 16) (!(decide (a.T < b.T))) (decide (a.T = b.T)) rfl rfl rfl rfl rfl ((!(decide (a.T < b.T))) && (decide (a.T = b.T))) gb_t _ (fun hA v43 hv44 => R_cmp (a := a.R) (b := b.R) (r := (decide (a.R < b.R))) (gv_t hA) (gv_t hA) rfl ⟨rfl, Gr.refl _ _⟩) ?_
 refine Lx_qg (i := 17) true (decide (a.T < b.T)) rfl rfl rfl rfl rfl (!(decide (a.T < b.T))) ga_f _ (fun hA v45 hv46 => R_pick (t := (decide (a.T = b.T))) (v := (.bool ((decide (a.T = b.T)) && (decide (a.R < b.R))))) (gv_t hA) (pk_andA hA) ⟨rfl, Gr.refl _ _⟩) ?_
 refine Lx_q (i := 18) rfl rfl _ (fun v47 hv48 => R_pick (t := (decide (a.T < b.T))) (v := (.bool ((decide (a.T < b.T)) || ((decide (a.T = b.T)) && (decide (a.R < b.R)))))) rfl pk_or ⟨rfl, Gr.refl _ _⟩) ?_
 refine Lx_nil (fun w49 hw50 => ?_)
 have H51 := H10.ext hw50
 refine Then_n ?_
 refine W_cond (t := ((decide (a.T < b.T)) || ((decide (a.T = b.T)) && (decide (a.R < b.R))))) rfl (fun hc52 => ?_) (fun hc52 => ?_)
 ·have hc52 : ((a.T < b.T) ∨ ((a.T = b.T) ∧ (a.R < b.R))) := (Or.imp (fun h => (of_decide_eq_true h)) (fun h => (And.imp (fun h => (of_decide_eq_true h)) (fun h => (of_decide_eq_true h)) (andT h))) (orT hc52))
  refine W_seq (W_reg ?_)
  refine O_v rfl (R_assign (v := (.int .i64 (-1))) rfl ?_)
  refine O_nil (Then_n (W_ret (Then_r ?_)))
  refine ret_1 (v := (.int .i64 (-1))) Tryz.results44 rfl ?_
  exact ⟨(by rw [cmpSt_lt (by omega)]), H51.gr⟩
 ·have hc52 : (¬ (a.T < b.T) ∧ (¬ (a.T = b.T) ∨ ¬ (a.R < b.R))) := (And.imp (fun h => (of_decide_eq_false h)) (fun h => (Or.imp (fun h => (of_decide_eq_false h)) (fun h => (of_decide_eq_false h)) (andF h))) (orF hc52))
  refine W_skip (Then_n (W_seq (W_seq ?_)))
  refine W_rg [(0, .q 0), (1, .q 0), (2, .q 0), (3, .q 0), (4, .q 0), (5, .q 0), (6, .q 0), (7, .q 0), (8, .q 0), (9, .q 0), (10, .q 0), (11, .q 0)] (by kernel_rfl) ?_
  refine Lx_q (i := 0) rfl rfl _ (fun v53 hv54 => R_fieldAddr (off := 0) (oo := 0) Tryz.underlying69 rfl rfl Tryz.sizeOf2 rfl rfl ⟨rfl, Gr.refl _ _⟩) ?_
  refine Lx_q (i := 1) rfl rfl _ (fun v55 hv56 => R_load1 (v := (.int .i64 a.T)) Tryz.isAgg2 rfl ((boxR_at ((H51.ext hv56).getOwn 1 rfl)).chunks 0 1 0 0 _ rfl rfl rfl) ⟨rfl, Gr.refl _ _⟩) ?_
  refine Lx_q (i := 2) rfl rfl _ (fun v57 hv58 => R_fieldAddr (off := 0) (oo := 0) Tryz.underlying69 rfl rfl Tryz.sizeOf2 rfl rfl ⟨rfl, Gr.refl _ _⟩) ?_
  refine Lx_q (i := 3) rfl rfl _ (fun v59 hv60 => R_load1 (v := (.int .i64 b.T)) Tryz.isAgg2 rfl ((boxR_at ((H51.ext hv60).getOwn 0 rfl)).chunks 0 1 0 0 _ rfl rfl rfl) ⟨rfl, Gr.refl _ _⟩) ?_
  refine Lx_q (i := 4) rfl rfl _ (fun v61 hv62 => R_cmp (a := a.T) (b := b.T) (r := (decide (a.T = b.T))) rfl rfl rfl ⟨rfl, Gr.refl _ _⟩) ?_
  refine Lx_q (i := 5) rfl rfl _ (fun v63 hv64 => R_move (v := (.bool (decide (a.T = b.T)))) rfl ⟨rfl, Gr.refl _ _⟩) ?_
  refine Lx_qg (i := 6) true (decide (a.T = b.T)) rfl rfl rfl rfl rfl (decide (a.T = b.T)) ga_t _ (fun hA v65 hv66 => R_fieldAddr (off := 1) (oo := 1) Tryz.underlying69 rfl rfl Tryz.sizeOf3 rfl rfl ⟨rfl, Gr.refl _ _⟩) ?_
  refine Lx_qg (i := 7) true (decide (a.T = b.T)) rfl rfl rfl rfl rfl (decide (a.T = b.T)) ga_t _ (fun hA v67 hv68 => R_load1 (v := (.int .i64 a.R)) Tryz.isAgg3 (gv_t hA) ((boxR_at ((H51.ext hv68).getOwn 1 rfl)).chunks 1 1 1 1 _ rfl rfl rfl) ⟨rfl, Gr.refl _ _⟩) ?_
  refine Lx_qg (i := 8) true (decide (a.T = b.T)) rfl rfl rfl rfl rfl (decide (a.T = b.T)) ga_t _ (fun hA v69 hv70 => R_fieldAddr (off := 1) (oo := 1) Tryz.underlying69 rfl rfl Tryz.sizeOf3 rfl rfl ⟨rfl, Gr.refl _ _⟩) ?_
  refine Lx_qg (i := 9) true (decide (a.T = b.T)) rfl rfl rfl rfl rfl (decide (a.T = b.T)) ga_t _ (fun hA v71 hv72 => R_load1 (v := (.int .i64 b.R)) Tryz.isAgg3 (gv_t hA) ((boxR_at ((H51.ext hv72).getOwn 0 rfl)).chunks 1 1 1 1 _ rfl rfl rfl) ⟨rfl, Gr.refl _ _⟩) ?_
  refine Lx_qg (i := 10) true (decide (a.T = b.T)) rfl rfl rfl rfl rfl (decide (a.T = b.T)) ga_t _ (fun hA v73 hv74 => R_cmp (a := a.R) (b := b.R) (r := (decide (a.R = b.R))) (gv_t hA) (gv_t hA) rfl ⟨rfl, Gr.refl _ _⟩) ?_
  refine Lx_q (i := 11) rfl rfl _ (fun v75 hv76 => R_pick (t := (decide (a.T = b.T))) (v := (.bool ((decide (a.T = b.T)) && (decide (a.R = b.R))))) rfl pk_and ⟨rfl, Gr.refl _ _⟩) ?_
  refine Lx_nil (fun w77 hw78 => ?_)
  have H79 := H51.ext hw78
  refine Then_n ?_
  refine W_cond (t := ((decide (a.T = b.T)) && (decide (a.R = b.R)))) rfl (fun hc80 => ?_) (fun hc80 => ?_)
  ·have hc80 : ((a.T = b.T) ∧ (a.R = b.R)) := (And.imp (fun h => (of_decide_eq_true h)) (fun h => (of_decide_eq_true h)) (andT hc80))
   refine W_seq (W_reg ?_)
   refine O_v rfl (R_assign (v := (.int .i64 0)) rfl ?_)
   refine O_nil (Then_n (W_ret (Then_r ?_)))
   refine ret_1 (v := (.int .i64 0)) Tryz.results44 rfl ?_
   exact ⟨(by rw [cmpSt_eq (by omega) (by omega)]), H79.gr⟩
  ·have hc80 : (¬ (a.T = b.T) ∨ ¬ (a.R = b.R)) := (Or.imp (fun h => (of_decide_eq_false h)) (fun h => (of_decide_eq_false h)) (andF hc80))
   refine W_skip (Then_n (W_seq (W_reg ?_)))
   refine O_v rfl (R_assign (v := (.int .i64 1)) rfl ?_)
   refine O_nil (Then_n (W_ret ?_))
   refine ret_1 (v := (.int .i64 1)) Tryz.results44 rfl ?_
   exact ⟨(by rw [cmpSt_gt (by omega) (by omega)]), H79.gr⟩

end Go.Proofs.YthjdhfoeckfmbaaGreat
namespace Go.Proofs.YthjdhfoeckfmbaaGreat
open Go
set_option maxRecDepth 100000
set_option linter.unusedVariables false
set_option linter.unusedSimpArgs false
set_option linter.unusedSectionVars false
variable [DD]
set_option maxHeartbeats 1000000 in
theorem ref03_Name (s : ByteArray) (w : World) (hl : s.size ≤ 9223372036854775807) :
    Calls Tryz.prog 71 #[(.string s)] w (Ret fun v w' => v = (.bool (nameOk s)) ∧ Ext w w') := by
 refine calls_W Tryz.func71 rfl Tryz.ntmps71 rfl ?_
 have H0 := Ctx.start w nob
 refine W_seq (W_reg ?_)
 refine O_v rfl (R_assign (v := (.bool false)) rfl ?_)
 refine O_nil (Then_n (W_seq (W_seq (W_reg ?_))))
 refine O_v rfl (R_assign (v := (.int .i64 0)) rfl ?_)
 refine O_nil (Then_n (W_block ?_))
 refine W_loop (fun m1 e2 w3 => ∃ (k : Nat), m1 = s.size - k ∧ (k ≤ s.size) ∧ (∀ j, j < k → badByte (sbyte s j) = false) ∧ ∃ eb4, e2 = envL [(0, (.string s)), (3, (.int .i64 ((k : Nat) : Int)))] eb4 ∧ Ctx w nob w3 [] []) _ ⟨0, rfl, (by omega), (all_zero _), _, envL_self ⟨rfl, rfl, trivial⟩, H0⟩ ?_
 rintro m1 _ w3 ⟨k, rfl, hk, hn, eb4, rfl, H5⟩
 refine W_seq (W_seq (W_reg ?_))
 refine O_v rfl (R_move (v := (.int .i64 ((k : Nat) : Int))) rfl ?_)
 refine O_v rfl (R_move (v := (.string s)) rfl ?_)
 refine O_v rfl (R_len_string Tryz.underlying9 rfl ?_)
 refine O_v rfl (R_cmp (a := ((k : Nat) : Int)) (b := ((s.size : Nat) : Int)) (r := (decide (((k : Nat) : Int) < ((s.size : Nat) : Int)))) rfl rfl rfl ?_)
 refine O_nil (Then_n ?_)
 refine W_cond (t := (decide (((k : Nat) : Int) < ((s.size : Nat) : Int)))) rfl (fun hc6 => ?_) (fun hc6 => ?_)
 ·have hc6 : (((k : Nat) : Int) < ((s.size : Nat) : Int)) := (of_decide_eq_true hc6)
  refine W_skip (Then_n (W_seq (W_block (W_seq ?_))))
  refine W_rg [(0, .q 0), (1, .q 0), (2, .q 0), (3, .q 0), (4, .q 0), (5, .q 0), (6, .q 0), (7, .q 0), (8, .q 0), (9, .q 0), (10, .q 0), (11, .q 0), (12, .q 0), (13, .q 0), (14, .q 0), (15, .q 0)] (by kernel_rfl) ?_
  refine Lx_q (i := 0) rfl rfl _ (fun v7 hv8 => R_move (v := (.string s)) rfl ⟨rfl, Gr.refl _ _⟩) ?_
  refine Lx_q (i := 1) rfl rfl _ (fun v9 hv10 => R_move (v := (.int .i64 ((k : Nat) : Int))) rfl ⟨rfl, Gr.refl _ _⟩) ?_
  refine Lx_q (i := 2) rfl rfl _ (fun v11 hv12 => R_index_s (s := s) (k := k) Tryz.underlying9 rfl rfl rfl (by omega) ⟨rfl, Gr.refl _ _⟩) ?_
  refine Lx_q (i := 3) rfl rfl _ (fun v13 hv14 => R_cmp (a := ((sbyte s k).toNat : Int)) (b := 0) (r := (decide (((sbyte s k).toNat : Int) = 0))) rfl rfl rfl ⟨rfl, Gr.refl _ _⟩) ?_
  refine Lx_q (i := 4) rfl rfl _ (fun v15 hv16 => R_move (v := (.bool (decide (((sbyte s k).toNat : Int) = 0)))) rfl ⟨rfl, Gr.refl _ _⟩) ?_
  refine Lx_qg (i := 5) true (decide (((sbyte s k).toNat : Int) = 0)) rfl rfl rfl rfl rfl (!(decide (((sbyte s k).toNat : Int) = 0))) ga_f _ (fun hA v17 hv18 => R_move (v := (.string s)) rfl ⟨rfl, Gr.refl _ _⟩) ?_
  refine Lx_qg (i := 6) true (decide (((sbyte s k).toNat : Int) = 0)) rfl rfl rfl rfl rfl (!(decide (((sbyte s k).toNat : Int) = 0))) ga_f _ (fun hA v19 hv20 => R_move (v := (.int .i64 ((k : Nat) : Int))) rfl ⟨rfl, Gr.refl _ _⟩) ?_
  refine Lx_qg (i := 7) true (decide (((sbyte s k).toNat : Int) = 0)) rfl rfl rfl rfl rfl (!(decide (((sbyte s k).toNat : Int) = 0))) ga_f _ (fun hA v21 hv22 => by
        have hP : ¬ (((sbyte s k).toNat : Int) = 0) := (of_decide_eq_false (notT hA))
        exact R_index_s (s := s) (k := k) Tryz.underlying9 (gv_t hA) (gv_t hA) rfl (by omega) ⟨rfl, Gr.refl _ _⟩) ?_
  refine Lx_qg (i := 8) true (decide (((sbyte s k).toNat : Int) = 0)) rfl rfl rfl rfl rfl (!(decide (((sbyte s k).toNat : Int) = 0))) ga_f _ (fun hA v23 hv24 => R_cmp (a := ((sbyte s k).toNat : Int)) (b := 47) (r := (decide (((sbyte s k).toNat : Int) = 47))) (gv_t hA) rfl rfl ⟨rfl, Gr.refl _ _⟩) ?_
  refine Lx_q (i := 9) rfl rfl _ (fun v25 hv26 => R_pick (t := (decide (((sbyte s k).toNat : Int) = 0))) (v := (.bool ((decide (((sbyte s k).toNat : Int) = 0)) || (decide (((sbyte s k).toNat : Int) = 47))))) rfl pk_or ⟨rfl, Gr.refl _ _⟩) ?_
  refine Lx_q (i := 10) rfl rfl _ (fun v27 hv28 => R_move (v := (.bool ((decide (((sbyte s k).toNat : Int) = 0)) || (decide (((sbyte s k).toNat : Int) = 47))))) rfl ⟨rfl, Gr.refl _ _⟩) ?_
  refine Lx_qg (i := 11) true ((decide (((sbyte s k).toNat : Int) = 0)) || (decide (((sbyte s k).toNat : Int) = 47))) rfl rfl rfl rfl rfl (!((decide (((sbyte s k).toNat : Int) = 0)) || (decide (((sbyte s k).toNat : Int) = 47)))) ga_f _ (fun hA v29 hv30 => R_move (v := (.string s)) rfl ⟨rfl, Gr.refl _ _⟩) ?_
  refine Lx_qg (i := 12) true ((decide (((sbyte s k).toNat : Int) = 0)) || (decide (((sbyte s k).toNat : Int) = 47))) rfl rfl rfl rfl rfl (!((decide (((sbyte s k).toNat : Int) = 0)) || (decide (((sbyte s k).toNat : Int) = 47)))) ga_f _ (fun hA v31 hv32 => R_move (v := (.int .i64 ((k : Nat) : Int))) rfl ⟨rfl, Gr.refl _ _⟩) ?_
  refine Lx_qg (i := 13) true ((decide (((sbyte s k).toNat : Int) = 0)) || (decide (((sbyte s k).toNat : Int) = 47))) rfl rfl rfl rfl rfl (!((decide (((sbyte s k).toNat : Int) = 0)) || (decide (((sbyte s k).toNat : Int) = 47)))) ga_f _ (fun hA v33 hv34 => by
        have hP : (¬ (((sbyte s k).toNat : Int) = 0) ∧ ¬ (((sbyte s k).toNat : Int) = 47)) := (And.imp (fun h => (of_decide_eq_false h)) (fun h => (of_decide_eq_false h)) (orF (notT hA)))
        exact R_index_s (s := s) (k := k) Tryz.underlying9 (gv_t hA) (gv_t hA) rfl (by omega) ⟨rfl, Gr.refl _ _⟩) ?_
  refine Lx_qg (i := 14) true ((decide (((sbyte s k).toNat : Int) = 0)) || (decide (((sbyte s k).toNat : Int) = 47))) rfl rfl rfl rfl rfl (!((decide (((sbyte s k).toNat : Int) = 0)) || (decide (((sbyte s k).toNat : Int) = 47)))) ga_f _ (fun hA v35 hv36 => R_cmp (a := ((sbyte s k).toNat : Int)) (b := 10) (r := (decide (((sbyte s k).toNat : Int) = 10))) (gv_t hA) rfl rfl ⟨rfl, Gr.refl _ _⟩) ?_
  refine Lx_q (i := 15) rfl rfl _ (fun v37 hv38 => R_pick (t := ((decide (((sbyte s k).toNat : Int) = 0)) || (decide (((sbyte s k).toNat : Int) = 47)))) (v := (.bool (((decide (((sbyte s k).toNat : Int) = 0)) || (decide (((sbyte s k).toNat : Int) = 47))) || (decide (((sbyte s k).toNat : Int) = 10))))) rfl pk_or ⟨rfl, Gr.refl _ _⟩) ?_
  refine Lx_nil (fun w39 hw40 => ?_)
  have H41 := H5.ext hw40
  refine Then_n ?_
  refine W_cond (t := (((decide (((sbyte s k).toNat : Int) = 0)) || (decide (((sbyte s k).toNat : Int) = 47))) || (decide (((sbyte s k).toNat : Int) = 10)))) rfl (fun hc42 => ?_) (fun hc42 => ?_)
  ·have hc42 : (((((sbyte s k).toNat : Int) = 0) ∨ (((sbyte s k).toNat : Int) = 47)) ∨ (((sbyte s k).toNat : Int) = 10)) := (Or.imp (fun h => (Or.imp (fun h => (of_decide_eq_true h)) (fun h => (of_decide_eq_true h)) (orT h))) (fun h => (of_decide_eq_true h)) (orT hc42))
   refine W_seq (W_reg ?_)
   refine O_v rfl (R_assign (v := (.bool false)) rfl ?_)
   refine O_nil (Then_n (W_ret (Blk_r (Then_r (Then_r (Blk_r (Then_r ?_)))))))
   refine ret_1 (v := (.bool false)) Tryz.results71 rfl ?_
   exact ⟨(nameOk_bad (k := k) (by omega) (by assumption)), H41.gr⟩
  ·have hc42 : ((¬ (((sbyte s k).toNat : Int) = 0) ∧ ¬ (((sbyte s k).toNat : Int) = 47)) ∧ ¬ (((sbyte s k).toNat : Int) = 10)) := (And.imp (fun h => (And.imp (fun h => (of_decide_eq_false h)) (fun h => (of_decide_eq_false h)) (orF h))) (fun h => (of_decide_eq_false h)) (orF hc42))
   refine W_skip (Blk_n (Then_n (W_reg ?_)))
   refine O_v rfl (R_move (v := (.int .i64 ((k : Nat) : Int))) rfl ?_)
   refine O_v rfl (R_arith (a := ((k : Nat) : Int)) (b := 1) (r0 := ((k : Nat) : Int) + 1) (r := ((k + 1 : Nat) : Int)) rfl rfl rfl (wrapN _ (by omega)) ?_)
   refine O_v rfl (R_assign (v := (.int .i64 ((k + 1 : Nat) : Int))) rfl ?_)
   refine O_nil (Then_n ?_)
   refine ⟨_, ?_, (k + 1), rfl, (by omega), (all_succ hn (badByte_f (by assumption))), _, envL_self ⟨rfl, rfl, trivial⟩, H41⟩
   omega
 ·have hc6 : ¬ (((k : Nat) : Int) < ((s.size : Nat) : Int)) := (of_decide_eq_false hc6)
  refine W_exit (Then_x (Then_x (Blk_x (Then_n (W_seq ?_)))))
  refine W_rg [(0, .q 0), (1, .q 0), (2, .q 0), (3, .q 0), (4, .q 0), (5, .q 0), (6, .q 0), (7, .q 0), (8, .q 0), (9, .q 0), (10, .q 0), (11, .q 0), (12, .q 0), (13, .q 0), (14, .q 0), (15, .q 0)] (by kernel_rfl) ?_
  refine Lx_q (i := 0) rfl rfl _ (fun v43 hv44 => R_move (v := (.string s)) rfl ⟨rfl, Gr.refl _ _⟩) ?_
  refine Lx_q (i := 1) rfl rfl _ (fun v45 hv46 => R_cmpS (a := s) (b := ByteArray.empty) (r := (!(decide (s = ByteArray.empty)))) rfl rfl rfl ⟨rfl, Gr.refl _ _⟩) ?_
  refine Lx_q (i := 2) rfl rfl _ (fun v47 hv48 => R_move (v := (.bool (!(decide (s = ByteArray.empty))))) rfl ⟨rfl, Gr.refl _ _⟩) ?_
  refine Lx_qg (i := 3) true (!(decide (s = ByteArray.empty))) rfl rfl rfl rfl rfl (!(decide (s = ByteArray.empty))) ga_t _ (fun hA v49 hv50 => R_move (v := (.string s)) rfl ⟨rfl, Gr.refl _ _⟩) ?_
  refine Lx_qg (i := 4) true (!(decide (s = ByteArray.empty))) rfl rfl rfl rfl rfl (!(decide (s = ByteArray.empty))) ga_t _ (fun hA v51 hv52 => R_len_string Tryz.underlying9 (gv_t hA) ⟨rfl, Gr.refl _ _⟩) ?_
  refine Lx_qg (i := 5) true (!(decide (s = ByteArray.empty))) rfl rfl rfl rfl rfl (!(decide (s = ByteArray.empty))) ga_t _ (fun hA v53 hv54 => R_cmp (a := ((s.size : Nat) : Int)) (b := 60) (r := (decide (((s.size : Nat) : Int) ≤ 60))) (gv_t hA) rfl rfl ⟨rfl, Gr.refl _ _⟩) ?_
  refine Lx_q (i := 6) rfl rfl _ (fun v55 hv56 => R_pick (t := (!(decide (s = ByteArray.empty)))) (v := (.bool ((!(decide (s = ByteArray.empty))) && (decide (((s.size : Nat) : Int) ≤ 60))))) rfl pk_and ⟨rfl, Gr.refl _ _⟩) ?_
  refine Lx_q (i := 7) rfl rfl _ (fun v57 hv58 => R_move (v := (.bool ((!(decide (s = ByteArray.empty))) && (decide (((s.size : Nat) : Int) ≤ 60))))) rfl ⟨rfl, Gr.refl _ _⟩) ?_
  refine Lx_qg (i := 8) true ((!(decide (s = ByteArray.empty))) && (decide (((s.size : Nat) : Int) ≤ 60))) rfl rfl rfl rfl rfl ((!(decide (s = ByteArray.empty))) && (decide (((s.size : Nat) : Int) ≤ 60))) ga_t _ (fun hA v59 hv60 => R_move (v := (.string s)) rfl ⟨rfl, Gr.refl _ _⟩) ?_
  refine Lx_qg (i := 9) true ((!(decide (s = ByteArray.empty))) && (decide (((s.size : Nat) : Int) ≤ 60))) rfl rfl rfl rfl rfl ((!(decide (s = ByteArray.empty))) && (decide (((s.size : Nat) : Int) ≤ 60))) ga_t _ (fun hA v61 hv62 => R_cmpS (a := s) (b := (⟨#[46]⟩ : ByteArray)) (r := (!(decide (s = (⟨#[46]⟩ : ByteArray))))) (gv_t hA) rfl rfl ⟨rfl, Gr.refl _ _⟩) ?_
  refine Lx_q (i := 10) rfl rfl _ (fun v63 hv64 => R_pick (t := ((!(decide (s = ByteArray.empty))) && (decide (((s.size : Nat) : Int) ≤ 60)))) (v := (.bool (((!(decide (s = ByteArray.empty))) && (decide (((s.size : Nat) : Int) ≤ 60))) && (!(decide (s = (⟨#[46]⟩ : ByteArray))))))) rfl pk_and ⟨rfl, Gr.refl _ _⟩) ?_
  refine Lx_q (i := 11) rfl rfl _ (fun v65 hv66 => R_move (v := (.bool (((!(decide (s = ByteArray.empty))) && (decide (((s.size : Nat) : Int) ≤ 60))) && (!(decide (s = (⟨#[46]⟩ : ByteArray))))))) rfl ⟨rfl, Gr.refl _ _⟩) ?_
  refine Lx_qg (i := 12) true (((!(decide (s = ByteArray.empty))) && (decide (((s.size : Nat) : Int) ≤ 60))) && (!(decide (s = (⟨#[46]⟩ : ByteArray))))) rfl rfl rfl rfl rfl (((!(decide (s = ByteArray.empty))) && (decide (((s.size : Nat) : Int) ≤ 60))) && (!(decide (s = (⟨#[46]⟩ : ByteArray))))) ga_t _ (fun hA v67 hv68 => R_move (v := (.string s)) rfl ⟨rfl, Gr.refl _ _⟩) ?_
  refine Lx_qg (i := 13) true (((!(decide (s = ByteArray.empty))) && (decide (((s.size : Nat) : Int) ≤ 60))) && (!(decide (s = (⟨#[46]⟩ : ByteArray))))) rfl rfl rfl rfl rfl (((!(decide (s = ByteArray.empty))) && (decide (((s.size : Nat) : Int) ≤ 60))) && (!(decide (s = (⟨#[46]⟩ : ByteArray))))) ga_t _ (fun hA v69 hv70 => R_cmpS (a := s) (b := (⟨#[46, 46]⟩ : ByteArray)) (r := (!(decide (s = (⟨#[46, 46]⟩ : ByteArray))))) (gv_t hA) rfl rfl ⟨rfl, Gr.refl _ _⟩) ?_
  refine Lx_q (i := 14) rfl rfl _ (fun v71 hv72 => R_pick (t := (((!(decide (s = ByteArray.empty))) && (decide (((s.size : Nat) : Int) ≤ 60))) && (!(decide (s = (⟨#[46]⟩ : ByteArray)))))) (v := (.bool ((((!(decide (s = ByteArray.empty))) && (decide (((s.size : Nat) : Int) ≤ 60))) && (!(decide (s = (⟨#[46]⟩ : ByteArray))))) && (!(decide (s = (⟨#[46, 46]⟩ : ByteArray))))))) rfl pk_and ⟨rfl, Gr.refl _ _⟩) ?_
  refine Lx_q (i := 15) rfl rfl _ (fun v73 hv74 => R_assign (v := (.bool ((((!(decide (s = ByteArray.empty))) && (decide (((s.size : Nat) : Int) ≤ 60))) && (!(decide (s = (⟨#[46]⟩ : ByteArray))))) && (!(decide (s = (⟨#[46, 46]⟩ : ByteArray))))))) rfl ⟨rfl, Gr.refl _ _⟩) ?_
  refine Lx_nil (fun w75 hw76 => ?_)
  have H77 := H5.ext hw76
  refine Then_n (W_ret ?_)
  refine ret_1 (v := (.bool ((((!(decide (s = ByteArray.empty))) && (decide (((s.size : Nat) : Int) ≤ 60))) && (!(decide (s = (⟨#[46]⟩ : ByteArray))))) && (!(decide (s = (⟨#[46, 46]⟩ : ByteArray))))))) Tryz.results71 rfl ?_
  exact ⟨(nameOk_good (by rwa [show s.size = k from by omega])), H77.gr⟩

end Go.Proofs.YthjdhfoeckfmbaaGreat
