/- Proved: for every input, pollardlaw04.ObjOne returns true and leaves its arguments as they were. No condition. -/
import Derived.Test.YthjdhfoeckfmbaaX4
namespace Go.Proofs.Ythjdhfoeckfmbaa
open Go
set_option maxRecDepth 100000
set_option linter.unusedVariables false
set_option linter.unusedSimpArgs false
set_option linter.unusedSectionVars false
theorem obj_PutChange_c16 : callable Try.prog 16 = true := by kernel_rfl
theorem obj_PutChange_c17 : callable Try.prog 17 = true := by kernel_rfl
theorem obj_PutChange_c18 : callable Try.prog 18 = true := by kernel_rfl
theorem obj_PutChange_c19 : callable Try.prog 19 = true := by kernel_rfl
theorem obj_PutChange_c20 : callable Try.prog 20 = true := by kernel_rfl
set_option maxHeartbeats 2000000 in
theorem obj_PutChange (c : ChangeS) (w : World) (Sc_parents : Sl (Old w) idCh 32 c.ph c.parents w) (Sc_ops : Sl (Old w) opCh 41 c.oh c.ops w) (Dc_over : ∀ x ∈ c.ops, Sl (Old w) stampCh 2 x.oh x.over w) :
    Calls Try.prog 6 #[(aggOf (changeCh c))] w (Ret fun v w' => ∃ h0, v = .tuple #[slV h0 (putChangeB c), (.int .i64 (putChangeE c))] ∧ Ext w w' ∧ OwnS w.heap.size 5 1 encB h0 (putChangeB c) w') := by
 refine calls_W Try.func6 rfl Try.ntmps6 rfl ?_
 have H0 := Ctx.start w nob
 have H1 := H0.addSl _ Sc_parents (fun b hb => ⟨hb, fun _ ho => (nomatch ho)⟩)
 have LSc_parents := Sc_parents.len
 have H2 := H1.addSl _ Sc_ops (fun b hb => ⟨hb, fun _ ho => (nomatch ho)⟩)
 have LSc_ops := Sc_ops.len
 have H3 := H2.addImm' (deepI (Old w) stampCh 2 (fun x : OpS => x.oh) (fun x : OpS => x.over) c.ops) Dc_over (fun b hb => ⟨hb, fun _ ho => (nomatch ho)⟩)
 refine W_seq (W_reg ?_)
 refine O_v rfl (C_box H3 [[(slV c.ph c.parents)], [(.int .i64 c.time)], [(.int .i64 c.r)], [(slV c.oh c.ops)], (idCells c.tree), [(.string c.msg)]] rfl ?_)
 intro b4 w5 hb6 hx7 H8
 refine O_v rfl (R_assign (v := (.slice none 0 0)) rfl ?_)
 refine O_v rfl (R_assign (v := (.int .i64 0)) rfl ?_)
 refine O_nil (Then_n (W_seq (W_seq (W_reg ?_))))
 refine O_v rfl (R_loadA (cs := [[(slV c.ph c.parents)], [(.int .i64 c.time)], [(.int .i64 c.r)], [(slV c.oh c.ops)], (idCells c.tree), [(.string c.msg)]]) Try.isAgg27 Try.sizeOf27 rfl rfl ((boxR_at (H8.getOwn 0 rfl)).chunks 0 6 0 0 _ rfl rfl rfl) ?_)
 refine O_v rfl (R_callL (vs := [(aggOf (changeCh c))]) obj_PutChange_c16 rfl rfl ((obj_rightChange c w5 (H8.slOld 2 rfl) (H8.slOld 1 rfl) (H8.deepOld 0 rfl)).ret ?_))
 rintro _ w9 ⟨rfl, hx10⟩
 have H11 := H8.ext hx10
 refine O_v rfl (R_not rfl ?_)
 refine O_nil (Then_n ?_)
 refine W_cond (t := (!(changeOk c))) rfl (fun hc12 => ?_) (fun hc12 => ?_)
 ·have hc12 : (changeOk c) = false := (notT hc12)
  refine W_seq (W_reg ?_)
  refine O_v rfl (R_assign (v := (.slice none 0 0)) rfl ?_)
  refine O_v rfl (R_assign (v := (.int .i64 1)) rfl ?_)
  refine O_nil (Then_n (W_ret (Then_r ?_)))
  refine ret_2 (v := (.slice none 0 0)) (v' := (.int .i64 1)) Try.results6 rfl rfl ?_
  have H13 := H11.addNil 5 1 encB
  have hE : [] = putChangeB c := (putChange_f (by assumption)).1
  have hV : 1 = putChangeE c := (putChange_f (by assumption)).2
  refine ⟨nilH, ?_, H13.gr, ?_⟩
  · exact two_eq (fun l n => Value.tuple #[slV nilH l, Value.int .i64 n]) hE hV
  · have hO := H13.retRow 0 rfl
    exact hE ▸ hO
 ·have hc12 : (changeOk c) = true := (notF hc12)
  refine W_skip (Then_n (W_seq (W_reg ?_)))
  refine O_v rfl (C_buildSliceL H11 (enc := encB) (val := byteV) ([3] : List UInt8) Try.underlying31 Try.sizeOf5 Try.zeroValue5 rfl (by decide) (fun _ => rfl) (fun _ => rfl) rfl rfl (by decide) ?_)
  intro b14 w15 hb16 hx17 H18
  refine O_v rfl (R_fieldAddr (off := 0) (oo := 0) Try.underlying27 rfl rfl Try.sizeOf22 rfl rfl ?_)
  refine O_v rfl (R_load1 (v := (slV c.ph c.parents)) Try.isAgg22 rfl ((boxR_at (H18.getOwn 1 rfl)).chunks 0 1 0 0 _ rfl rfl rfl) ?_)
  refine O_v rfl (R_len_slice (a := c.ph.a) (n := c.parents.length) (c := c.ph.c) Try.underlying22 rfl ?_)
  refine O_v rfl (R_callL (vs := [(slV ⟨some ⟨b14, 0, none⟩, b14, 0, 1⟩ ([3] : List UInt8)), (.int .i64 ((c.parents.length : Nat) : Int))]) obj_PutChange_c17 rfl rfl ((enc_Num ⟨some ⟨b14, 0, none⟩, b14, 0, 1⟩ ([3] : List UInt8) ((c.parents.length : Nat) : Int) w15 (H18.rowSl 0 rfl (fun _ => rfl)) (by simp only [List.length_cons, List.length_nil]; omega)).ret ?_))
  rintro _ w20 ⟨h19, rfl, hx21, ho22⟩
  have H23 := H18.addRow hx21 ho22
  refine O_v rfl (R_assign (v := (slV h19 (([3] : List UInt8) ++ numB ((c.parents.length : Nat) : Int)))) rfl ?_)
  refine O_nil (Then_n (W_seq (W_seq (W_reg ?_))))
  refine O_v rfl (R_fieldAddr (off := 0) (oo := 0) Try.underlying27 rfl rfl Try.sizeOf22 rfl rfl ?_)
  refine O_v rfl (R_load1 (v := (slV c.ph c.parents)) Try.isAgg22 rfl ((boxR_at (H23.getOwn 2 rfl)).chunks 0 1 0 0 _ rfl rfl rfl) ?_)
  refine O_v rfl (R_len_slice (a := c.ph.a) (n := c.parents.length) (c := c.ph.c) Try.underlying22 rfl ?_)
  refine O_v rfl (R_move (v := (.int .i64 0)) rfl ?_)
  refine O_nil (Then_n (W_block ?_))
  refine W_loop (fun m25 e26 w27 => ∃ (k : Nat), ∃ (acc : List UInt8), ∃ (h24 : SlH), m25 = c.parents.length - k ∧ (k ≤ c.parents.length) ∧ (acc = parTo c k) ∧ (acc.length ≤ 10 + 32 * k) ∧ (changeOk c = true) ∧ ∃ eb28, e26 = envL [(1, (.pointer (some ⟨b4, 0, none⟩))), (2, (.slice none 0 0)), (3, (.int .i64 0)), (4, (slV h24 acc)), (18, (slV c.ph c.parents)), (19, (.int .i64 ((c.parents.length : Nat) : Int))), (20, (.int .i64 ((k : Nat) : Int)))] eb28 ∧ Ctx w nob w27 [rowR 5 1 encB h24 acc, rowR 5 1 encB ⟨some ⟨b14, 0, none⟩, b14, 0, 1⟩ ([3] : List UInt8), boxR b4 27 [[(slV c.ph c.parents)], [(.int .i64 c.time)], [(.int .i64 c.r)], [(slV c.oh c.ops)], (idCells c.tree), [(.string c.msg)]]] [deepI (Old w) stampCh 2 (fun x : OpS => x.oh) (fun x : OpS => x.over) c.ops, slI (Old w) opCh 41 c.oh c.ops, slI (Old w) idCh 32 c.ph c.parents]) _ ⟨0, (([3] : List UInt8) ++ numB ((c.parents.length : Nat) : Int)), h19, rfl, (by omega), (parTo_zero c), (by have h1 := numB_len ((c.parents.length : Nat) : Int); simp only [List.length_append, List.length_cons, List.length_nil]; omega), (by assumption), _, envL_self ⟨rfl, rfl, rfl, rfl, rfl, rfl, rfl, trivial⟩, H23⟩ ?_
  rintro m25 _ w27 ⟨k, acc, h24, rfl, hk, ha, hal, hC, eb28, rfl, H29⟩
  refine W_seq (W_reg ?_)
  refine O_v rfl (R_cmp (a := ((k : Nat) : Int)) (b := ((c.parents.length : Nat) : Int)) (r := (decide (((k : Nat) : Int) < ((c.parents.length : Nat) : Int)))) rfl rfl rfl ?_)
  refine O_nil (Then_n (W_seq ?_))
  refine W_cond (t := (decide (((k : Nat) : Int) < ((c.parents.length : Nat) : Int)))) rfl (fun hc30 => ?_) (fun hc30 => ?_)
  ·have hc30 : (((k : Nat) : Int) < ((c.parents.length : Nat) : Int)) := (of_decide_eq_true hc30)
   refine W_skip (Then_n (W_seq (W_block (W_seq (W_reg ?_)))))
   refine O_v rfl (R_index_pure (H29.sl 2 rfl) (n := c.parents.length) rfl (j := ((k : Nat) : Int)) (oo := (c.ph.o + k * 32)) Try.underlying22 Try.sizeOf25 rfl rfl (by omega) (by omega) rfl ?_)
   refine O_v rfl (R_loadA (cs := [(idCells (nth c.parents k))]) Try.isAgg25 Try.sizeOf25 rfl rfl ((Sl.elem (H29.sl 2 rfl) (i := k) (by omega) rfl).chunks 0 1 0 (c.ph.o + k * 32) _ rfl rfl rfl) ?_)
   refine O_v rfl (C_alloc H29 [(idCells zeroId)] Try.zeroValue25 ?_)
   intro b31 w32 hb33 hx34 H35
   refine O_u (C_storeA H35 0 rfl 0 (sub := [(idCells (nth c.parents k))]) [(idCells (nth c.parents k))] Try.sizeOf25 rfl rfl rfl rfl ⟨[(idCells zeroId)], [], rfl, rfl, rfl⟩ rfl ?_)
   intro w36 hg37 H38
   refine O_nil (Then_n (W_reg ?_))
   refine O_v rfl (R_move (v := (slV h24 acc)) rfl ?_)
   refine O_v rfl (R_loadA (cs := [(idCells (nth c.parents k))]) Try.isAgg25 Try.sizeOf25 rfl rfl ((boxR_at (H38.getOwn 0 rfl)).chunks 0 1 0 0 _ rfl rfl rfl) ?_)
   refine O_v rfl (R_callL (vs := [(slV h24 acc), (aggOf (idCh (nth c.parents k)))]) obj_PutChange_c18 rfl rfl ((enc_Id h24 acc (nth c.parents k) w36 (H38.rowSl 1 rfl (fun _ => rfl)) (by have := change_lens hC; omega)).ret ?_))
   rintro _ w40 ⟨h39, rfl, hx41, ho42⟩
   have H43 := H38.addRow hx41 ho42
   refine O_v rfl (R_assign (v := (slV h39 (acc ++ idList (nth c.parents k)))) rfl ?_)
   refine O_nil (Blk_n (Then_n (W_reg ?_)))
   refine O_v rfl (R_arith (a := ((k : Nat) : Int)) (b := 1) (r0 := ((k : Nat) : Int) + 1) (r := ((k + 1 : Nat) : Int)) rfl rfl rfl (wrapN _ (by omega)) ?_)
   refine O_v rfl (R_move (v := (.int .i64 ((k + 1 : Nat) : Int))) rfl ?_)
   refine O_nil (Then_n ?_)
   have H44 := H43.sub (B' := [rowR 5 1 encB h39 (acc ++ idList (nth c.parents k)), rowR 5 1 encB ⟨some ⟨b14, 0, none⟩, b14, 0, 1⟩ ([3] : List UInt8), boxR b4 27 [[(slV c.ph c.parents)], [(.int .i64 c.time)], [(.int .i64 c.r)], [(slV c.oh c.ops)], (idCells c.tree), [(.string c.msg)]]]) (I' := [deepI (Old w) stampCh 2 (fun x : OpS => x.oh) (fun x : OpS => x.over) c.ops, slI (Old w) opCh 41 c.oh c.ops, slI (Old w) idCh 32 c.ph c.parents]) (List.Sublist.cons_cons _ (List.Sublist.cons _ (List.Sublist.cons _ (List.Sublist.cons_cons _ (List.Sublist.cons_cons _ List.Sublist.slnil))))) (List.forall_mem_cons.2 ⟨List.mem_of_getElem? (i := 0) rfl, List.forall_mem_cons.2 ⟨List.mem_of_getElem? (i := 1) rfl, List.forall_mem_cons.2 ⟨List.mem_of_getElem? (i := 2) rfl, fun _ h => (nomatch h)⟩⟩⟩)
   refine ⟨_, ?_, (k + 1), (acc ++ idList (nth c.parents k)), h39, rfl, (by omega), (parTo_succ ha (by omega)), (by simp only [List.length_append, idList_len]; omega), hC, _, envL_self ⟨rfl, rfl, rfl, rfl, rfl, rfl, rfl, trivial⟩, H44⟩
   omega
  ·have hc30 : ¬ (((k : Nat) : Int) < ((c.parents.length : Nat) : Int)) := (of_decide_eq_false hc30)
   refine W_exit (Then_x (Then_x (Blk_x (Then_n (W_seq ?_)))))
   refine W_rgd TryMixed [(0, .q 0), (1, .q 0), (2, .q 0), (4, .q 0), (5, .q 0), (7, .q 0), (8, .q 0), (9, .q 0), (3, .c 0), (6, .c 0), (10, .c 0), (11, .q 0)] (by kernel_rfl) ?_
   refine Lx_q (i := 0) rfl rfl _ (fun v45 hv46 => R_move (v := (slV h24 acc)) rfl ⟨rfl, Gr.refl _ _⟩) ?_
   refine Lx_q (i := 1) rfl rfl _ (fun v47 hv48 => R_fieldAddr (off := 1) (oo := 1) Try.underlying27 rfl rfl Try.sizeOf2 rfl rfl ⟨rfl, Gr.refl _ _⟩) ?_
   refine Lx_q (i := 2) rfl rfl _ (fun v49 hv50 => R_load1 (v := (.int .i64 c.time)) Try.isAgg2 rfl ((boxR_at ((H29.ext hv50).getOwn 2 rfl)).chunks 1 1 1 1 _ rfl rfl rfl) ⟨rfl, Gr.refl _ _⟩) ?_
   refine Lx_q (i := 4) rfl rfl _ (fun v51 hv52 => R_fieldAddr (off := 2) (oo := 2) Try.underlying27 rfl rfl Try.sizeOf3 rfl rfl ⟨rfl, Gr.refl _ _⟩) ?_
   refine Lx_q (i := 5) rfl rfl _ (fun v53 hv54 => R_load1 (v := (.int .i64 c.r)) Try.isAgg3 rfl ((boxR_at ((H29.ext hv54).getOwn 2 rfl)).chunks 2 1 2 2 _ rfl rfl rfl) ⟨rfl, Gr.refl _ _⟩) ?_
   refine Lx_q (i := 7) rfl rfl _ (fun v55 hv56 => R_fieldAddr (off := 3) (oo := 3) Try.underlying27 rfl rfl Try.sizeOf23 rfl rfl ⟨rfl, Gr.refl _ _⟩) ?_
   refine Lx_q (i := 8) rfl rfl _ (fun v57 hv58 => R_load1 (v := (slV c.oh c.ops)) Try.isAgg23 rfl ((boxR_at ((H29.ext hv58).getOwn 2 rfl)).chunks 3 1 3 3 _ rfl rfl rfl) ⟨rfl, Gr.refl _ _⟩) ?_
   refine Lx_q (i := 9) rfl rfl _ (fun v59 hv60 => R_len_slice (a := c.oh.a) (n := c.ops.length) (c := c.oh.c) Try.underlying23 rfl ⟨rfl, Gr.refl _ _⟩) ?_
   refine Lx_c (i := 3) rfl rfl (fun w61 hw62 => ?_)
   have H63 := H29.ext hw62
   refine (R_callL (vs := [(slV h24 acc), (.int .i64 c.time)]) obj_PutChange_c17 rfl rfl ((enc_Num h24 acc c.time w61 (H63.rowSl 0 rfl (fun _ => rfl)) (by have h1 := numB_len ((c.parents.length : Nat) : Int); have h2 := numB_len c.time; have h3 := numB_len c.r; have h4 := numB_len ((c.ops.length : Nat) : Int); have h5 := change_lens hC; (try simp only [List.length_append, List.length_cons, List.length_nil, idList_len]); omega)).ret ?_))
   rintro _ w65 ⟨h64, rfl, hx66, ho67⟩
   have H68 := H63.addRow hx66 ho67
   refine ⟨GrF.ofExt hx66, ?_⟩
   refine Lx_c (i := 6) rfl rfl (fun w69 hw70 => ?_)
   have H71 := H68.ext hw70
   refine (R_callL (vs := [(slV h64 (acc ++ numB c.time)), (.int .i64 c.r)]) obj_PutChange_c17 rfl rfl ((enc_Num h64 (acc ++ numB c.time) c.r w69 (H71.rowSl 0 rfl (fun _ => rfl)) (by have h1 := numB_len ((c.parents.length : Nat) : Int); have h2 := numB_len c.time; have h3 := numB_len c.r; have h4 := numB_len ((c.ops.length : Nat) : Int); have h5 := change_lens hC; (try simp only [List.length_append, List.length_cons, List.length_nil, idList_len]); omega)).ret ?_))
   rintro _ w73 ⟨h72, rfl, hx74, ho75⟩
   have H76 := H71.addRow hx74 ho75
   refine ⟨GrF.ofExt hx74, ?_⟩
   refine Lx_c (i := 10) rfl rfl (fun w77 hw78 => ?_)
   have H79 := H76.ext hw78
   refine (R_callL (vs := [(slV h72 ((acc ++ numB c.time) ++ numB c.r)), (.int .i64 ((c.ops.length : Nat) : Int))]) obj_PutChange_c17 rfl rfl ((enc_Num h72 ((acc ++ numB c.time) ++ numB c.r) ((c.ops.length : Nat) : Int) w77 (H79.rowSl 0 rfl (fun _ => rfl)) (by have h1 := numB_len ((c.parents.length : Nat) : Int); have h2 := numB_len c.time; have h3 := numB_len c.r; have h4 := numB_len ((c.ops.length : Nat) : Int); have h5 := change_lens hC; (try simp only [List.length_append, List.length_cons, List.length_nil, idList_len]); omega)).ret ?_))
   rintro _ w81 ⟨h80, rfl, hx82, ho83⟩
   have H84 := H79.addRow hx82 ho83
   refine ⟨GrF.ofExt hx82, ?_⟩
   refine Lx_q (i := 11) rfl rfl _ (fun v85 hv86 => R_assign (v := (slV h80 (((acc ++ numB c.time) ++ numB c.r) ++ numB ((c.ops.length : Nat) : Int)))) rfl ⟨rfl, Gr.refl _ _⟩) ?_
   refine Lx_nil (fun w87 hw88 => ?_)
   have H89 := H84.ext hw88
   refine Then_n (W_seq (W_seq (W_reg ?_)))
   refine O_v rfl (R_fieldAddr (off := 3) (oo := 3) Try.underlying27 rfl rfl Try.sizeOf23 rfl rfl ?_)
   refine O_v rfl (R_load1 (v := (slV c.oh c.ops)) Try.isAgg23 rfl ((boxR_at (H89.getOwn 5 rfl)).chunks 3 1 3 3 _ rfl rfl rfl) ?_)
   refine O_v rfl (R_len_slice (a := c.oh.a) (n := c.ops.length) (c := c.oh.c) Try.underlying23 rfl ?_)
   refine O_v rfl (R_move (v := (.int .i64 0)) rfl ?_)
   refine O_nil (Then_n (W_block ?_))
   refine W_loop (fun m91 e92 w93 => ∃ (j : Nat), ∃ (acc2 : List UInt8), ∃ (h90 : SlH), m91 = c.ops.length - j ∧ (j ≤ c.ops.length) ∧ (acc2 = opsTo c j) ∧ (acc2.length ≤ 200 + 1400 * j) ∧ ∃ eb94, e92 = envL [(1, (.pointer (some ⟨b4, 0, none⟩))), (2, (.slice none 0 0)), (3, (.int .i64 0)), (4, (slV h90 acc2)), (40, (slV c.oh c.ops)), (41, (.int .i64 ((c.ops.length : Nat) : Int))), (42, (.int .i64 ((j : Nat) : Int)))] eb94 ∧ Ctx w nob w93 [rowR 5 1 encB h90 acc2, rowR 5 1 encB h72 ((acc ++ numB c.time) ++ numB c.r), rowR 5 1 encB h64 (acc ++ numB c.time), rowR 5 1 encB h24 acc, rowR 5 1 encB ⟨some ⟨b14, 0, none⟩, b14, 0, 1⟩ ([3] : List UInt8), boxR b4 27 [[(slV c.ph c.parents)], [(.int .i64 c.time)], [(.int .i64 c.r)], [(slV c.oh c.ops)], (idCells c.tree), [(.string c.msg)]]] [deepI (Old w) stampCh 2 (fun x : OpS => x.oh) (fun x : OpS => x.over) c.ops, slI (Old w) opCh 41 c.oh c.ops, slI (Old w) idCh 32 c.ph c.parents]) _ ⟨0, (((acc ++ numB c.time) ++ numB c.r) ++ numB ((c.ops.length : Nat) : Int)), h80, rfl, (by omega), (opsTo_zero ha (by omega)), (by have h1 := numB_len ((c.parents.length : Nat) : Int); have h2 := numB_len c.time; have h3 := numB_len c.r; have h4 := numB_len ((c.ops.length : Nat) : Int); have h5 := change_lens hC; (try simp only [List.length_append, List.length_cons, List.length_nil, idList_len]); omega), _, envL_self ⟨rfl, rfl, rfl, rfl, rfl, rfl, rfl, trivial⟩, H89⟩ ?_
   rintro m91 _ w93 ⟨j, acc2, h90, rfl, hj, ha2, hal2, eb94, rfl, H95⟩
   refine W_seq (W_reg ?_)
   refine O_v rfl (R_cmp (a := ((j : Nat) : Int)) (b := ((c.ops.length : Nat) : Int)) (r := (decide (((j : Nat) : Int) < ((c.ops.length : Nat) : Int)))) rfl rfl rfl ?_)
   refine O_nil (Then_n (W_seq ?_))
   refine W_cond (t := (decide (((j : Nat) : Int) < ((c.ops.length : Nat) : Int)))) rfl (fun hc96 => ?_) (fun hc96 => ?_)
   ·have hc96 : (((j : Nat) : Int) < ((c.ops.length : Nat) : Int)) := (of_decide_eq_true hc96)
    refine W_skip (Then_n (W_seq (W_block (W_seq (W_reg ?_)))))
    refine O_v rfl (R_index_pure (H95.sl 1 rfl) (n := c.ops.length) rfl (j := ((j : Nat) : Int)) (oo := (c.oh.o + j * 41)) Try.underlying23 Try.sizeOf56 rfl rfl (by omega) (by omega) rfl ?_)
    refine O_v rfl (R_loadA (cs := [[(.int .i64 ((nth c.ops j).kind))], [(.int .i64 (((nth c.ops j).tm).T))], [(.int .i64 (((nth c.ops j).tm).R))], [(.int .i64 (((nth c.ops j).node).T))], [(.int .i64 (((nth c.ops j).node).R))], [(.int .i64 (((nth c.ops j).par).T))], [(.int .i64 (((nth c.ops j).par).R))], [(.string ((nth c.ops j).name))], (idCells ((nth c.ops j).data)), [(slV ((nth c.ops j).oh) ((nth c.ops j).over))]]) Try.isAgg56 Try.sizeOf56 rfl rfl ((Sl.elem (H95.sl 1 rfl) (i := j) (by omega) rfl).chunks 0 10 0 (c.oh.o + j * 41) _ rfl rfl rfl) ?_)
    refine O_v rfl (C_alloc H95 [[(.int .i64 0)], [(.int .i64 0)], [(.int .i64 0)], [(.int .i64 0)], [(.int .i64 0)], [(.int .i64 0)], [(.int .i64 0)], [(.string ByteArray.empty)], (idCells zeroId), [(.slice none 0 0)]] Try.zeroValue56 ?_)
    intro b97 w98 hb99 hx100 H101
    refine O_u (C_storeA H101 0 rfl 0 (sub := [[(.int .i64 ((nth c.ops j).kind))], [(.int .i64 (((nth c.ops j).tm).T))], [(.int .i64 (((nth c.ops j).tm).R))], [(.int .i64 (((nth c.ops j).node).T))], [(.int .i64 (((nth c.ops j).node).R))], [(.int .i64 (((nth c.ops j).par).T))], [(.int .i64 (((nth c.ops j).par).R))], [(.string ((nth c.ops j).name))], (idCells ((nth c.ops j).data)), [(slV ((nth c.ops j).oh) ((nth c.ops j).over))]]) [[(.int .i64 ((nth c.ops j).kind))], [(.int .i64 (((nth c.ops j).tm).T))], [(.int .i64 (((nth c.ops j).tm).R))], [(.int .i64 (((nth c.ops j).node).T))], [(.int .i64 (((nth c.ops j).node).R))], [(.int .i64 (((nth c.ops j).par).T))], [(.int .i64 (((nth c.ops j).par).R))], [(.string ((nth c.ops j).name))], (idCells ((nth c.ops j).data)), [(slV ((nth c.ops j).oh) ((nth c.ops j).over))]] Try.sizeOf56 rfl rfl rfl rfl ⟨[[(.int .i64 0)], [(.int .i64 0)], [(.int .i64 0)], [(.int .i64 0)], [(.int .i64 0)], [(.int .i64 0)], [(.int .i64 0)], [(.string ByteArray.empty)], (idCells zeroId), [(.slice none 0 0)]], [], rfl, rfl, rfl⟩ rfl ?_)
    intro w102 hg103 H104
    refine O_nil (Then_n (W_reg ?_))
    refine O_v rfl (R_move (v := (slV h90 acc2)) rfl ?_)
    refine O_v rfl (R_loadA (cs := [[(.int .i64 ((nth c.ops j).kind))], [(.int .i64 (((nth c.ops j).tm).T))], [(.int .i64 (((nth c.ops j).tm).R))], [(.int .i64 (((nth c.ops j).node).T))], [(.int .i64 (((nth c.ops j).node).R))], [(.int .i64 (((nth c.ops j).par).T))], [(.int .i64 (((nth c.ops j).par).R))], [(.string ((nth c.ops j).name))], (idCells ((nth c.ops j).data)), [(slV ((nth c.ops j).oh) ((nth c.ops j).over))]]) Try.isAgg56 Try.sizeOf56 rfl rfl ((boxR_at (H104.getOwn 0 rfl)).chunks 0 10 0 0 _ rfl rfl rfl) ?_)
    refine O_v rfl (R_callL (vs := [(slV h90 acc2), (aggOf (opCh (nth c.ops j)))]) obj_PutChange_c19 rfl rfl ((stamp_Put h90 acc2 (nth c.ops j) w102 (H104.rowSl 1 rfl (fun _ => rfl)) (H104.deepOld 0 rfl _ (nth_mem (by omega))) (by have := change_lens hC; omega)).ret ?_))
    rintro _ w106 ⟨h105, rfl, hx107, ho108⟩
    have H109 := H104.addRow hx107 ho108
    refine O_v rfl (R_assign (v := (slV h105 (acc2 ++ putOpB (nth c.ops j)))) rfl ?_)
    refine O_nil (Blk_n (Then_n (W_reg ?_)))
    refine O_v rfl (R_arith (a := ((j : Nat) : Int)) (b := 1) (r0 := ((j : Nat) : Int) + 1) (r := ((j + 1 : Nat) : Int)) rfl rfl rfl (wrapN _ (by omega)) ?_)
    refine O_v rfl (R_move (v := (.int .i64 ((j + 1 : Nat) : Int))) rfl ?_)
    refine O_nil (Then_n ?_)
    have H110 := H109.sub (B' := [rowR 5 1 encB h105 (acc2 ++ putOpB (nth c.ops j)), rowR 5 1 encB h72 ((acc ++ numB c.time) ++ numB c.r), rowR 5 1 encB h64 (acc ++ numB c.time), rowR 5 1 encB h24 acc, rowR 5 1 encB ⟨some ⟨b14, 0, none⟩, b14, 0, 1⟩ ([3] : List UInt8), boxR b4 27 [[(slV c.ph c.parents)], [(.int .i64 c.time)], [(.int .i64 c.r)], [(slV c.oh c.ops)], (idCells c.tree), [(.string c.msg)]]]) (I' := [deepI (Old w) stampCh 2 (fun x : OpS => x.oh) (fun x : OpS => x.over) c.ops, slI (Old w) opCh 41 c.oh c.ops, slI (Old w) idCh 32 c.ph c.parents]) (List.Sublist.cons_cons _ (List.Sublist.cons _ (List.Sublist.cons _ (List.Sublist.cons_cons _ (List.Sublist.cons_cons _ (List.Sublist.cons_cons _ (List.Sublist.cons_cons _ (List.Sublist.cons_cons _ List.Sublist.slnil)))))))) (List.forall_mem_cons.2 ⟨List.mem_of_getElem? (i := 0) rfl, List.forall_mem_cons.2 ⟨List.mem_of_getElem? (i := 1) rfl, List.forall_mem_cons.2 ⟨List.mem_of_getElem? (i := 2) rfl, fun _ h => (nomatch h)⟩⟩⟩)
    refine ⟨_, ?_, (j + 1), (acc2 ++ putOpB (nth c.ops j)), h105, rfl, (by omega), (opsTo_succ ha2 (by omega)), (by have := putOpB_len (nth c.ops j); simp only [List.length_append]; omega), _, envL_self ⟨rfl, rfl, rfl, rfl, rfl, rfl, rfl, trivial⟩, H110⟩
    omega
   ·have hc96 : ¬ (((j : Nat) : Int) < ((c.ops.length : Nat) : Int)) := (of_decide_eq_false hc96)
    refine W_exit (Then_x (Then_x (Blk_x (Then_n (W_seq ?_)))))
    refine W_rgd TryMixed [(0, .q 0), (1, .q 0), (2, .q 0), (4, .q 0), (5, .q 0), (3, .c 0), (6, .c 0), (7, .q 0), (8, .q 0)] (by kernel_rfl) ?_
    refine Lx_q (i := 0) rfl rfl _ (fun v111 hv112 => R_move (v := (slV h90 acc2)) rfl ⟨rfl, Gr.refl _ _⟩) ?_
    refine Lx_q (i := 1) rfl rfl _ (fun v113 hv114 => R_fieldAddr (off := 4) (oo := 4) Try.underlying27 rfl rfl Try.sizeOf25 rfl rfl ⟨rfl, Gr.refl _ _⟩) ?_
    refine Lx_q (i := 2) rfl rfl _ (fun v115 hv116 => R_loadA (cs := [(idCells c.tree)]) Try.isAgg25 Try.sizeOf25 rfl rfl ((boxR_at ((H95.ext hv116).getOwn 5 rfl)).chunks 4 1 4 4 _ rfl rfl rfl) ⟨rfl, Gr.refl _ _⟩) ?_
    refine Lx_q (i := 4) rfl rfl _ (fun v117 hv118 => R_fieldAddr (off := 36) (oo := 36) Try.underlying27 rfl rfl Try.sizeOf9 rfl rfl ⟨rfl, Gr.refl _ _⟩) ?_
    refine Lx_q (i := 5) rfl rfl _ (fun v119 hv120 => R_load1 (v := (.string c.msg)) Try.isAgg9 rfl ((boxR_at ((H95.ext hv120).getOwn 5 rfl)).chunks 5 1 36 36 _ rfl rfl rfl) ⟨rfl, Gr.refl _ _⟩) ?_
    refine Lx_c (i := 3) rfl rfl (fun w121 hw122 => ?_)
    have H123 := H95.ext hw122
    refine (R_callL (vs := [(slV h90 acc2), (aggOf (idCh c.tree))]) obj_PutChange_c18 rfl rfl ((enc_Id h90 acc2 c.tree w121 (H123.rowSl 0 rfl (fun _ => rfl)) (by have := change_lens hC; omega)).ret ?_))
    rintro _ w125 ⟨h124, rfl, hx126, ho127⟩
    have H128 := H123.addRow hx126 ho127
    refine ⟨GrF.ofExt hx126, ?_⟩
    refine Lx_c (i := 6) rfl rfl (fun w129 hw130 => ?_)
    have H131 := H128.ext hw130
    refine (R_callL (vs := [(slV h124 (acc2 ++ idList c.tree)), (.string c.msg)]) obj_PutChange_c20 rfl rfl ((enc_Text h124 (acc2 ++ idList c.tree) c.msg w129 (H131.rowSl 0 rfl (fun _ => rfl)) (by have := change_lens hC; simp only [List.length_append, idList_len]; omega)).ret ?_))
    rintro _ w133 ⟨h132, rfl, hx134, ho135⟩
    have H136 := H131.addRow hx134 ho135
    refine ⟨GrF.ofExt hx134, ?_⟩
    refine Lx_q (i := 7) rfl rfl _ (fun v137 hv138 => R_assign (v := (slV h132 ((acc2 ++ idList c.tree) ++ textB c.msg))) rfl ⟨rfl, Gr.refl _ _⟩) ?_
    refine Lx_q (i := 8) rfl rfl _ (fun v139 hv140 => R_assign (v := (.int .i64 0)) rfl ⟨rfl, Gr.refl _ _⟩) ?_
    refine Lx_nil (fun w141 hw142 => ?_)
    have H143 := H136.ext hw142
    refine Then_n (W_ret ?_)
    refine ret_2 (v := (slV h132 ((acc2 ++ idList c.tree) ++ textB c.msg))) (v' := (.int .i64 0)) Try.results6 rfl rfl ?_
    have hE : (acc2 ++ idList c.tree) ++ textB c.msg = putChangeB c := (putChange_t hC ha2 (by omega)).1
    have hV : 0 = putChangeE c := (putChange_t hC ha2 (by omega)).2
    refine ⟨h132, ?_, H143.gr, ?_⟩
    · exact two_eq (fun l n => Value.tuple #[slV h132 l, Value.int .i64 n]) hE hV
    · have hO := H143.retRow 0 rfl
      exact hE ▸ hO

end Go.Proofs.Ythjdhfoeckfmbaa
namespace Go.Proofs.Ythjdhfoeckfmbaa
open Go
set_option maxRecDepth 100000
set_option linter.unusedVariables false
set_option linter.unusedSimpArgs false
set_option linter.unusedSectionVars false
variable [DD]
theorem obj_at_c17 : callable Try.prog 17 = true := by kernel_rfl
set_option maxHeartbeats 1000000 in
theorem obj_at (hb : SlH) (b : List UInt8) (s : Stamp) (w : World) (Sb : Sl (Old w) encB 1 hb b w) (hl : b.length ≤ 35184372088832) :
    Calls Try.prog 31 #[(slV hb b), (aggOf (stampCh s))] w (Ret fun v w' => ∃ h, v = slV h (b ++ atB s) ∧ Ext w w' ∧ OwnS w.heap.size 5 1 encB h (b ++ atB s) w') := by
 refine calls_W Try.func31 rfl Try.ntmps31 rfl ?_
 have H0 := Ctx.start w nob
 have H1 := H0.addSl _ Sb (fun b hb => ⟨hb, fun _ ho => (nomatch ho)⟩)
 have LSb := Sb.len
 refine W_seq (W_reg ?_)
 refine O_v rfl (C_box H1 [[(.int .i64 s.T)], [(.int .i64 s.R)]] rfl ?_)
 intro b2 w3 hb4 hx5 H6
 refine O_v rfl (R_assign (v := (.slice none 0 0)) rfl ?_)
 refine O_nil (Then_n (W_seq ?_))
 refine W_rgd TryMixed [(0, .q 0), (1, .q 0), (2, .q 0), (4, .q 0), (5, .q 0), (3, .c 0), (6, .c 0), (7, .q 0)] (by kernel_rfl) ?_
 refine Lx_q (i := 0) rfl rfl _ (fun v7 hv8 => R_move (v := (slV hb b)) rfl ⟨rfl, Gr.refl _ _⟩) ?_
 refine Lx_q (i := 1) rfl rfl _ (fun v9 hv10 => R_fieldAddr (off := 0) (oo := 0) Try.underlying46 rfl rfl Try.sizeOf2 rfl rfl ⟨rfl, Gr.refl _ _⟩) ?_
 refine Lx_q (i := 2) rfl rfl _ (fun v11 hv12 => R_load1 (v := (.int .i64 s.T)) Try.isAgg2 rfl ((boxR_at ((H6.ext hv12).getOwn 0 rfl)).chunks 0 1 0 0 _ rfl rfl rfl) ⟨rfl, Gr.refl _ _⟩) ?_
 refine Lx_q (i := 4) rfl rfl _ (fun v13 hv14 => R_fieldAddr (off := 1) (oo := 1) Try.underlying46 rfl rfl Try.sizeOf3 rfl rfl ⟨rfl, Gr.refl _ _⟩) ?_
 refine Lx_q (i := 5) rfl rfl _ (fun v15 hv16 => R_load1 (v := (.int .i64 s.R)) Try.isAgg3 rfl ((boxR_at ((H6.ext hv16).getOwn 0 rfl)).chunks 1 1 1 1 _ rfl rfl rfl) ⟨rfl, Gr.refl _ _⟩) ?_
 refine Lx_c (i := 3) rfl rfl (fun w17 hw18 => ?_)
 have H19 := H6.ext hw18
 refine (R_callL (vs := [(slV hb b), (.int .i64 s.T)]) obj_at_c17 rfl rfl ((enc_Num hb b s.T w17 (H19.slOld 0 rfl) (by omega)).ret ?_))
 rintro _ w21 ⟨h20, rfl, hx22, ho23⟩
 have H24 := H19.addRow hx22 ho23
 refine ⟨GrF.ofExt hx22, ?_⟩
 refine Lx_c (i := 6) rfl rfl (fun w25 hw26 => ?_)
 have H27 := H24.ext hw26
 refine (R_callL (vs := [(slV h20 (b ++ numB s.T)), (.int .i64 s.R)]) obj_at_c17 rfl rfl ((enc_Num h20 (b ++ numB s.T) s.R w25 (H27.rowSl 0 rfl (fun _ => rfl)) (by have := numB_len s.T; simp only [List.length_append]; omega)).ret ?_))
 rintro _ w29 ⟨h28, rfl, hx30, ho31⟩
 have H32 := H27.addRow hx30 ho31
 refine ⟨GrF.ofExt hx30, ?_⟩
 refine Lx_q (i := 7) rfl rfl _ (fun v33 hv34 => R_assign (v := (slV h28 ((b ++ numB s.T) ++ numB s.R))) rfl ⟨rfl, Gr.refl _ _⟩) ?_
 refine Lx_nil (fun w35 hw36 => ?_)
 have H37 := H32.ext hw36
 refine Then_n (W_ret ?_)
 refine ret_1 (v := (slV h28 ((b ++ numB s.T) ++ numB s.R))) Try.results31 rfl ?_
 have hE : (b ++ numB s.T) ++ numB s.R = b ++ atB s := (List.append_assoc _ _ _)
 refine ⟨h28, ?_, H37.gr, ?_⟩
 · exact congrArg (fun l => slV h28 l) hE
 · have hO := H37.retRow 0 rfl
   exact hE ▸ hO

end Go.Proofs.Ythjdhfoeckfmbaa
namespace Go.Proofs.Ythjdhfoeckfmbaa
open Go
set_option maxRecDepth 100000
set_option linter.unusedVariables false
set_option linter.unusedSimpArgs false
set_option linter.unusedSectionVars false
theorem obj_PutDir_c17 : callable Try.prog 17 = true := by kernel_rfl
theorem obj_PutDir_c18 : callable Try.prog 18 = true := by kernel_rfl
theorem obj_PutDir_c20 : callable Try.prog 20 = true := by kernel_rfl
theorem obj_PutDir_c29 : callable Try.prog 29 = true := by kernel_rfl
theorem obj_PutDir_c31 : callable Try.prog 31 = true := by kernel_rfl
set_option maxHeartbeats 2000000 in
theorem obj_PutDir (hitems : SlH) (items : List ItemS) (w : World) (Sitems : Sl (Old w) itemCh 38 hitems items w) (Ditems_heads : ∀ x ∈ items, Sl (Old w) headCh 34 x.hh x.heads w) :
    Calls Try.prog 12 #[(slV hitems items)] w (Ret fun v w' => ∃ h0, v = .tuple #[slV h0 (putDirB items), (.int .i64 (putDirE items))] ∧ Ext w w' ∧ OwnS w.heap.size 5 1 encB h0 (putDirB items) w') := by
 refine calls_W Try.func12 rfl Try.ntmps12 rfl ?_
 have H0 := Ctx.start w nob
 have H1 := H0.addSl _ Sitems (fun b hb => ⟨hb, fun _ ho => (nomatch ho)⟩)
 have LSitems := Sitems.len
 have H2 := H1.addImm' (deepI (Old w) headCh 34 (fun x : ItemS => x.hh) (fun x : ItemS => x.heads) items) Ditems_heads (fun b hb => ⟨hb, fun _ ho => (nomatch ho)⟩)
 refine W_seq (W_reg ?_)
 refine O_v rfl (R_assign (v := (.slice none 0 0)) rfl ?_)
 refine O_v rfl (R_assign (v := (.int .i64 0)) rfl ?_)
 refine O_nil (Then_n (W_seq (W_seq (W_reg ?_))))
 refine O_v rfl (R_move (v := (slV hitems items)) rfl ?_)
 refine O_v rfl (R_callL (vs := [(slV hitems items)]) obj_PutDir_c29 rfl rfl ((obj_rightDir hitems items w (H2.slOld 1 rfl) (H2.deepOld 0 rfl)).ret ?_))
 rintro _ w3 ⟨rfl, hx4⟩
 have H5 := H2.ext hx4
 refine O_v rfl (R_not rfl ?_)
 refine O_nil (Then_n ?_)
 refine W_cond (t := (!(dirOk items))) rfl (fun hc6 => ?_) (fun hc6 => ?_)
 ·have hc6 : (dirOk items) = false := (notT hc6)
  refine W_seq (W_reg ?_)
  refine O_v rfl (R_assign (v := (.slice none 0 0)) rfl ?_)
  refine O_v rfl (R_assign (v := (.int .i64 1)) rfl ?_)
  refine O_nil (Then_n (W_ret (Then_r ?_)))
  refine ret_2 (v := (.slice none 0 0)) (v' := (.int .i64 1)) Try.results12 rfl rfl ?_
  have H7 := H5.addNil 5 1 encB
  have hE : [] = putDirB items := (putDir_no (by assumption)).1
  have hV : 1 = putDirE items := (putDir_no (by assumption)).2
  refine ⟨nilH, ?_, H7.gr, ?_⟩
  · exact two_eq (fun l n => Value.tuple #[slV nilH l, Value.int .i64 n]) hE hV
  · have hO := H7.retRow 0 rfl
    exact hE ▸ hO
 ·have hc6 : (dirOk items) = true := (notF hc6)
  refine W_skip (Then_n (W_seq (W_reg ?_)))
  refine O_v rfl (C_buildSliceL H5 (enc := encB) (val := byteV) ([2] : List UInt8) Try.underlying31 Try.sizeOf5 Try.zeroValue5 rfl (by decide) (fun _ => rfl) (fun _ => rfl) rfl rfl (by decide) ?_)
  intro b8 w9 hb10 hx11 H12
  refine O_v rfl (R_move (v := (slV hitems items)) rfl ?_)
  refine O_v rfl (R_len_slice (a := hitems.a) (n := items.length) (c := hitems.c) Try.underlying39 rfl ?_)
  refine O_v rfl (R_callL (vs := [(slV ⟨some ⟨b8, 0, none⟩, b8, 0, 1⟩ ([2] : List UInt8)), (.int .i64 ((items.length : Nat) : Int))]) obj_PutDir_c17 rfl rfl ((enc_Num ⟨some ⟨b8, 0, none⟩, b8, 0, 1⟩ ([2] : List UInt8) ((items.length : Nat) : Int) w9 (H12.rowSl 0 rfl (fun _ => rfl)) (by decide)).ret ?_))
  rintro _ w14 ⟨h13, rfl, hx15, ho16⟩
  have H17 := H12.addRow hx15 ho16
  refine O_v rfl (R_assign (v := (slV h13 (([2] : List UInt8) ++ numB ((items.length : Nat) : Int)))) rfl ?_)
  refine O_nil (Then_n (W_seq (W_seq (W_reg ?_))))
  refine O_v rfl (R_move (v := (slV hitems items)) rfl ?_)
  refine O_v rfl (R_len_slice (a := hitems.a) (n := items.length) (c := hitems.c) Try.underlying39 rfl ?_)
  refine O_v rfl (R_move (v := (.int .i64 0)) rfl ?_)
  refine O_nil (Then_n (W_block ?_))
  refine W_loop (fun m19 e20 w21 => ∃ (k : Nat), ∃ (acc : List UInt8), ∃ (h18 : SlH), m19 = items.length - k ∧ (k ≤ items.length) ∧ (acc = dirTo items k) ∧ (acc.length ≤ 10 + k * 51000) ∧ (dirOk items = true) ∧ ∃ eb22, e20 = envL [(2, (.slice none 0 0)), (3, (.int .i64 0)), (4, (slV h18 acc)), (16, (slV hitems items)), (17, (.int .i64 ((items.length : Nat) : Int))), (18, (.int .i64 ((k : Nat) : Int)))] eb22 ∧ Ctx w nob w21 [rowR 5 1 encB h18 acc, rowR 5 1 encB ⟨some ⟨b8, 0, none⟩, b8, 0, 1⟩ ([2] : List UInt8)] [deepI (Old w) headCh 34 (fun x : ItemS => x.hh) (fun x : ItemS => x.heads) items, slI (Old w) itemCh 38 hitems items]) _ ⟨0, (([2] : List UInt8) ++ numB ((items.length : Nat) : Int)), h13, rfl, (by omega), (dirTo_zero items), (by have := numB_len (items.length : Nat); simp only [List.length_append, List.length_cons, List.length_nil]; omega), (by assumption), _, envL_self ⟨rfl, rfl, rfl, rfl, rfl, rfl, trivial⟩, H17⟩ ?_
  rintro m19 _ w21 ⟨k, acc, h18, rfl, hk, ha, hal, hD, eb22, rfl, H23⟩
  refine W_seq (W_reg ?_)
  refine O_v rfl (R_cmp (a := ((k : Nat) : Int)) (b := ((items.length : Nat) : Int)) (r := (decide (((k : Nat) : Int) < ((items.length : Nat) : Int)))) rfl rfl rfl ?_)
  refine O_nil (Then_n (W_seq ?_))
  refine W_cond (t := (decide (((k : Nat) : Int) < ((items.length : Nat) : Int)))) rfl (fun hc24 => ?_) (fun hc24 => ?_)
  ·have hc24 : (((k : Nat) : Int) < ((items.length : Nat) : Int)) := (of_decide_eq_true hc24)
   refine W_skip (Then_n (W_seq (W_block (W_seq (W_reg ?_)))))
   refine O_v rfl (R_index_pure (H23.sl 1 rfl) (n := items.length) rfl (j := ((k : Nat) : Int)) (oo := (hitems.o + k * 38)) Try.underlying39 Try.sizeOf49 rfl rfl (by omega) (by omega) rfl ?_)
   refine O_v rfl (R_loadA (cs := [[(.int .i64 (((nth items k).node).T))], [(.int .i64 (((nth items k).node).R))], [(.int .i64 (((nth items k).tm).T))], [(.int .i64 (((nth items k).tm).R))], [(.string ((nth items k).name))], (idCells ((nth items k).sub)), [(slV ((nth items k).hh) ((nth items k).heads))]]) Try.isAgg49 Try.sizeOf49 rfl rfl ((Sl.elem (H23.sl 1 rfl) (i := k) (by omega) rfl).chunks 0 7 0 (hitems.o + k * 38) _ rfl rfl rfl) ?_)
   refine O_v rfl (C_alloc H23 [[(.int .i64 0)], [(.int .i64 0)], [(.int .i64 0)], [(.int .i64 0)], [(.string ByteArray.empty)], (idCells zeroId), [(.slice none 0 0)]] Try.zeroValue49 ?_)
   intro b25 w26 hb27 hx28 H29
   refine O_u (C_storeA H29 0 rfl 0 (sub := [[(.int .i64 (((nth items k).node).T))], [(.int .i64 (((nth items k).node).R))], [(.int .i64 (((nth items k).tm).T))], [(.int .i64 (((nth items k).tm).R))], [(.string ((nth items k).name))], (idCells ((nth items k).sub)), [(slV ((nth items k).hh) ((nth items k).heads))]]) [[(.int .i64 (((nth items k).node).T))], [(.int .i64 (((nth items k).node).R))], [(.int .i64 (((nth items k).tm).T))], [(.int .i64 (((nth items k).tm).R))], [(.string ((nth items k).name))], (idCells ((nth items k).sub)), [(slV ((nth items k).hh) ((nth items k).heads))]] Try.sizeOf49 rfl rfl rfl rfl ⟨[[(.int .i64 0)], [(.int .i64 0)], [(.int .i64 0)], [(.int .i64 0)], [(.string ByteArray.empty)], (idCells zeroId), [(.slice none 0 0)]], [], rfl, rfl, rfl⟩ rfl ?_)
   intro w30 hg31 H32
   refine O_nil (Then_n (W_seq ?_))
   refine W_rgdM TryMixed nob (fun i => if i == 17 then 2 else 0) [(0, .q 2), (1, .q 2), (2, .q 0), (4, .q 2), (5, .q 0), (7, .q 2), (8, .q 0), (10, .q 2), (11, .q 0), (13, .q 2), (14, .q 0), (15, .q 2), (3, .c 0), (6, .c 0), (9, .c 0), (12, .c 0), (16, .c 0), (17, .c 2), (18, .q 2)] (by kernel_rfl) ?_
   refine Lx_q (i := 0) rfl rfl _ (fun v33 hv34 => R_move (v := (slV h18 acc)) rfl ⟨rfl, Gr.refl _ _⟩) ?_
   refine Lx_q (i := 1) rfl rfl _ (fun v35 hv36 => R_fieldAddr (off := 0) (oo := 0) Try.underlying49 rfl rfl Try.sizeOf46 rfl rfl ⟨rfl, Gr.refl _ _⟩) ?_
   refine Lx_q (i := 2) rfl rfl _ (fun v37 hv38 => R_loadA (cs := [[(.int .i64 (((nth items k).node).T))], [(.int .i64 (((nth items k).node).R))]]) Try.isAgg46 Try.sizeOf46 rfl rfl ((boxR_at ((H32.ext hv38).getOwn 0 rfl)).chunks 0 2 0 0 _ rfl rfl rfl) ⟨rfl, Gr.refl _ _⟩) ?_
   refine Lx_q (i := 4) rfl rfl _ (fun v39 hv40 => R_fieldAddr (off := 2) (oo := 2) Try.underlying49 rfl rfl Try.sizeOf46 rfl rfl ⟨rfl, Gr.refl _ _⟩) ?_
   refine Lx_q (i := 5) rfl rfl _ (fun v41 hv42 => R_loadA (cs := [[(.int .i64 (((nth items k).tm).T))], [(.int .i64 (((nth items k).tm).R))]]) Try.isAgg46 Try.sizeOf46 rfl rfl ((boxR_at ((H32.ext hv42).getOwn 0 rfl)).chunks 2 2 2 2 _ rfl rfl rfl) ⟨rfl, Gr.refl _ _⟩) ?_
   refine Lx_q (i := 7) rfl rfl _ (fun v43 hv44 => R_fieldAddr (off := 4) (oo := 4) Try.underlying49 rfl rfl Try.sizeOf9 rfl rfl ⟨rfl, Gr.refl _ _⟩) ?_
   refine Lx_q (i := 8) rfl rfl _ (fun v45 hv46 => R_load1 (v := (.string ((nth items k).name))) Try.isAgg9 rfl ((boxR_at ((H32.ext hv46).getOwn 0 rfl)).chunks 4 1 4 4 _ rfl rfl rfl) ⟨rfl, Gr.refl _ _⟩) ?_
   refine Lx_q (i := 10) rfl rfl _ (fun v47 hv48 => R_fieldAddr (off := 5) (oo := 5) Try.underlying49 rfl rfl Try.sizeOf25 rfl rfl ⟨rfl, Gr.refl _ _⟩) ?_
   refine Lx_q (i := 11) rfl rfl _ (fun v49 hv50 => R_loadA (cs := [(idCells ((nth items k).sub))]) Try.isAgg25 Try.sizeOf25 rfl rfl ((boxR_at ((H32.ext hv50).getOwn 0 rfl)).chunks 5 1 5 5 _ rfl rfl rfl) ⟨rfl, Gr.refl _ _⟩) ?_
   refine Lx_q (i := 13) rfl rfl _ (fun v51 hv52 => R_fieldAddr (off := 37) (oo := 37) Try.underlying49 rfl rfl Try.sizeOf47 rfl rfl ⟨rfl, Gr.refl _ _⟩) ?_
   refine Lx_q (i := 14) rfl rfl _ (fun v53 hv54 => R_load1 (v := (slV ((nth items k).hh) ((nth items k).heads))) Try.isAgg47 rfl ((boxR_at ((H32.ext hv54).getOwn 0 rfl)).chunks 6 1 37 37 _ rfl rfl rfl) ⟨rfl, Gr.refl _ _⟩) ?_
   refine Lx_q (i := 15) rfl rfl _ (fun v55 hv56 => R_len_slice (a := ((nth items k).hh).a) (n := ((nth items k).heads).length) (c := ((nth items k).hh).c) Try.underlying47 rfl ⟨rfl, Gr.refl _ _⟩) ?_
   refine Lx_c (i := 3) rfl rfl (fun w57 hw58 => ?_)
   have H59 := H32.ext hw58
   refine (R_callL (vs := [(.slice none 0 0), (aggOf (stampCh ((nth items k).node)))]) obj_PutDir_c31 rfl rfl ((obj_at nilH [] ((nth items k).node) w57 (Sl.nil _ _ _ _) (by decide)).ret ?_))
   rintro _ w61 ⟨h60, rfl, hx62, ho63⟩
   have H64 := H59.addRow hx62 ho63
   refine ⟨GrF.ofExt hx62, ?_⟩
   refine Lx_c (i := 6) rfl rfl (fun w65 hw66 => ?_)
   have H67 := H64.ext hw66
   refine (R_callL (vs := [(slV h60 ([] ++ atB ((nth items k).node))), (aggOf (stampCh ((nth items k).tm)))]) obj_PutDir_c31 rfl rfl ((obj_at h60 ([] ++ atB ((nth items k).node)) ((nth items k).tm) w65 (H67.rowSl 0 rfl (fun _ => rfl)) (by have h1 := atB_len (nth items k).node; have h2 := atB_len (nth items k).tm; have h3 := (dirOk_lens hD (show k < items.length by omega)); have h4 := textB_len (nth items k).name; have h5 := numB_len ((nth items k).heads.length : Nat); simp only [List.length_append, List.length_nil, idList_len]; omega)).ret ?_))
   rintro _ w69 ⟨h68, rfl, hx70, ho71⟩
   have H72 := H67.addRow hx70 ho71
   refine ⟨GrF.ofExt hx70, ?_⟩
   refine Lx_c (i := 9) rfl rfl (fun w73 hw74 => ?_)
   have H75 := H72.ext hw74
   refine (R_callL (vs := [(slV h68 (([] ++ atB ((nth items k).node)) ++ atB ((nth items k).tm))), (.string ((nth items k).name))]) obj_PutDir_c20 rfl rfl ((enc_Text h68 (([] ++ atB ((nth items k).node)) ++ atB ((nth items k).tm)) ((nth items k).name) w73 (H75.rowSl 0 rfl (fun _ => rfl)) (by have h1 := atB_len (nth items k).node; have h2 := atB_len (nth items k).tm; have h3 := (dirOk_lens hD (show k < items.length by omega)); have h4 := textB_len (nth items k).name; have h5 := numB_len ((nth items k).heads.length : Nat); simp only [List.length_append, List.length_nil, idList_len]; omega)).ret ?_))
   rintro _ w77 ⟨h76, rfl, hx78, ho79⟩
   have H80 := H75.addRow hx78 ho79
   refine ⟨GrF.ofExt hx78, ?_⟩
   refine Lx_c (i := 12) rfl rfl (fun w81 hw82 => ?_)
   have H83 := H80.ext hw82
   refine (R_callL (vs := [(slV h76 ((([] ++ atB ((nth items k).node)) ++ atB ((nth items k).tm)) ++ textB ((nth items k).name))), (aggOf (idCh ((nth items k).sub)))]) obj_PutDir_c18 rfl rfl ((enc_Id h76 ((([] ++ atB ((nth items k).node)) ++ atB ((nth items k).tm)) ++ textB ((nth items k).name)) ((nth items k).sub) w81 (H83.rowSl 0 rfl (fun _ => rfl)) (by have h1 := atB_len (nth items k).node; have h2 := atB_len (nth items k).tm; have h3 := (dirOk_lens hD (show k < items.length by omega)); have h4 := textB_len (nth items k).name; have h5 := numB_len ((nth items k).heads.length : Nat); simp only [List.length_append, List.length_nil, idList_len]; omega)).ret ?_))
   rintro _ w85 ⟨h84, rfl, hx86, ho87⟩
   have H88 := H83.addRow hx86 ho87
   refine ⟨GrF.ofExt hx86, ?_⟩
   refine Lx_c (i := 16) rfl rfl (fun w89 hw90 => ?_)
   have H91 := H88.ext hw90
   refine (R_callL (vs := [(slV h84 (((([] ++ atB ((nth items k).node)) ++ atB ((nth items k).tm)) ++ textB ((nth items k).name)) ++ idList ((nth items k).sub))), (.int .i64 ((((nth items k).heads).length : Nat) : Int))]) obj_PutDir_c17 rfl rfl ((enc_Num h84 (((([] ++ atB ((nth items k).node)) ++ atB ((nth items k).tm)) ++ textB ((nth items k).name)) ++ idList ((nth items k).sub)) ((((nth items k).heads).length : Nat) : Int) w89 (H91.rowSl 0 rfl (fun _ => rfl)) (by have h1 := atB_len (nth items k).node; have h2 := atB_len (nth items k).tm; have h3 := (dirOk_lens hD (show k < items.length by omega)); have h4 := textB_len (nth items k).name; have h5 := numB_len ((nth items k).heads.length : Nat); simp only [List.length_append, List.length_nil, idList_len]; omega)).ret ?_))
   rintro _ w93 ⟨h92, rfl, hx94, ho95⟩
   have H96 := H91.addRow hx94 ho95
   refine ⟨GrF.ofExt hx94, ?_⟩
   refine Lx_c (i := 17) rfl rfl (fun w97 hw98 => ?_)
   have H99 := H96.ext hw98
   refine (C_append H99 6 rfl (bytes := 1) (l := acc) (ys := ((((([] ++ atB ((nth items k).node)) ++ atB ((nth items k).tm)) ++ textB ((nth items k).name)) ++ idList ((nth items k).sub)) ++ numB ((((nth items k).heads).length : Nat) : Int))) Try.underlying31 rfl rfl rfl rfl rfl (by decide) rfl rfl (OwnS.sl (H99.getOwn 0 rfl) (fun _ => rfl)) (fun _ => rfl) (fun _ => rfl) (by have h1 := atB_len (nth items k).node; have h2 := atB_len (nth items k).tm; have h3 := (dirOk_lens hD (show k < items.length by omega)); have h4 := textB_len (nth items k).name; have h5 := numB_len ((nth items k).heads.length : Nat); simp only [List.length_append, List.length_nil, idList_len]; omega) (by decide) ?_)
   intro h100 w101 hg102 H103
   refine ⟨Gr.mono (M' := fun _ => True) hg102 (fun _ _ => trivial), ?_⟩
   refine Lx_q (i := 18) rfl rfl _ (fun v104 hv105 => R_assign (v := (slV h100 (acc ++ ((((([] ++ atB ((nth items k).node)) ++ atB ((nth items k).tm)) ++ textB ((nth items k).name)) ++ idList ((nth items k).sub)) ++ numB ((((nth items k).heads).length : Nat) : Int))))) rfl ⟨rfl, Gr.refl _ _⟩) ?_
   refine Lx_nil (fun w106 hw107 => ?_)
   have H108 := H103.ext hw107
   refine Then_n (W_seq (W_reg ?_))
   refine O_v rfl (R_fieldAddr (off := 37) (oo := 37) Try.underlying49 rfl rfl Try.sizeOf47 rfl rfl ?_)
   refine O_v rfl (R_load1 (v := (slV ((nth items k).hh) ((nth items k).heads))) Try.isAgg47 rfl ((boxR_at (H108.getOwn 5 rfl)).chunks 6 1 37 37 _ rfl rfl rfl) ?_)
   refine O_v rfl (R_len_slice (a := ((nth items k).hh).a) (n := ((nth items k).heads).length) (c := ((nth items k).hh).c) Try.underlying47 rfl ?_)
   refine O_v rfl (R_move (v := (.int .i64 0)) rfl ?_)
   refine O_nil (Then_n (W_block ?_))
   refine W_loop (fun m110 e111 w112 => ∃ (j : Nat), ∃ (acc2 : List UInt8), ∃ (h109 : SlH), m110 = (nth items k).heads.length - j ∧ (j ≤ (nth items k).heads.length) ∧ (acc2 = acc ++ itemTo (nth items k) j) ∧ (acc2.length ≤ 10 + k * 51000 + 200 + j * 50) ∧ ((nth items k).heads.length ≤ 1000) ∧ (items.length ≤ 1000) ∧ ∃ eb113, e111 = envL [(2, (.slice none 0 0)), (3, (.int .i64 0)), (4, (slV h109 acc2)), (6, (.pointer (some ⟨b25, 0, none⟩))), (16, (slV hitems items)), (17, (.int .i64 ((items.length : Nat) : Int))), (18, (.int .i64 ((k : Nat) : Int))), (19, (.bool (decide (((k : Nat) : Int) < ((items.length : Nat) : Int))))), (20, (.pointer (some ⟨hitems.b, (hitems.o + k * 38), none⟩))), (21, (aggOf (itemCh (nth items k)))), (22, (slV h18 acc)), (23, (.pointer (some ⟨b25, 0, none⟩))), (24, (aggOf (stampCh ((nth items k).node)))), (25, (slV h60 ([] ++ atB ((nth items k).node)))), (26, (.pointer (some ⟨b25, 2, none⟩))), (27, (aggOf (stampCh ((nth items k).tm)))), (28, (slV h68 (([] ++ atB ((nth items k).node)) ++ atB ((nth items k).tm)))), (29, (.pointer (some ⟨b25, 4, none⟩))), (30, (.string ((nth items k).name))), (31, (slV h76 ((([] ++ atB ((nth items k).node)) ++ atB ((nth items k).tm)) ++ textB ((nth items k).name)))), (32, (.pointer (some ⟨b25, 5, none⟩))), (33, (aggOf (idCh ((nth items k).sub)))), (34, (slV h84 (((([] ++ atB ((nth items k).node)) ++ atB ((nth items k).tm)) ++ textB ((nth items k).name)) ++ idList ((nth items k).sub)))), (35, (.pointer (some ⟨b25, 37, none⟩))), (36, (slV ((nth items k).hh) ((nth items k).heads))), (37, (.int .i64 ((((nth items k).heads).length : Nat) : Int))), (38, (slV h92 ((((([] ++ atB ((nth items k).node)) ++ atB ((nth items k).tm)) ++ textB ((nth items k).name)) ++ idList ((nth items k).sub)) ++ numB ((((nth items k).heads).length : Nat) : Int)))), (39, (slV h100 (acc ++ ((((([] ++ atB ((nth items k).node)) ++ atB ((nth items k).tm)) ++ textB ((nth items k).name)) ++ idList ((nth items k).sub)) ++ numB ((((nth items k).heads).length : Nat) : Int))))), (40, (.pointer (some ⟨b25, 37, none⟩))), (41, (slV ((nth items k).hh) ((nth items k).heads))), (42, (.int .i64 ((((nth items k).heads).length : Nat) : Int))), (43, (.int .i64 ((j : Nat) : Int)))] eb113 ∧ Ctx w nob w112 [rowR 5 1 encB h92 ((((([] ++ atB ((nth items k).node)) ++ atB ((nth items k).tm)) ++ textB ((nth items k).name)) ++ idList ((nth items k).sub)) ++ numB ((((nth items k).heads).length : Nat) : Int)), rowR 5 1 encB h84 (((([] ++ atB ((nth items k).node)) ++ atB ((nth items k).tm)) ++ textB ((nth items k).name)) ++ idList ((nth items k).sub)), rowR 5 1 encB h76 ((([] ++ atB ((nth items k).node)) ++ atB ((nth items k).tm)) ++ textB ((nth items k).name)), rowR 5 1 encB h68 (([] ++ atB ((nth items k).node)) ++ atB ((nth items k).tm)), rowR 5 1 encB h60 ([] ++ atB ((nth items k).node)), boxR b25 49 [[(.int .i64 (((nth items k).node).T))], [(.int .i64 (((nth items k).node).R))], [(.int .i64 (((nth items k).tm).T))], [(.int .i64 (((nth items k).tm).R))], [(.string ((nth items k).name))], (idCells ((nth items k).sub)), [(slV ((nth items k).hh) ((nth items k).heads))]], rowR 5 1 encB h109 acc2, rowR 5 1 encB ⟨some ⟨b8, 0, none⟩, b8, 0, 1⟩ ([2] : List UInt8)] [deepI (Old w) headCh 34 (fun x : ItemS => x.hh) (fun x : ItemS => x.heads) items, slI (Old w) itemCh 38 hitems items]) _ ⟨0, (acc ++ ((((([] ++ atB ((nth items k).node)) ++ atB ((nth items k).tm)) ++ textB ((nth items k).name)) ++ idList ((nth items k).sub)) ++ numB ((((nth items k).heads).length : Nat) : Int))), h100, rfl, (by omega), (item_start acc (nth items k)), (by have h1 := atB_len (nth items k).node; have h2 := atB_len (nth items k).tm; have h3 := (dirOk_lens hD (show k < items.length by omega)); have h4 := textB_len (nth items k).name; have h5 := numB_len ((nth items k).heads.length : Nat); simp only [List.length_append, List.length_nil, idList_len]; omega), (dirOk_lens hD (show k < items.length by omega)).2.1, (dirOk_lens hD (show k < items.length by omega)).2.2, _, envL_self ⟨rfl, rfl, rfl, rfl, rfl, rfl, rfl, rfl, rfl, rfl, rfl, rfl, rfl, rfl, rfl, rfl, rfl, rfl, rfl, rfl, rfl, rfl, rfl, rfl, rfl, rfl, rfl, rfl, rfl, rfl, rfl, rfl, trivial⟩, H108⟩ ?_
   rintro m110 _ w112 ⟨j, acc2, h109, rfl, hj, ha2, hal2, hx, hki, eb113, rfl, H114⟩
   refine W_seq (W_reg ?_)
   refine O_v rfl (R_cmp (a := ((j : Nat) : Int)) (b := ((((nth items k).heads).length : Nat) : Int)) (r := (decide (((j : Nat) : Int) < ((((nth items k).heads).length : Nat) : Int)))) rfl rfl rfl ?_)
   refine O_nil (Then_n (W_seq ?_))
   refine W_cond (t := (decide (((j : Nat) : Int) < ((((nth items k).heads).length : Nat) : Int)))) rfl (fun hc115 => ?_) (fun hc115 => ?_)
   ·have hc115 : (((j : Nat) : Int) < ((((nth items k).heads).length : Nat) : Int)) := (of_decide_eq_true hc115)
    refine W_skip (Then_n (W_seq (W_block (W_seq (W_reg ?_)))))
    refine O_v rfl (R_index_pure (Sl.as ((nth items k).hh) ((nth items k).heads) ((H114.getImm 0 rfl) _ (nth_mem (by omega)))) (n := ((nth items k).heads).length) rfl (j := ((j : Nat) : Int)) (oo := (((nth items k).hh).o + j * 34)) Try.underlying47 Try.sizeOf51 rfl rfl (by omega) (by omega) rfl ?_)
    refine O_v rfl (R_loadA (cs := [[(.int .i64 (((nth ((nth items k).heads) j).tm).T))], [(.int .i64 (((nth ((nth items k).heads) j).tm).R))], (idCells ((nth ((nth items k).heads) j).data))]) Try.isAgg51 Try.sizeOf51 rfl rfl ((Sl.elem (Sl.as ((nth items k).hh) ((nth items k).heads) ((H114.getImm 0 rfl) _ (nth_mem (by omega)))) (i := j) (by omega) rfl).chunks 0 3 0 (((nth items k).hh).o + j * 34) _ rfl rfl rfl) ?_)
    refine O_v rfl (C_alloc H114 [[(.int .i64 0)], [(.int .i64 0)], (idCells zeroId)] Try.zeroValue51 ?_)
    intro b116 w117 hb118 hx119 H120
    refine O_u (C_storeA H120 0 rfl 0 (sub := [[(.int .i64 (((nth ((nth items k).heads) j).tm).T))], [(.int .i64 (((nth ((nth items k).heads) j).tm).R))], (idCells ((nth ((nth items k).heads) j).data))]) [[(.int .i64 (((nth ((nth items k).heads) j).tm).T))], [(.int .i64 (((nth ((nth items k).heads) j).tm).R))], (idCells ((nth ((nth items k).heads) j).data))] Try.sizeOf51 rfl rfl rfl rfl ⟨[[(.int .i64 0)], [(.int .i64 0)], (idCells zeroId)], [], rfl, rfl, rfl⟩ rfl ?_)
    intro w121 hg122 H123
    refine O_nil (Then_n ?_)
    refine W_rgdM TryMixed nob (fun i => if i == 7 then 2 else 0) [(0, .q 2), (1, .q 2), (2, .q 0), (4, .q 2), (5, .q 0), (3, .c 0), (6, .c 0), (7, .c 2), (8, .q 2)] (by kernel_rfl) ?_
    refine Lx_q (i := 0) rfl rfl _ (fun v124 hv125 => R_move (v := (slV h109 acc2)) rfl ⟨rfl, Gr.refl _ _⟩) ?_
    refine Lx_q (i := 1) rfl rfl _ (fun v126 hv127 => R_fieldAddr (off := 0) (oo := 0) Try.underlying51 rfl rfl Try.sizeOf46 rfl rfl ⟨rfl, Gr.refl _ _⟩) ?_
    refine Lx_q (i := 2) rfl rfl _ (fun v128 hv129 => R_loadA (cs := [[(.int .i64 (((nth ((nth items k).heads) j).tm).T))], [(.int .i64 (((nth ((nth items k).heads) j).tm).R))]]) Try.isAgg46 Try.sizeOf46 rfl rfl ((boxR_at ((H123.ext hv129).getOwn 0 rfl)).chunks 0 2 0 0 _ rfl rfl rfl) ⟨rfl, Gr.refl _ _⟩) ?_
    refine Lx_q (i := 4) rfl rfl _ (fun v130 hv131 => R_fieldAddr (off := 2) (oo := 2) Try.underlying51 rfl rfl Try.sizeOf25 rfl rfl ⟨rfl, Gr.refl _ _⟩) ?_
    refine Lx_q (i := 5) rfl rfl _ (fun v132 hv133 => R_loadA (cs := [(idCells ((nth ((nth items k).heads) j).data))]) Try.isAgg25 Try.sizeOf25 rfl rfl ((boxR_at ((H123.ext hv133).getOwn 0 rfl)).chunks 2 1 2 2 _ rfl rfl rfl) ⟨rfl, Gr.refl _ _⟩) ?_
    refine Lx_c (i := 3) rfl rfl (fun w134 hw135 => ?_)
    have H136 := H123.ext hw135
    refine (R_callL (vs := [(.slice none 0 0), (aggOf (stampCh ((nth ((nth items k).heads) j).tm)))]) obj_PutDir_c31 rfl rfl ((obj_at nilH [] ((nth ((nth items k).heads) j).tm) w134 (Sl.nil _ _ _ _) (by decide)).ret ?_))
    rintro _ w138 ⟨h137, rfl, hx139, ho140⟩
    have H141 := H136.addRow hx139 ho140
    refine ⟨GrF.ofExt hx139, ?_⟩
    refine Lx_c (i := 6) rfl rfl (fun w142 hw143 => ?_)
    have H144 := H141.ext hw143
    refine (R_callL (vs := [(slV h137 ([] ++ atB ((nth ((nth items k).heads) j).tm))), (aggOf (idCh ((nth ((nth items k).heads) j).data)))]) obj_PutDir_c18 rfl rfl ((enc_Id h137 ([] ++ atB ((nth ((nth items k).heads) j).tm)) ((nth ((nth items k).heads) j).data) w142 (H144.rowSl 0 rfl (fun _ => rfl)) (by have h1 := atB_len (nth (nth items k).heads j).tm; have h3 := (dirOk_lens hD (show k < items.length by omega)); simp only [List.length_append, List.length_nil, List.length_cons, idList_len]; omega)).ret ?_))
    rintro _ w146 ⟨h145, rfl, hx147, ho148⟩
    have H149 := H144.addRow hx147 ho148
    refine ⟨GrF.ofExt hx147, ?_⟩
    refine Lx_c (i := 7) rfl rfl (fun w150 hw151 => ?_)
    have H152 := H149.ext hw151
    refine (C_append H152 9 rfl (bytes := 1) (l := acc2) (ys := (([] ++ atB ((nth ((nth items k).heads) j).tm)) ++ idList ((nth ((nth items k).heads) j).data))) Try.underlying31 rfl rfl rfl rfl rfl (by decide) rfl rfl (OwnS.sl (H152.getOwn 0 rfl) (fun _ => rfl)) (fun _ => rfl) (fun _ => rfl) (by have h1 := atB_len (nth (nth items k).heads j).tm; have h3 := (dirOk_lens hD (show k < items.length by omega)); simp only [List.length_append, List.length_nil, List.length_cons, idList_len]; omega) (by decide) ?_)
    intro h153 w154 hg155 H156
    refine ⟨Gr.mono (M' := fun _ => True) hg155 (fun _ _ => trivial), ?_⟩
    refine Lx_q (i := 8) rfl rfl _ (fun v157 hv158 => R_assign (v := (slV h153 (acc2 ++ (([] ++ atB ((nth ((nth items k).heads) j).tm)) ++ idList ((nth ((nth items k).heads) j).data))))) rfl ⟨rfl, Gr.refl _ _⟩) ?_
    refine Lx_nil (fun w159 hw160 => ?_)
    have H161 := H156.ext hw160
    refine Blk_n (Then_n (W_reg ?_))
    refine O_v rfl (R_arith (a := ((j : Nat) : Int)) (b := 1) (r0 := ((j : Nat) : Int) + 1) (r := ((j + 1 : Nat) : Int)) rfl rfl rfl (wrapN _ (by omega)) ?_)
    refine O_v rfl (R_move (v := (.int .i64 ((j + 1 : Nat) : Int))) rfl ?_)
    refine O_nil (Then_n ?_)
    have H162 := H161.sub (B' := [rowR 5 1 encB h92 ((((([] ++ atB ((nth items k).node)) ++ atB ((nth items k).tm)) ++ textB ((nth items k).name)) ++ idList ((nth items k).sub)) ++ numB ((((nth items k).heads).length : Nat) : Int)), rowR 5 1 encB h84 (((([] ++ atB ((nth items k).node)) ++ atB ((nth items k).tm)) ++ textB ((nth items k).name)) ++ idList ((nth items k).sub)), rowR 5 1 encB h76 ((([] ++ atB ((nth items k).node)) ++ atB ((nth items k).tm)) ++ textB ((nth items k).name)), rowR 5 1 encB h68 (([] ++ atB ((nth items k).node)) ++ atB ((nth items k).tm)), rowR 5 1 encB h60 ([] ++ atB ((nth items k).node)), boxR b25 49 [[(.int .i64 (((nth items k).node).T))], [(.int .i64 (((nth items k).node).R))], [(.int .i64 (((nth items k).tm).T))], [(.int .i64 (((nth items k).tm).R))], [(.string ((nth items k).name))], (idCells ((nth items k).sub)), [(slV ((nth items k).hh) ((nth items k).heads))]], rowR 5 1 encB h153 (acc2 ++ (([] ++ atB ((nth ((nth items k).heads) j).tm)) ++ idList ((nth ((nth items k).heads) j).data))), rowR 5 1 encB ⟨some ⟨b8, 0, none⟩, b8, 0, 1⟩ ([2] : List UInt8)]) (I' := [deepI (Old w) headCh 34 (fun x : ItemS => x.hh) (fun x : ItemS => x.heads) items, slI (Old w) itemCh 38 hitems items]) (List.Sublist.cons _ (List.Sublist.cons _ (List.Sublist.cons _ (List.Sublist.cons_cons _ (List.Sublist.cons_cons _ (List.Sublist.cons_cons _ (List.Sublist.cons_cons _ (List.Sublist.cons_cons _ (List.Sublist.cons_cons _ (List.Sublist.cons_cons _ (List.Sublist.cons_cons _ List.Sublist.slnil))))))))))) (List.forall_mem_cons.2 ⟨List.mem_of_getElem? (i := 0) rfl, List.forall_mem_cons.2 ⟨List.mem_of_getElem? (i := 1) rfl, fun _ h => (nomatch h)⟩⟩)
    refine ⟨_, ?_, (j + 1), (acc2 ++ (([] ++ atB ((nth ((nth items k).heads) j).tm)) ++ idList ((nth ((nth items k).heads) j).data))), h153, rfl, (by omega), (head_step ha2 (by omega)), (by have h1 := atB_len (nth (nth items k).heads j).tm; have h3 := (dirOk_lens hD (show k < items.length by omega)); simp only [List.length_append, List.length_nil, List.length_cons, idList_len]; omega), (by omega), (by omega), _, envL_self ⟨rfl, rfl, rfl, rfl, rfl, rfl, rfl, rfl, rfl, rfl, rfl, rfl, rfl, rfl, rfl, rfl, rfl, rfl, rfl, rfl, rfl, rfl, rfl, rfl, rfl, rfl, rfl, rfl, rfl, rfl, rfl, rfl, trivial⟩, H162⟩
    omega
   ·have hc115 : ¬ (((j : Nat) : Int) < ((((nth items k).heads).length : Nat) : Int)) := (of_decide_eq_false hc115)
    refine W_exit (Then_x (Then_x (Blk_x (Blk_n (Then_n (W_reg ?_))))))
    refine O_v rfl (R_arith (a := ((k : Nat) : Int)) (b := 1) (r0 := ((k : Nat) : Int) + 1) (r := ((k + 1 : Nat) : Int)) rfl rfl rfl (wrapN _ (by omega)) ?_)
    refine O_v rfl (R_move (v := (.int .i64 ((k + 1 : Nat) : Int))) rfl ?_)
    refine O_nil (Then_n ?_)
    have H163 := H114.sub (B' := [rowR 5 1 encB h109 acc2, rowR 5 1 encB ⟨some ⟨b8, 0, none⟩, b8, 0, 1⟩ ([2] : List UInt8)]) (I' := [deepI (Old w) headCh 34 (fun x : ItemS => x.hh) (fun x : ItemS => x.heads) items, slI (Old w) itemCh 38 hitems items]) (List.Sublist.cons _ (List.Sublist.cons _ (List.Sublist.cons _ (List.Sublist.cons _ (List.Sublist.cons _ (List.Sublist.cons _ (List.Sublist.cons_cons _ (List.Sublist.cons_cons _ List.Sublist.slnil)))))))) (List.forall_mem_cons.2 ⟨List.mem_of_getElem? (i := 0) rfl, List.forall_mem_cons.2 ⟨List.mem_of_getElem? (i := 1) rfl, fun _ h => (nomatch h)⟩⟩)
    refine ⟨_, ?_, (k + 1), acc2, h109, rfl, (by omega), (item_end ha ha2 (by omega) (by omega)), (by have := dirOk_lens hD (show k < items.length by omega); omega), hD, _, envL_self ⟨rfl, rfl, rfl, rfl, rfl, rfl, trivial⟩, H163⟩
    omega
  ·have hc24 : ¬ (((k : Nat) : Int) < ((items.length : Nat) : Int)) := (of_decide_eq_false hc24)
   refine W_exit (Then_x (Then_x (Blk_x (Then_n (W_seq (W_reg ?_))))))
   refine O_v rfl (R_move (v := (slV h18 acc)) rfl ?_)
   refine O_v rfl (R_assign (v := (slV h18 acc)) rfl ?_)
   refine O_v rfl (R_assign (v := (.int .i64 0)) rfl ?_)
   refine O_nil (Then_n (W_ret ?_))
   refine ret_2 (v := (slV h18 acc)) (v' := (.int .i64 0)) Try.results12 rfl rfl ?_
   have hE : acc = putDirB items := (dir_end ha hD (by omega)).1
   have hV : 0 = putDirE items := (dir_end ha hD (by omega)).2
   refine ⟨h18, ?_, H23.gr, ?_⟩
   · exact two_eq (fun l n => Value.tuple #[slV h18 l, Value.int .i64 n]) hE hV
   · have hO := H23.retRow 0 rfl
     exact hE ▸ hO

end Go.Proofs.Ythjdhfoeckfmbaa
namespace Go.Proofs.Ythjdhfoeckfmbaa
open Go
set_option maxRecDepth 100000
set_option linter.unusedVariables false
set_option linter.unusedSimpArgs false
set_option linter.unusedSectionVars false
theorem obj_PutLabel_c18 : callable Try.prog 18 = true := by kernel_rfl
theorem obj_PutLabel_c20 : callable Try.prog 20 = true := by kernel_rfl
theorem obj_PutLabel_c21 : callable Try.prog 21 = true := by kernel_rfl
set_option maxHeartbeats 1000000 in
theorem obj_PutLabel (l : Label) (w : World) :
    Calls Try.prog 7 #[(aggOf (labelCh l))] w (Ret fun v w' => ∃ h0, v = .tuple #[slV h0 (putLabelB l), (.int .i64 (putLabelE l))] ∧ Ext w w' ∧ OwnS w.heap.size 5 1 encB h0 (putLabelB l) w') := by
 refine calls_W Try.func7 rfl Try.ntmps7 rfl ?_
 have H0 := Ctx.start w nob
 have hLn := textB_len l.name
 refine W_seq (W_reg ?_)
 refine O_v rfl (C_box H0 [(idCells l.target), [(.string l.name)], [(.string l.msg)]] rfl ?_)
 intro b1 w2 hb3 hx4 H5
 refine O_v rfl (R_assign (v := (.slice none 0 0)) rfl ?_)
 refine O_v rfl (R_assign (v := (.int .i64 0)) rfl ?_)
 refine O_nil (Then_n (W_seq (W_seq (W_reg ?_))))
 refine O_v rfl (R_loadA (cs := [(idCells l.target), [(.string l.name)], [(.string l.msg)]]) Try.isAgg29 Try.sizeOf29 rfl rfl ((boxR_at (H5.getOwn 0 rfl)).chunks 0 3 0 0 _ rfl rfl rfl) ?_)
 refine O_v rfl (R_callL (vs := [(aggOf (labelCh l))]) obj_PutLabel_c21 rfl rfl ((obj_rightLabel l w2 ).ret ?_))
 rintro _ w6 ⟨rfl, hx7⟩
 have H8 := H5.ext hx7
 refine O_v rfl (R_not rfl ?_)
 refine O_nil (Then_n ?_)
 refine W_cond (t := (!(labelOk l))) rfl (fun hc9 => ?_) (fun hc9 => ?_)
 ·have hc9 : (labelOk l) = false := (notT hc9)
  refine W_seq (W_reg ?_)
  refine O_v rfl (R_assign (v := (.slice none 0 0)) rfl ?_)
  refine O_v rfl (R_assign (v := (.int .i64 1)) rfl ?_)
  refine O_nil (Then_n (W_ret (Then_r ?_)))
  refine ret_2 (v := (.slice none 0 0)) (v' := (.int .i64 1)) Try.results7 rfl rfl ?_
  have H10 := H8.addNil 5 1 encB
  have hE : [] = putLabelB l := (putLabel_f (by assumption)).1
  have hV : 1 = putLabelE l := (putLabel_f (by assumption)).2
  refine ⟨nilH, ?_, H10.gr, ?_⟩
  · exact two_eq (fun l n => Value.tuple #[slV nilH l, Value.int .i64 n]) hE hV
  · have hO := H10.retRow 0 rfl
    exact hE ▸ hO
 ·have hc9 : (labelOk l) = true := (notF hc9)
  refine W_skip (Then_n (W_seq ?_))
  refine W_rgd TryMixed [(1, .q 0), (2, .q 0), (4, .q 0), (5, .q 0), (7, .q 0), (8, .q 0), (0, .c 0), (3, .c 0), (6, .c 0), (9, .c 0), (10, .q 0), (11, .q 0)] (by kernel_rfl) ?_
  refine Lx_q (i := 1) rfl rfl _ (fun v11 hv12 => R_fieldAddr (off := 0) (oo := 0) Try.underlying29 rfl rfl Try.sizeOf25 rfl rfl ⟨rfl, Gr.refl _ _⟩) ?_
  refine Lx_q (i := 2) rfl rfl _ (fun v13 hv14 => R_loadA (cs := [(idCells l.target)]) Try.isAgg25 Try.sizeOf25 rfl rfl ((boxR_at ((H8.ext hv14).getOwn 0 rfl)).chunks 0 1 0 0 _ rfl rfl rfl) ⟨rfl, Gr.refl _ _⟩) ?_
  refine Lx_q (i := 4) rfl rfl _ (fun v15 hv16 => R_fieldAddr (off := 32) (oo := 32) Try.underlying29 rfl rfl Try.sizeOf9 rfl rfl ⟨rfl, Gr.refl _ _⟩) ?_
  refine Lx_q (i := 5) rfl rfl _ (fun v17 hv18 => R_load1 (v := (.string l.name)) Try.isAgg9 rfl ((boxR_at ((H8.ext hv18).getOwn 0 rfl)).chunks 1 1 32 32 _ rfl rfl rfl) ⟨rfl, Gr.refl _ _⟩) ?_
  refine Lx_q (i := 7) rfl rfl _ (fun v19 hv20 => R_fieldAddr (off := 33) (oo := 33) Try.underlying29 rfl rfl Try.sizeOf9 rfl rfl ⟨rfl, Gr.refl _ _⟩) ?_
  refine Lx_q (i := 8) rfl rfl _ (fun v21 hv22 => R_load1 (v := (.string l.msg)) Try.isAgg9 rfl ((boxR_at ((H8.ext hv22).getOwn 0 rfl)).chunks 2 1 33 33 _ rfl rfl rfl) ⟨rfl, Gr.refl _ _⟩) ?_
  refine Lx_c (i := 0) rfl rfl (fun w23 hw24 => ?_)
  have H25 := H8.ext hw24
  refine (C_buildSliceL H25 (enc := encB) (val := byteV) ([4] : List UInt8) Try.underlying31 Try.sizeOf5 Try.zeroValue5 rfl (by decide) (fun _ => rfl) (fun _ => rfl) rfl rfl (by decide) ?_)
  intro b26 w27 hb28 hx29 H30
  refine ⟨GrF.ofExt hx29, ?_⟩
  refine Lx_c (i := 3) rfl rfl (fun w31 hw32 => ?_)
  have H33 := H30.ext hw32
  refine (R_callL (vs := [(slV ⟨some ⟨b26, 0, none⟩, b26, 0, 1⟩ ([4] : List UInt8)), (aggOf (idCh l.target))]) obj_PutLabel_c18 rfl rfl ((enc_Id ⟨some ⟨b26, 0, none⟩, b26, 0, 1⟩ ([4] : List UInt8) l.target w31 (H33.rowSl 0 rfl (fun _ => rfl)) (by simp only [List.length_cons, List.length_nil]; omega)).ret ?_))
  rintro _ w35 ⟨h34, rfl, hx36, ho37⟩
  have H38 := H33.addRow hx36 ho37
  refine ⟨GrF.ofExt hx36, ?_⟩
  refine Lx_c (i := 6) rfl rfl (fun w39 hw40 => ?_)
  have H41 := H38.ext hw40
  refine (R_callL (vs := [(slV h34 (([4] : List UInt8) ++ idList l.target)), (.string l.name)]) obj_PutLabel_c20 rfl rfl ((enc_Text h34 (([4] : List UInt8) ++ idList l.target) l.name w39 (H41.rowSl 0 rfl (fun _ => rfl)) (label_h1 (by assumption))).ret ?_))
  rintro _ w43 ⟨h42, rfl, hx44, ho45⟩
  have H46 := H41.addRow hx44 ho45
  refine ⟨GrF.ofExt hx44, ?_⟩
  refine Lx_c (i := 9) rfl rfl (fun w47 hw48 => ?_)
  have H49 := H46.ext hw48
  refine (R_callL (vs := [(slV h42 ((([4] : List UInt8) ++ idList l.target) ++ textB l.name)), (.string l.msg)]) obj_PutLabel_c20 rfl rfl ((enc_Text h42 ((([4] : List UInt8) ++ idList l.target) ++ textB l.name) l.msg w47 (H49.rowSl 0 rfl (fun _ => rfl)) (label_h2 (by assumption))).ret ?_))
  rintro _ w51 ⟨h50, rfl, hx52, ho53⟩
  have H54 := H49.addRow hx52 ho53
  refine ⟨GrF.ofExt hx52, ?_⟩
  refine Lx_q (i := 10) rfl rfl _ (fun v55 hv56 => R_assign (v := (slV h50 (((([4] : List UInt8) ++ idList l.target) ++ textB l.name) ++ textB l.msg))) rfl ⟨rfl, Gr.refl _ _⟩) ?_
  refine Lx_q (i := 11) rfl rfl _ (fun v57 hv58 => R_assign (v := (.int .i64 0)) rfl ⟨rfl, Gr.refl _ _⟩) ?_
  refine Lx_nil (fun w59 hw60 => ?_)
  have H61 := H54.ext hw60
  refine Then_n (W_ret ?_)
  refine ret_2 (v := (slV h50 (((([4] : List UInt8) ++ idList l.target) ++ textB l.name) ++ textB l.msg))) (v' := (.int .i64 0)) Try.results7 rfl rfl ?_
  have hE : ((([4] : List UInt8) ++ idList l.target) ++ textB l.name) ++ textB l.msg = putLabelB l := (putLabel_t (by assumption)).1
  have hV : 0 = putLabelE l := (putLabel_t (by assumption)).2
  refine ⟨h50, ?_, H61.gr, ?_⟩
  · exact two_eq (fun l n => Value.tuple #[slV h50 l, Value.int .i64 n]) hE hV
  · have hO := H61.retRow 0 rfl
    exact hE ▸ hO

end Go.Proofs.Ythjdhfoeckfmbaa
/- The document's example of layer 4, in plain words. -/
namespace Go.Proofs.Ythjdhfoeckfmbaa
open Go
set_option linter.unusedVariables false
set_option linter.unusedSimpArgs false
set_option maxRecDepth 20000
def mkId (b : UInt8) : ID := ⟨#[b, 0, 0, 0, 0, 0, 0, 0, 0, 0, 0, 0, 0, 0, 0, 0, 0, 0, 0, 0, 0, 0, 0, 0, 0, 0, 0, 0, 0, 0, 0, 0], rfl⟩
def chg0 : ChangeS := { parents := [], ph := nilH, time := 1, r := 1, ops := [], oh := nilH, tree := mkId 9, msg := ByteArray.empty }
def item0 : ItemS := { node := ⟨1, 1⟩, tm := ⟨1, 1⟩, name := ⟨#[97]⟩, sub := zeroId, heads := [], hh := nilH }
def lab0 : Label := ⟨mkId 1, ⟨#[118]⟩, ByteArray.empty⟩
theorem numB_0 : numB 0 = [0] := by rw [numB, numGo_small (by decide)]; rfl
theorem numB_1 : numB 1 = [1] := by rw [numB, numGo_small (by decide)]; rfl
def z31 : List UInt8 := List.replicate 31 0
theorem chg_ok : changeOk chg0 = true := by decide
theorem chg_bytes : putChangeB chg0 = [3, 0, 1, 1, 0, 9] ++ z31 ++ [0] := by
  rw [putChangeB, if_pos chg_ok, changeB, opsTo, parTo, textB]
  show ((((([3] ++ numB 0) ++ [] ++ numB 1) ++ numB 1) ++ numB 0) ++ [] ++ idList (mkId 9)) ++ (numB 0 ++ []) = _
  rw [numB_0, numB_1]
  decide
theorem chg_kind : kindOf (putChangeB chg0) = 3 := by
  rw [chg_bytes]
  decide
theorem item_ok : dirOk [item0] = true := by decide
theorem item_bytes : putDirB [item0] = [2, 1, 1, 1, 1, 1, 1, 97, 0] ++ z31 ++ [0] := by
  rw [putDirB, if_pos item_ok, dirB, dirTo]
  show ([2] ++ numB 1) ++ [itemB item0].flatten = _
  rw [itemB, itemTo, atB, atB, textB]
  show ([2] ++ numB 1) ++ [((((([] : List UInt8) ++ (numB 1 ++ numB 1)) ++ (numB 1 ++ numB 1)) ++ (numB 1 ++ [97])) ++ idList zeroId ++ numB 0) ++ []].flatten = _
  rw [numB_0, numB_1]
  decide
theorem item_kind : kindOf (putDirB [item0]) = 2 := by
  rw [item_bytes]
  decide
theorem lab_ok : labelOk lab0 = true := by decide
theorem lab_bytes : putLabelB lab0 = [4, 1] ++ z31 ++ [1, 118, 0] := by
  rw [putLabelB, if_pos lab_ok, labelB, textB, textB]
  show (([4] ++ idList (mkId 1)) ++ (numB 1 ++ [118])) ++ (numB 0 ++ []) = _
  rw [numB_0, numB_1]
  decide
theorem lab_kind : kindOf (putLabelB lab0) = 4 := by
  rw [lab_bytes]
  decide
theorem chg_raw : linksRaw (putChangeB chg0) = [mkId 9] := by
  rw [linksRaw, if_neg (by rw [chg_kind]; decide), if_pos chg_kind, chg_bytes]
  decide
theorem chg_links : links1 (putChangeB chg0) = [mkId 9] := by
  rw [links1, chg_raw]
  decide
theorem chg_len : (((putChangeB chg0).length : Nat) : Int) = 38 := by rw [chg_bytes]; rfl
theorem chg_first : ((nth (putChangeB chg0) 0).toNat : Int) = 3 := by rw [chg_bytes]; rfl
theorem chg_ix : (0 : Int) < (((putChangeB chg0).length : Nat) : Int) := by rw [chg_len]; decide
theorem chg_ixn : 0 < (putChangeB chg0).length := by rw [chg_bytes]; decide
theorem chg_bound : (putChangeB chg0).length ≤ 140737488355328 := by rw [chg_bytes]; decide
theorem item_bound : (putDirB [item0]).length ≤ 140737488355328 := by rw [item_bytes]; decide
theorem lab_bound : (putLabelB lab0).length ≤ 140737488355328 := by rw [lab_bytes]; decide
theorem chg_raw1 : (linksRaw (putChangeB chg0)).length ≤ 1 := by rw [chg_raw]; decide
theorem chg_one : (((links1 (putChangeB chg0)).length : Nat) : Int) = 1 := by rw [chg_links]; rfl
/-! ### ObjBlobs -/
section
variable {b : List UInt8}
theorem pb_E (h : ¬ (4096 : Int) < ((b.length : Nat) : Int)) : putBlobE b = 0 := if_pos (by omega)
theorem pb_B (h : ¬ (4096 : Int) < ((b.length : Nat) : Int)) : putBlobB b = [1] ++ b := if_pos (by omega)
theorem pb_ok (h : ¬ (4096 : Int) < ((b.length : Nat) : Int)) : blobOk (putBlobB b) := by
  rw [pb_B h]
  exact ⟨by simp, rfl, by simp only [List.length_append, List.length_cons, List.length_nil]; omega⟩
theorem pb_E2 (h : ¬ (4096 : Int) < ((b.length : Nat) : Int)) : blobE (putBlobB b) = 0 := if_pos (pb_ok h)
theorem pb_B2 (h : ¬ (4096 : Int) < ((b.length : Nat) : Int)) : blobB (putBlobB b) = b := by
  rw [blobB, if_pos (pb_ok h), pb_B h]; rfl
theorem pb_K (h : ¬ (4096 : Int) < ((b.length : Nat) : Int)) : kindOf (putBlobB b) = 1 := by
  have h1 := pb_ok h
  rw [kindOf, if_neg (by have := h1.1; omega), if_pos h1.2.1, if_pos (pb_E2 h)]
theorem pb_len (h : ¬ (4096 : Int) < ((b.length : Nat) : Int)) : (putBlobB b).length ≤ 140737488355328 := by have := (pb_ok h).2.2; omega
theorem blobs_1 (h : (4096 : Int) < ((b.length : Nat) : Int)) : Value.bool (decide (putBlobE b = 2) && decide ((((putBlobB b).length : Nat) : Int) = 0)) = Value.bool true := by
  rw [putBlobE, putBlobB, if_neg (by omega), if_neg (by omega)]; rfl
theorem blobs_2 (h : ((b.length : Nat) : Int) = 0 ∨ ¬ ((nth b 0).toNat : Int) = 1) : Value.bool (decide (blobE b = 20) && decide ((((blobB b).length : Nat) : Int) = 0)) = Value.bool true := by
  have : ¬ blobOk b := fun ⟨h1, h2, h3⟩ => by omega
  rw [blobE, blobB, if_neg this, if_neg this]; rfl
theorem blobs_3 (h : ¬ ((b.length : Nat) : Int) = 0 ∧ ((nth b 0).toNat : Int) = 1) (h2 : ¬ (4096 : Int) < ((b.length : Nat) : Int)) : Value.bool (decide (blobE b = 0) && decide (blobB b = b.drop 1)) = Value.bool true := by
  have : blobOk b := ⟨by omega, by omega, by omega⟩
  rw [blobE, blobB, if_pos this, if_pos this]
  simp
end
end Go.Proofs.Ythjdhfoeckfmbaa
namespace Go.Proofs.Ythjdhfoeckfmbaa
open Go
set_option maxRecDepth 100000
set_option linter.unusedVariables false
set_option linter.unusedSimpArgs false
set_option linter.unusedSectionVars false
theorem law04_alive_c6 : callable Try.prog 6 = true := by kernel_rfl
theorem law04_alive_c7 : callable Try.prog 7 = true := by kernel_rfl
theorem law04_alive_c8 : callable Try.prog 8 = true := by kernel_rfl
theorem law04_alive_c12 : callable Try.prog 12 = true := by kernel_rfl
theorem law04_alive_c14 : callable Try.prog 14 = true := by kernel_rfl
theorem law04_alive_c15 : callable Try.prog 15 = true := by kernel_rfl
set_option maxHeartbeats 4000000 in
theorem law04_alive  (w : World) :
    Calls Try.prog 5 #[] w (Ret fun v w' => v = (.bool true) ∧ Ext w w') := by
 refine calls_W Try.func5 rfl Try.ntmps5 rfl ?_
 have H0 := Ctx.start w nob
 refine W_seq (W_reg ?_)
 refine O_v rfl (R_assign (v := (.bool false)) rfl ?_)
 refine O_nil (Then_n (W_seq (W_reg ?_)))
 refine O_v rfl (C_buildSliceL H0 (enc := encB) (val := byteV) ([97, 98] : List UInt8) Try.underlying31 Try.sizeOf5 Try.zeroValue5 rfl (by decide) (fun _ => rfl) (fun _ => rfl) rfl rfl (by decide) ?_)
 intro b1 w2 hb3 hx4 H5
 refine O_v rfl (C_convBB H5 0 rfl Try.underlying31 Try.underlying5 rfl (by decide) ?_)
 intro w6 hg7 H8
 refine O_v rfl (R_callL (vs := [(slV ⟨some ⟨b1, 0, none⟩, b1, 0, 2⟩ ([97, 98] : List UInt8))]) law04_alive_c14 rfl rfl ((obj_PutBlob ⟨some ⟨b1, 0, none⟩, b1, 0, 2⟩ ([97, 98] : List UInt8) w6 (H8.slOld 0 rfl)).ret ?_))
 rintro _ w10 ⟨h9, rfl, hx11, ho12⟩
 have H13 := H8.addRow hx11 ho12
 refine O_v rfl (R_move (v := (.tuple #[(slV h9 (putBlobB ([97, 98] : List UInt8))), (.int .i64 (putBlobE ([97, 98] : List UInt8)))])) rfl ?_)
 refine O_v rfl (R_extract (v := (slV h9 (putBlobB ([97, 98] : List UInt8)))) rfl rfl ?_)
 refine O_v rfl (R_extract (v := (.int .i64 (putBlobE ([97, 98] : List UInt8)))) rfl rfl ?_)
 refine O_v rfl (R_assign (v := (slV h9 (putBlobB ([97, 98] : List UInt8)))) rfl ?_)
 refine O_v rfl (R_assign (v := (.int .i64 (putBlobE ([97, 98] : List UInt8)))) rfl ?_)
 refine O_nil (Then_n (W_seq (W_reg ?_)))
 refine O_v rfl (R_buildL (vs := [(0, (.int .u8 9))]) (v := aggOf [(idCells (mkId 9))]) rfl (fun _ => by kernel_rfl) ?_)
 refine O_v rfl (R_buildL (vs := [(1, (.int .i64 1)), (2, (.int .i64 1)), (4, (aggOf (idCh (mkId 9))))]) (v := aggOf [[(.slice none 0 0)], [(.int .i64 1)], [(.int .i64 1)], [(.slice none 0 0)], (idCells (mkId 9)), [(.string ByteArray.empty)]]) rfl (fun _ => by kernel_rfl) ?_)
 refine O_v rfl (R_callL (vs := [(aggOf [[(.slice none 0 0)], [(.int .i64 1)], [(.int .i64 1)], [(.slice none 0 0)], (idCells (mkId 9)), [(.string ByteArray.empty)]])]) law04_alive_c6 rfl rfl ((obj_PutChange ({ parents := [], ph := nilH, time := 1, r := 1, ops := [], oh := nilH, tree := (mkId 9), msg := ByteArray.empty } : ChangeS) w10 (Sl.nil _ _ _ _) (Sl.nil _ _ _ _) (fun _ hx => (nomatch hx))).ret ?_))
 rintro _ w15 ⟨h14, rfl, hx16, ho17⟩
 have H18 := H13.addRow hx16 ho17
 refine O_v rfl (R_move (v := (.tuple #[(slV h14 (putChangeB ({ parents := [], ph := nilH, time := 1, r := 1, ops := [], oh := nilH, tree := (mkId 9), msg := ByteArray.empty } : ChangeS))), (.int .i64 (putChangeE ({ parents := [], ph := nilH, time := 1, r := 1, ops := [], oh := nilH, tree := (mkId 9), msg := ByteArray.empty } : ChangeS)))])) rfl ?_)
 refine O_v rfl (R_extract (v := (slV h14 (putChangeB ({ parents := [], ph := nilH, time := 1, r := 1, ops := [], oh := nilH, tree := (mkId 9), msg := ByteArray.empty } : ChangeS)))) rfl rfl ?_)
 refine O_v rfl (R_extract (v := (.int .i64 (putChangeE ({ parents := [], ph := nilH, time := 1, r := 1, ops := [], oh := nilH, tree := (mkId 9), msg := ByteArray.empty } : ChangeS)))) rfl rfl ?_)
 refine O_v rfl (R_assign (v := (slV h14 (putChangeB ({ parents := [], ph := nilH, time := 1, r := 1, ops := [], oh := nilH, tree := (mkId 9), msg := ByteArray.empty } : ChangeS)))) rfl ?_)
 refine O_v rfl (R_assign (v := (.int .i64 (putChangeE ({ parents := [], ph := nilH, time := 1, r := 1, ops := [], oh := nilH, tree := (mkId 9), msg := ByteArray.empty } : ChangeS)))) rfl ?_)
 refine O_nil (Then_n (W_seq (W_reg ?_)))
 refine O_v rfl (R_buildL (vs := [(0, (.int .i64 1)), (1, (.int .i64 1))]) (v := aggOf [[(.int .i64 1)], [(.int .i64 1)]]) rfl (fun _ => by kernel_rfl) ?_)
 refine O_v rfl (R_buildL (vs := [(0, (.int .i64 1)), (1, (.int .i64 1))]) (v := aggOf [[(.int .i64 1)], [(.int .i64 1)]]) rfl (fun _ => by kernel_rfl) ?_)
 refine O_v rfl (R_buildL (vs := [(0, (aggOf [[(.int .i64 1)], [(.int .i64 1)]])), (1, (aggOf [[(.int .i64 1)], [(.int .i64 1)]])), (2, (.string (⟨#[97]⟩ : ByteArray)))]) (v := aggOf [[(.int .i64 1)], [(.int .i64 1)], [(.int .i64 1)], [(.int .i64 1)], [(.string (⟨#[97]⟩ : ByteArray))], (idCells zeroId), [(.slice none 0 0)]]) rfl (fun _ => by kernel_rfl) ?_)
 refine O_v rfl (C_buildSliceL H18 (enc := itemCh) (val := itemV) ([({ node := ({ T := 1, R := 1 } : Stamp), tm := ({ T := 1, R := 1 } : Stamp), name := (⟨#[97]⟩ : ByteArray), sub := zeroId, heads := [], hh := nilH } : ItemS)] : List ItemS) Try.underlying39 Try.sizeOf49 Try.zeroValue49 rfl (by decide) (fun _ => rfl) (fun _ => rfl) rfl rfl (by decide) ?_)
 intro b19 w20 hb21 hx22 H23
 refine O_v rfl (R_callL (vs := [(slV ⟨some ⟨b19, 0, none⟩, b19, 0, 1⟩ ([({ node := ({ T := 1, R := 1 } : Stamp), tm := ({ T := 1, R := 1 } : Stamp), name := (⟨#[97]⟩ : ByteArray), sub := zeroId, heads := [], hh := nilH } : ItemS)] : List ItemS))]) law04_alive_c12 rfl rfl ((obj_PutDir ⟨some ⟨b19, 0, none⟩, b19, 0, 1⟩ ([({ node := ({ T := 1, R := 1 } : Stamp), tm := ({ T := 1, R := 1 } : Stamp), name := (⟨#[97]⟩ : ByteArray), sub := zeroId, heads := [], hh := nilH } : ItemS)] : List ItemS) w20 (H23.rowSl 0 rfl (fun _ => rfl)) (deep1 (Sl.nil _ _ _ _))).ret ?_))
 rintro _ w25 ⟨h24, rfl, hx26, ho27⟩
 have H28 := H23.addRow hx26 ho27
 refine O_v rfl (R_move (v := (.tuple #[(slV h24 (putDirB ([({ node := ({ T := 1, R := 1 } : Stamp), tm := ({ T := 1, R := 1 } : Stamp), name := (⟨#[97]⟩ : ByteArray), sub := zeroId, heads := [], hh := nilH } : ItemS)] : List ItemS))), (.int .i64 (putDirE ([({ node := ({ T := 1, R := 1 } : Stamp), tm := ({ T := 1, R := 1 } : Stamp), name := (⟨#[97]⟩ : ByteArray), sub := zeroId, heads := [], hh := nilH } : ItemS)] : List ItemS)))])) rfl ?_)
 refine O_v rfl (R_extract (v := (slV h24 (putDirB ([({ node := ({ T := 1, R := 1 } : Stamp), tm := ({ T := 1, R := 1 } : Stamp), name := (⟨#[97]⟩ : ByteArray), sub := zeroId, heads := [], hh := nilH } : ItemS)] : List ItemS)))) rfl rfl ?_)
 refine O_v rfl (R_extract (v := (.int .i64 (putDirE ([({ node := ({ T := 1, R := 1 } : Stamp), tm := ({ T := 1, R := 1 } : Stamp), name := (⟨#[97]⟩ : ByteArray), sub := zeroId, heads := [], hh := nilH } : ItemS)] : List ItemS)))) rfl rfl ?_)
 refine O_v rfl (R_assign (v := (slV h24 (putDirB ([({ node := ({ T := 1, R := 1 } : Stamp), tm := ({ T := 1, R := 1 } : Stamp), name := (⟨#[97]⟩ : ByteArray), sub := zeroId, heads := [], hh := nilH } : ItemS)] : List ItemS)))) rfl ?_)
 refine O_v rfl (R_assign (v := (.int .i64 (putDirE ([({ node := ({ T := 1, R := 1 } : Stamp), tm := ({ T := 1, R := 1 } : Stamp), name := (⟨#[97]⟩ : ByteArray), sub := zeroId, heads := [], hh := nilH } : ItemS)] : List ItemS)))) rfl ?_)
 refine O_nil (Then_n (W_seq (W_reg ?_)))
 refine O_v rfl (R_buildL (vs := [(0, (.int .u8 1))]) (v := aggOf [(idCells (mkId 1))]) rfl (fun _ => by kernel_rfl) ?_)
 refine O_v rfl (R_buildL (vs := [(0, (aggOf (idCh (mkId 1)))), (1, (.string (⟨#[118]⟩ : ByteArray)))]) (v := aggOf [(idCells (mkId 1)), [(.string (⟨#[118]⟩ : ByteArray))], [(.string ByteArray.empty)]]) rfl (fun _ => by kernel_rfl) ?_)
 refine O_v rfl (R_callL (vs := [(aggOf [(idCells (mkId 1)), [(.string (⟨#[118]⟩ : ByteArray))], [(.string ByteArray.empty)]])]) law04_alive_c7 rfl rfl ((obj_PutLabel ({ target := (mkId 1), name := (⟨#[118]⟩ : ByteArray), msg := ByteArray.empty } : Label) w25 ).ret ?_))
 rintro _ w30 ⟨h29, rfl, hx31, ho32⟩
 have H33 := H28.addRow hx31 ho32
 refine O_v rfl (R_move (v := (.tuple #[(slV h29 (putLabelB ({ target := (mkId 1), name := (⟨#[118]⟩ : ByteArray), msg := ByteArray.empty } : Label))), (.int .i64 (putLabelE ({ target := (mkId 1), name := (⟨#[118]⟩ : ByteArray), msg := ByteArray.empty } : Label)))])) rfl ?_)
 refine O_v rfl (R_extract (v := (slV h29 (putLabelB ({ target := (mkId 1), name := (⟨#[118]⟩ : ByteArray), msg := ByteArray.empty } : Label)))) rfl rfl ?_)
 refine O_v rfl (R_extract (v := (.int .i64 (putLabelE ({ target := (mkId 1), name := (⟨#[118]⟩ : ByteArray), msg := ByteArray.empty } : Label)))) rfl rfl ?_)
 refine O_v rfl (R_assign (v := (slV h29 (putLabelB ({ target := (mkId 1), name := (⟨#[118]⟩ : ByteArray), msg := ByteArray.empty } : Label)))) rfl ?_)
 refine O_v rfl (R_assign (v := (.int .i64 (putLabelE ({ target := (mkId 1), name := (⟨#[118]⟩ : ByteArray), msg := ByteArray.empty } : Label)))) rfl ?_)
 refine O_nil (Then_n (W_seq ?_))
 refine W_rg [(0, .q 0), (1, .q 0), (2, .q 0), (3, .q 0), (4, .q 0), (5, .q 0), (6, .q 0), (7, .q 0), (8, .q 0), (9, .q 0), (10, .q 0), (11, .q 0), (12, .q 0), (13, .q 0), (14, .q 0), (15, .q 0), (16, .q 0), (17, .q 0), (18, .q 0), (19, .q 0), (20, .q 0), (21, .q 0), (22, .q 0), (23, .q 0), (24, .q 0), (25, .q 0), (26, .q 0), (27, .q 0), (28, .q 0), (29, .q 0), (30, .q 0), (31, .q 0), (32, .q 0), (33, .q 0), (34, .q 0), (35, .q 0), (36, .q 0), (37, .q 0), (38, .q 0), (39, .q 0), (40, .q 0), (41, .q 0), (42, .q 0), (43, .q 0), (44, .q 0), (45, .q 0), (46, .q 0), (47, .c 0), (48, .q 0), (49, .q 0), (50, .q 0), (51, .q 0)] (by kernel_rfl) ?_
 refine Lx_q (i := 0) rfl rfl _ (fun v34 hv35 => R_move (v := (.int .i64 (putBlobE ([97, 98] : List UInt8)))) rfl ⟨rfl, Gr.refl _ _⟩) ?_
 refine Lx_q (i := 1) rfl rfl (.bool true) (fun v36 hv37 => R_cmp (a := putBlobE ([97, 98] : List UInt8)) (b := 0) (r := (decide (putBlobE ([97, 98] : List UInt8) = 0))) rfl rfl rfl ⟨(boolK (by decide)), Gr.refl _ _⟩) ?_
 refine Lx_q (i := 2) rfl rfl _ (fun v38 hv39 => R_move (v := (.bool true)) rfl ⟨rfl, Gr.refl _ _⟩) ?_
 refine Lx_qT (i := 3) rfl rfl rfl rfl rfl _ (fun v40 hv41 => R_move (v := (slV h9 (putBlobB ([97, 98] : List UInt8)))) rfl ⟨rfl, Gr.refl _ _⟩) ?_
 refine Lx_qT (i := 4) rfl rfl rfl rfl rfl _ (fun v42 hv43 => R_conv_bs (l := putBlobB ([97, 98] : List UInt8)) Try.underlying31 Try.underlying5 Try.underlying9 (OwnS.sl ((H33.ext hv43).getOwn 4 rfl) (fun _ => rfl)) rfl ⟨rfl, Gr.refl _ _⟩) ?_
 refine Lx_qT (i := 5) rfl rfl rfl rfl rfl (.bool true) (fun v44 hv45 => R_cmpS (a := (⟨(putBlobB ([97, 98] : List UInt8)).toArray⟩ : ByteArray)) (b := (⟨#[1, 97, 98]⟩ : ByteArray)) (r := (decide ((⟨(putBlobB ([97, 98] : List UInt8)).toArray⟩ : ByteArray) = (⟨#[1, 97, 98]⟩ : ByteArray)))) rfl rfl rfl ⟨(boolK (by decide)), Gr.refl _ _⟩) ?_
 refine Lx_q (i := 6) rfl rfl _ (fun v46 hv47 => R_pick (t := true) (v := (.bool true)) rfl rfl ⟨rfl, Gr.refl _ _⟩) ?_
 refine Lx_q (i := 7) rfl rfl _ (fun v48 hv49 => R_move (v := (.bool true)) rfl ⟨rfl, Gr.refl _ _⟩) ?_
 refine Lx_qT (i := 8) rfl rfl rfl rfl rfl _ (fun v50 hv51 => R_move (v := (.int .i64 (putChangeE ({ parents := [], ph := nilH, time := 1, r := 1, ops := [], oh := nilH, tree := (mkId 9), msg := ByteArray.empty } : ChangeS)))) rfl ⟨rfl, Gr.refl _ _⟩) ?_
 refine Lx_qT (i := 9) rfl rfl rfl rfl rfl (.bool true) (fun v52 hv53 => R_cmp (a := putChangeE ({ parents := [], ph := nilH, time := 1, r := 1, ops := [], oh := nilH, tree := (mkId 9), msg := ByteArray.empty } : ChangeS)) (b := 0) (r := (decide (putChangeE ({ parents := [], ph := nilH, time := 1, r := 1, ops := [], oh := nilH, tree := (mkId 9), msg := ByteArray.empty } : ChangeS) = 0))) rfl rfl rfl ⟨(boolK (decide_eq_true (if_pos chg_ok))), Gr.refl _ _⟩) ?_
 refine Lx_q (i := 10) rfl rfl _ (fun v54 hv55 => R_pick (t := true) (v := (.bool true)) rfl rfl ⟨rfl, Gr.refl _ _⟩) ?_
 refine Lx_q (i := 11) rfl rfl _ (fun v56 hv57 => R_move (v := (.bool true)) rfl ⟨rfl, Gr.refl _ _⟩) ?_
 refine Lx_qT (i := 12) rfl rfl rfl rfl rfl _ (fun v58 hv59 => R_move (v := (slV h14 (putChangeB ({ parents := [], ph := nilH, time := 1, r := 1, ops := [], oh := nilH, tree := (mkId 9), msg := ByteArray.empty } : ChangeS)))) rfl ⟨rfl, Gr.refl _ _⟩) ?_
 refine Lx_qT (i := 13) rfl rfl rfl rfl rfl _ (fun v60 hv61 => R_len_slice (a := h14.a) (n := (putChangeB ({ parents := [], ph := nilH, time := 1, r := 1, ops := [], oh := nilH, tree := (mkId 9), msg := ByteArray.empty } : ChangeS)).length) (c := h14.c) Try.underlying31 rfl ⟨rfl, Gr.refl _ _⟩) ?_
 refine Lx_qT (i := 14) rfl rfl rfl rfl rfl (.bool true) (fun v62 hv63 => R_cmp (a := (((putChangeB ({ parents := [], ph := nilH, time := 1, r := 1, ops := [], oh := nilH, tree := (mkId 9), msg := ByteArray.empty } : ChangeS)).length : Nat) : Int)) (b := 38) (r := (decide ((((putChangeB ({ parents := [], ph := nilH, time := 1, r := 1, ops := [], oh := nilH, tree := (mkId 9), msg := ByteArray.empty } : ChangeS)).length : Nat) : Int) = 38))) rfl rfl rfl ⟨(boolK (decide_eq_true chg_len)), Gr.refl _ _⟩) ?_
 refine Lx_q (i := 15) rfl rfl _ (fun v64 hv65 => R_pick (t := true) (v := (.bool true)) rfl rfl ⟨rfl, Gr.refl _ _⟩) ?_
 refine Lx_q (i := 16) rfl rfl _ (fun v66 hv67 => R_move (v := (.bool true)) rfl ⟨rfl, Gr.refl _ _⟩) ?_
 refine Lx_qT (i := 17) rfl rfl rfl rfl rfl _ (fun v68 hv69 => R_move (v := (slV h14 (putChangeB ({ parents := [], ph := nilH, time := 1, r := 1, ops := [], oh := nilH, tree := (mkId 9), msg := ByteArray.empty } : ChangeS)))) rfl ⟨rfl, Gr.refl _ _⟩) ?_
 refine Lx_qT (i := 18) rfl rfl rfl rfl rfl _ (fun v70 hv71 => R_index_pure (OwnS.sl (H33.getOwn 3 rfl) (fun _ => rfl)) (n := (putChangeB ({ parents := [], ph := nilH, time := 1, r := 1, ops := [], oh := nilH, tree := (mkId 9), msg := ByteArray.empty } : ChangeS)).length) rfl (j := 0) (oo := (h14.o + 0 * 1)) Try.underlying31 Try.sizeOf5 rfl rfl (by omega) chg_ix rfl ⟨rfl, Gr.refl _ _⟩) ?_
 refine Lx_qT (i := 19) rfl rfl rfl rfl rfl _ (fun v72 hv73 => R_load1 (v := (.int .u8 ((nth (putChangeB ({ parents := [], ph := nilH, time := 1, r := 1, ops := [], oh := nilH, tree := (mkId 9), msg := ByteArray.empty } : ChangeS)) 0).toNat : Int))) Try.isAgg5 rfl ((Sl.elem (OwnS.sl ((H33.ext hv73).getOwn 3 rfl) (fun _ => rfl)) (i := 0) chg_ixn rfl).chunks 0 1 0 (h14.o + 0 * 1) _ rfl rfl rfl) ⟨rfl, Gr.refl _ _⟩) ?_
 refine Lx_qT (i := 20) rfl rfl rfl rfl rfl (.bool true) (fun v74 hv75 => R_cmp (a := ((nth (putChangeB ({ parents := [], ph := nilH, time := 1, r := 1, ops := [], oh := nilH, tree := (mkId 9), msg := ByteArray.empty } : ChangeS)) 0).toNat : Int)) (b := 3) (r := (decide (((nth (putChangeB ({ parents := [], ph := nilH, time := 1, r := 1, ops := [], oh := nilH, tree := (mkId 9), msg := ByteArray.empty } : ChangeS)) 0).toNat : Int) = 3))) rfl rfl rfl ⟨(boolK (decide_eq_true chg_first)), Gr.refl _ _⟩) ?_
 refine Lx_q (i := 21) rfl rfl _ (fun v76 hv77 => R_pick (t := true) (v := (.bool true)) rfl rfl ⟨rfl, Gr.refl _ _⟩) ?_
 refine Lx_q (i := 22) rfl rfl _ (fun v78 hv79 => R_move (v := (.bool true)) rfl ⟨rfl, Gr.refl _ _⟩) ?_
 refine Lx_qT (i := 23) rfl rfl rfl rfl rfl _ (fun v80 hv81 => R_move (v := (.int .i64 (putDirE ([({ node := ({ T := 1, R := 1 } : Stamp), tm := ({ T := 1, R := 1 } : Stamp), name := (⟨#[97]⟩ : ByteArray), sub := zeroId, heads := [], hh := nilH } : ItemS)] : List ItemS)))) rfl ⟨rfl, Gr.refl _ _⟩) ?_
 refine Lx_qT (i := 24) rfl rfl rfl rfl rfl (.bool true) (fun v82 hv83 => R_cmp (a := putDirE ([({ node := ({ T := 1, R := 1 } : Stamp), tm := ({ T := 1, R := 1 } : Stamp), name := (⟨#[97]⟩ : ByteArray), sub := zeroId, heads := [], hh := nilH } : ItemS)] : List ItemS)) (b := 0) (r := (decide (putDirE ([({ node := ({ T := 1, R := 1 } : Stamp), tm := ({ T := 1, R := 1 } : Stamp), name := (⟨#[97]⟩ : ByteArray), sub := zeroId, heads := [], hh := nilH } : ItemS)] : List ItemS) = 0))) rfl rfl rfl ⟨(boolK (decide_eq_true (if_pos item_ok))), Gr.refl _ _⟩) ?_
 refine Lx_q (i := 25) rfl rfl _ (fun v84 hv85 => R_pick (t := true) (v := (.bool true)) rfl rfl ⟨rfl, Gr.refl _ _⟩) ?_
 refine Lx_q (i := 26) rfl rfl _ (fun v86 hv87 => R_move (v := (.bool true)) rfl ⟨rfl, Gr.refl _ _⟩) ?_
 refine Lx_qT (i := 27) rfl rfl rfl rfl rfl _ (fun v88 hv89 => R_move (v := (slV h24 (putDirB ([({ node := ({ T := 1, R := 1 } : Stamp), tm := ({ T := 1, R := 1 } : Stamp), name := (⟨#[97]⟩ : ByteArray), sub := zeroId, heads := [], hh := nilH } : ItemS)] : List ItemS)))) rfl ⟨rfl, Gr.refl _ _⟩) ?_
 refine Lx_qT (i := 28) rfl rfl rfl rfl rfl (.int .i64 (kindOf (putDirB ([({ node := ({ T := 1, R := 1 } : Stamp), tm := ({ T := 1, R := 1 } : Stamp), name := (⟨#[97]⟩ : ByteArray), sub := zeroId, heads := [], hh := nilH } : ItemS)] : List ItemS)))) (fun v90 hv91 => R_callL (vs := [(slV h24 (putDirB ([({ node := ({ T := 1, R := 1 } : Stamp), tm := ({ T := 1, R := 1 } : Stamp), name := (⟨#[97]⟩ : ByteArray), sub := zeroId, heads := [], hh := nilH } : ItemS)] : List ItemS)))]) law04_alive_c8 rfl rfl (obj_Kind h24 (putDirB ([({ node := ({ T := 1, R := 1 } : Stamp), tm := ({ T := 1, R := 1 } : Stamp), name := (⟨#[97]⟩ : ByteArray), sub := zeroId, heads := [], hh := nilH } : ItemS)] : List ItemS)) v90 ((H33.ext hv91).rowSl 1 rfl (fun _ => rfl)) item_bound)) ?_
 refine Lx_qT (i := 29) rfl rfl rfl rfl rfl (.bool true) (fun v92 hv93 => R_cmp (a := kindOf (putDirB ([({ node := ({ T := 1, R := 1 } : Stamp), tm := ({ T := 1, R := 1 } : Stamp), name := (⟨#[97]⟩ : ByteArray), sub := zeroId, heads := [], hh := nilH } : ItemS)] : List ItemS))) (b := 2) (r := (decide (kindOf (putDirB ([({ node := ({ T := 1, R := 1 } : Stamp), tm := ({ T := 1, R := 1 } : Stamp), name := (⟨#[97]⟩ : ByteArray), sub := zeroId, heads := [], hh := nilH } : ItemS)] : List ItemS)) = 2))) rfl rfl rfl ⟨(boolK (decide_eq_true item_kind)), Gr.refl _ _⟩) ?_
 refine Lx_q (i := 30) rfl rfl _ (fun v94 hv95 => R_pick (t := true) (v := (.bool true)) rfl rfl ⟨rfl, Gr.refl _ _⟩) ?_
 refine Lx_q (i := 31) rfl rfl _ (fun v96 hv97 => R_move (v := (.bool true)) rfl ⟨rfl, Gr.refl _ _⟩) ?_
 refine Lx_qT (i := 32) rfl rfl rfl rfl rfl _ (fun v98 hv99 => R_move (v := (.int .i64 (putLabelE ({ target := (mkId 1), name := (⟨#[118]⟩ : ByteArray), msg := ByteArray.empty } : Label)))) rfl ⟨rfl, Gr.refl _ _⟩) ?_
 refine Lx_qT (i := 33) rfl rfl rfl rfl rfl (.bool true) (fun v100 hv101 => R_cmp (a := putLabelE ({ target := (mkId 1), name := (⟨#[118]⟩ : ByteArray), msg := ByteArray.empty } : Label)) (b := 0) (r := (decide (putLabelE ({ target := (mkId 1), name := (⟨#[118]⟩ : ByteArray), msg := ByteArray.empty } : Label) = 0))) rfl rfl rfl ⟨(boolK (decide_eq_true (if_pos lab_ok))), Gr.refl _ _⟩) ?_
 refine Lx_q (i := 34) rfl rfl _ (fun v102 hv103 => R_pick (t := true) (v := (.bool true)) rfl rfl ⟨rfl, Gr.refl _ _⟩) ?_
 refine Lx_q (i := 35) rfl rfl _ (fun v104 hv105 => R_move (v := (.bool true)) rfl ⟨rfl, Gr.refl _ _⟩) ?_
 refine Lx_qT (i := 36) rfl rfl rfl rfl rfl _ (fun v106 hv107 => R_move (v := (slV h29 (putLabelB ({ target := (mkId 1), name := (⟨#[118]⟩ : ByteArray), msg := ByteArray.empty } : Label)))) rfl ⟨rfl, Gr.refl _ _⟩) ?_
 refine Lx_qT (i := 37) rfl rfl rfl rfl rfl (.int .i64 (kindOf (putLabelB ({ target := (mkId 1), name := (⟨#[118]⟩ : ByteArray), msg := ByteArray.empty } : Label)))) (fun v108 hv109 => R_callL (vs := [(slV h29 (putLabelB ({ target := (mkId 1), name := (⟨#[118]⟩ : ByteArray), msg := ByteArray.empty } : Label)))]) law04_alive_c8 rfl rfl (obj_Kind h29 (putLabelB ({ target := (mkId 1), name := (⟨#[118]⟩ : ByteArray), msg := ByteArray.empty } : Label)) v108 ((H33.ext hv109).rowSl 0 rfl (fun _ => rfl)) lab_bound)) ?_
 refine Lx_qT (i := 38) rfl rfl rfl rfl rfl (.bool true) (fun v110 hv111 => R_cmp (a := kindOf (putLabelB ({ target := (mkId 1), name := (⟨#[118]⟩ : ByteArray), msg := ByteArray.empty } : Label))) (b := 4) (r := (decide (kindOf (putLabelB ({ target := (mkId 1), name := (⟨#[118]⟩ : ByteArray), msg := ByteArray.empty } : Label)) = 4))) rfl rfl rfl ⟨(boolK (decide_eq_true lab_kind)), Gr.refl _ _⟩) ?_
 refine Lx_q (i := 39) rfl rfl _ (fun v112 hv113 => R_pick (t := true) (v := (.bool true)) rfl rfl ⟨rfl, Gr.refl _ _⟩) ?_
 refine Lx_q (i := 40) rfl rfl _ (fun v114 hv115 => R_move (v := (.bool true)) rfl ⟨rfl, Gr.refl _ _⟩) ?_
 refine Lx_qT (i := 41) rfl rfl rfl rfl rfl _ (fun v116 hv117 => R_move (v := (slV h14 (putChangeB ({ parents := [], ph := nilH, time := 1, r := 1, ops := [], oh := nilH, tree := (mkId 9), msg := ByteArray.empty } : ChangeS)))) rfl ⟨rfl, Gr.refl _ _⟩) ?_
 refine Lx_qT (i := 42) rfl rfl rfl rfl rfl (.int .i64 (kindOf (putChangeB ({ parents := [], ph := nilH, time := 1, r := 1, ops := [], oh := nilH, tree := (mkId 9), msg := ByteArray.empty } : ChangeS)))) (fun v118 hv119 => R_callL (vs := [(slV h14 (putChangeB ({ parents := [], ph := nilH, time := 1, r := 1, ops := [], oh := nilH, tree := (mkId 9), msg := ByteArray.empty } : ChangeS)))]) law04_alive_c8 rfl rfl (obj_Kind h14 (putChangeB ({ parents := [], ph := nilH, time := 1, r := 1, ops := [], oh := nilH, tree := (mkId 9), msg := ByteArray.empty } : ChangeS)) v118 ((H33.ext hv119).rowSl 3 rfl (fun _ => rfl)) chg_bound)) ?_
 refine Lx_qT (i := 43) rfl rfl rfl rfl rfl (.bool true) (fun v120 hv121 => R_cmp (a := kindOf (putChangeB ({ parents := [], ph := nilH, time := 1, r := 1, ops := [], oh := nilH, tree := (mkId 9), msg := ByteArray.empty } : ChangeS))) (b := 3) (r := (decide (kindOf (putChangeB ({ parents := [], ph := nilH, time := 1, r := 1, ops := [], oh := nilH, tree := (mkId 9), msg := ByteArray.empty } : ChangeS)) = 3))) rfl rfl rfl ⟨(boolK (decide_eq_true chg_kind)), Gr.refl _ _⟩) ?_
 refine Lx_q (i := 44) rfl rfl _ (fun v122 hv123 => R_pick (t := true) (v := (.bool true)) rfl rfl ⟨rfl, Gr.refl _ _⟩) ?_
 refine Lx_q (i := 45) rfl rfl _ (fun v124 hv125 => R_move (v := (.bool true)) rfl ⟨rfl, Gr.refl _ _⟩) ?_
 refine Lx_qT (i := 46) rfl rfl rfl rfl rfl _ (fun v126 hv127 => R_move (v := (slV h14 (putChangeB ({ parents := [], ph := nilH, time := 1, r := 1, ops := [], oh := nilH, tree := (mkId 9), msg := ByteArray.empty } : ChangeS)))) rfl ⟨rfl, Gr.refl _ _⟩) ?_
 refine Lx_cT (i := 47) rfl rfl rfl rfl rfl (fun w128 hw129 => ?_)
 have H130 := H33.ext hw129
 refine (R_callL (vs := [(slV h14 (putChangeB ({ parents := [], ph := nilH, time := 1, r := 1, ops := [], oh := nilH, tree := (mkId 9), msg := ByteArray.empty } : ChangeS)))]) law04_alive_c15 rfl rfl ((obj_Links h14 (putChangeB ({ parents := [], ph := nilH, time := 1, r := 1, ops := [], oh := nilH, tree := (mkId 9), msg := ByteArray.empty } : ChangeS)) w128 (H130.rowSl 3 rfl (fun _ => rfl)) chg_bound chg_raw1).ret ?_))
 rintro _ w133 ⟨h131, S132, rfl, hx134, hS135, hv136⟩
 have H137 := H130.addImm hx134 (slI S132 idCh 32 h131 (links1 (putChangeB ({ parents := [], ph := nilH, time := 1, r := 1, ops := [], oh := nilH, tree := (mkId 9), msg := ByteArray.empty } : ChangeS)))) hv136 hS135
 refine ⟨GrF.ofExt hx134, ?_⟩
 refine Lx_qT (i := 48) rfl rfl rfl rfl rfl _ (fun v138 hv139 => R_len_slice (a := h131.a) (n := (links1 (putChangeB ({ parents := [], ph := nilH, time := 1, r := 1, ops := [], oh := nilH, tree := (mkId 9), msg := ByteArray.empty } : ChangeS))).length) (c := h131.c) Try.underlying22 rfl ⟨rfl, Gr.refl _ _⟩) ?_
 refine Lx_qT (i := 49) rfl rfl rfl rfl rfl (.bool true) (fun v140 hv141 => R_cmp (a := (((links1 (putChangeB ({ parents := [], ph := nilH, time := 1, r := 1, ops := [], oh := nilH, tree := (mkId 9), msg := ByteArray.empty } : ChangeS))).length : Nat) : Int)) (b := 1) (r := (decide ((((links1 (putChangeB ({ parents := [], ph := nilH, time := 1, r := 1, ops := [], oh := nilH, tree := (mkId 9), msg := ByteArray.empty } : ChangeS))).length : Nat) : Int) = 1))) rfl rfl rfl ⟨(boolK (decide_eq_true chg_one)), Gr.refl _ _⟩) ?_
 refine Lx_q (i := 50) rfl rfl _ (fun v142 hv143 => R_pick (t := true) (v := (.bool true)) rfl rfl ⟨rfl, Gr.refl _ _⟩) ?_
 refine Lx_q (i := 51) rfl rfl _ (fun v144 hv145 => R_assign (v := (.bool true)) rfl ⟨rfl, Gr.refl _ _⟩) ?_
 refine Lx_nil (fun w146 hw147 => ?_)
 have H148 := H137.ext hw147
 refine Then_n (W_ret ?_)
 refine ret_1 (v := (.bool true)) Try.results5 rfl ?_
 exact ⟨rfl, H148.gr⟩

end Go.Proofs.Ythjdhfoeckfmbaa
/- Readers read on; what was written is read back. -/
namespace Go.Proofs.Ythjdhfoeckfmbaa
open Go
set_option linter.unusedVariables false
set_option linter.unusedSimpArgs false
/-- A reader that has failed stays so; with more bytes behind it reads the same. -/
structure Rdr {α : Type} (f : RSt → α × RSt) : Prop where
  bad : ∀ q, q.2 = true → (f q).2.2 = true
  more : ∀ l s, (f (l, false)).2.2 = false → f (l ++ s, false) = ((f (l, false)).1, ((f (l, false)).2.1 ++ s, false))
/-- These bytes are read as x. -/
def Wr {α : Type} (f : RSt → α × RSt) (x : α) (b : List UInt8) : Prop := ∀ s, f (b ++ s, false) = (x, (s, false))
section
variable {α β : Type} {f : RSt → α × RSt} {g : α → RSt → β × RSt}
theorem Rdr.bind (F : Rdr f) (G : ∀ a, Rdr (g a)) : Rdr (fun q => g (f q).1 (f q).2) := by
  refine ⟨fun q h => (G _).bad _ (F.bad q h), fun l s h => ?_⟩
  have h1 : (f (l, false)).2.2 = false := by
    cases hb : (f (l, false)).2.2 with
    | false => rfl
    | true => rw [(G _).bad _ hb] at h; cases h
  have e := F.more l s h1
  have e2 : (f (l, false)).2 = ((f (l, false)).2.1, false) := Prod.ext rfl h1
  show g (f (l ++ s, false)).1 (f (l ++ s, false)).2 = _
  rw [e]
  have h' : (g (f (l, false)).1 ((f (l, false)).2.1, false)).2.2 = false := by rw [← e2]; exact h
  have e3 := (G (f (l, false)).1).more _ s h'
  rw [← e2] at e3
  exact e3
theorem Rdr.pure (x : α) : Rdr (fun q => (x, q)) := ⟨fun q h => h, fun l s _ => rfl⟩
theorem Wr.bind {a : α} {y : β} {b1 b2 : List UInt8} (F : Wr f a b1) (G : Wr (g a) y b2) : Wr (fun q => g (f q).1 (f q).2) y (b1 ++ b2) := by
  intro s
  show g (f (b1 ++ b2 ++ s, false)).1 (f (b1 ++ b2 ++ s, false)).2 = _
  rw [List.append_assoc, F (b2 ++ s)]
  exact G s
theorem Wr.pure (x : α) : Wr (fun q => (x, q)) x [] := fun s => rfl
end
theorem Rdr_take (n : Nat) : Rdr (fun q => rdTake q n) := by
  refine ⟨fun q h => by simp only [rdTake, if_pos (Or.inl h)], fun l s h => ?_⟩
  simp only [rdTake] at h ⊢
  by_cases hl : l.length < n
  · rw [if_pos (Or.inr hl)] at h; cases h
  · have h1 : ¬ (false = true ∨ l.length < n) := fun hh => hh.elim (fun e => nomatch e) hl
    have h2 : ¬ (false = true ∨ (l ++ s).length < n) := fun hh => hh.elim (fun e => nomatch e) (fun e => hl (by rw [List.length_append] at e; omega))
    rw [if_neg h1, if_neg h2]
    simp only [Prod.mk.injEq, and_true]
    exact ⟨List.take_append_of_le_length (by omega), List.drop_append_of_le_length (by omega)⟩
theorem Wr_take {n : Nat} {b : List UInt8} (h : b.length = n) : Wr (fun q => rdTake q n) b b := by
  intro s
  simp only [rdTake]
  rw [if_neg (by simp only [List.length_append, Bool.false_eq_true, false_or]; omega)]
  simp only [Prod.mk.injEq, and_true]
  exact ⟨by rw [← h, List.take_left'] ; rfl, by rw [← h, List.drop_left']; rfl⟩
theorem Rdr_numGo (most : Int) : ∀ (n k u : Nat), Rdr (fun q => rdNumGo most n k u q)
  | 0, k, u => ⟨fun q h => rfl, fun l s h => by cases h⟩
  | n + 1, k, u => by
    have T := Rdr_take 1
    refine ⟨fun q h => ?_, fun l s h => ?_⟩
    · have h1 : rdTake q 1 = ([], ([], true)) := by simp only [rdTake, if_pos (Or.inl h)]
      show (rdNumGo most (n + 1) k u q).2.2 = true
      rw [rdNumGo, h1, if_pos rfl]
    · have h : (rdNumGo most (n + 1) k u (l, false)).2.2 = false := h
      show rdNumGo most (n + 1) k u (l ++ s, false) = ((rdNumGo most (n + 1) k u (l, false)).1, ((rdNumGo most (n + 1) k u (l, false)).2.1 ++ s, false))
      cases l with
      | nil =>
        have h1 : rdTake (([] : List UInt8), false) 1 = ([], ([], true)) := rfl
        rw [rdNumGo, h1, if_pos rfl] at h
        cases h
      | cons b l =>
        have e1 : rdTake (b :: l, false) 1 = ([b], (l, false)) := by simp [rdTake]
        have e2 : rdTake ((b :: l) ++ s, false) 1 = ([b], (l ++ s, false)) := by simp [rdTake]
        rw [rdNumGo, e1, if_neg (by simp)] at h
        rw [rdNumGo, e2, if_neg (by simp)]
        conv => rhs; rw [rdNumGo, e1, if_neg (by simp)]
        simp only at h ⊢
        split at h
        · rename_i hc
          rw [if_pos hc, if_pos hc]
          exact (Rdr_numGo most n (k + 1) _).more l s h
        · rename_i hc
          rw [if_neg hc, if_neg hc]
          split at h
          · cases h
          · rename_i hd
            rw [if_neg hd, if_neg hd]
theorem Rdr_num (most : Int) : Rdr (fun q => rdNum q most) := Rdr_numGo most 9 0 0
theorem Rdr_text (most : Int) : Rdr (fun q => rdText q most) :=
  (Rdr_num most).bind (g := fun (n : Nat) (q : RSt) => ((⟨(rdTake q n).1.toArray⟩ : ByteArray), (rdTake q n).2)) fun n => (Rdr_take n).bind (g := fun (b : List UInt8) (q : RSt) => ((⟨b.toArray⟩ : ByteArray), q)) fun b => Rdr.pure _
theorem Rdr_id : Rdr rdId := (Rdr_take 32).bind (g := fun (b : List UInt8) (q : RSt) => (idPut zeroId b, q)) fun b => Rdr.pure _
theorem Rdr_at : Rdr rdAt :=
  (Rdr_num 1099511627776).bind (g := fun (t : Nat) (q : RSt) => ((⟨(t : Int), ((rdNum q 65536).1 : Int)⟩ : Stamp), (rdNum q 65536).2)) fun t => (Rdr_num 65536).bind (g := fun (r : Nat) (q : RSt) => ((⟨(t : Int), (r : Int)⟩ : Stamp), q)) fun r => Rdr.pure _
theorem Rdr_ats : ∀ (n : Nat) (a : List Stamp), Rdr (rdAts n a)
  | 0, a => Rdr.pure a
  | n + 1, a => Rdr_at.bind (g := fun (x : Stamp) (q : RSt) => rdAts n (a ++ [x]) q) fun x => Rdr_ats n (a ++ [x])
theorem Rdr_ids : ∀ (n : Nat) (a : List ID), Rdr (rdIds n a)
  | 0, a => Rdr.pure a
  | n + 1, a => Rdr_id.bind (g := fun (x : ID) (q : RSt) => rdIds n (a ++ [x]) q) fun x => Rdr_ids n (a ++ [x])
/-- Behind an operation's kind, its At and its Node: a move's, an edit's. -/
def mvRest (k : Nat) (t n : Stamp) (q : RSt) : OpC × RSt := (⟨(k : Int), t, n, (rdAt q).1, (rdText (rdAt q).2 60).1, zeroId, []⟩, (rdText (rdAt q).2 60).2)
def edRest (k : Nat) (t n : Stamp) (q : RSt) : OpC × RSt :=
  (⟨(k : Int), t, n, ⟨0, 0⟩, ByteArray.empty, (rdId q).1, (rdAts (rdNum (rdId q).2 64).1 [] (rdNum (rdId q).2 64).2).1⟩, (rdAts (rdNum (rdId q).2 64).1 [] (rdNum (rdId q).2 64).2).2)
def opRest (k : Nat) (t n : Stamp) (q : RSt) : OpC × RSt := if ((k : Nat) : Int) = 1 then mvRest k t n q else edRest k t n q
def opRead' (q : RSt) : OpC × RSt := opRest (rdNum q 2).1 (rdAt (rdNum q 2).2).1 (rdAt (rdAt (rdNum q 2).2).2).1 (rdAt (rdAt (rdNum q 2).2).2).2
theorem opRead_eq (q : RSt) : opRead q = opRead' q := by
  unfold opRead opRead' opRest
  split <;> rfl
theorem Rdr_mv (k : Nat) (t n : Stamp) : Rdr (mvRest k t n) :=
  Rdr_at.bind (g := fun (p : Stamp) (q : RSt) => ((⟨(k : Int), t, n, p, (rdText q 60).1, zeroId, []⟩ : OpC), (rdText q 60).2)) fun p => (Rdr_text 60).bind (g := fun (x : ByteArray) (q : RSt) => ((⟨(k : Int), t, n, p, x, zeroId, []⟩ : OpC), q)) fun x => Rdr.pure _
theorem Rdr_ed (k : Nat) (t n : Stamp) : Rdr (edRest k t n) :=
  Rdr_id.bind (g := fun (d : ID) (q : RSt) => ((⟨(k : Int), t, n, ⟨0, 0⟩, ByteArray.empty, d, (rdAts (rdNum q 64).1 [] (rdNum q 64).2).1⟩ : OpC), (rdAts (rdNum q 64).1 [] (rdNum q 64).2).2)) fun d =>
    (Rdr_num 64).bind (g := fun (m : Nat) (q : RSt) => ((⟨(k : Int), t, n, ⟨0, 0⟩, ByteArray.empty, d, (rdAts m [] q).1⟩ : OpC), (rdAts m [] q).2)) fun m =>
      (Rdr_ats m []).bind (g := fun (l : List Stamp) (q : RSt) => ((⟨(k : Int), t, n, ⟨0, 0⟩, ByteArray.empty, d, l⟩ : OpC), q)) fun l => Rdr.pure _
theorem Rdr_rest (k : Nat) (t n : Stamp) : Rdr (opRest k t n) := by
  by_cases h : ((k : Nat) : Int) = 1
  · have e : opRest k t n = mvRest k t n := funext fun q => if_pos h
    rw [e]; exact Rdr_mv k t n
  · have e : opRest k t n = edRest k t n := funext fun q => if_neg h
    rw [e]; exact Rdr_ed k t n
theorem Rdr_read : Rdr opRead := by
  have e : opRead = opRead' := funext opRead_eq
  rw [e]
  exact (Rdr_num 2).bind (g := fun (k : Nat) (q : RSt) => opRest k (rdAt q).1 (rdAt (rdAt q).2).1 (rdAt (rdAt q).2).2) fun k => Rdr_at.bind (g := fun (t : Stamp) (q : RSt) => opRest k t (rdAt q).1 (rdAt q).2) fun t => Rdr_at.bind (g := fun (n : Stamp) (q : RSt) => opRest k t n q) fun n => Rdr_rest k t n
theorem Rdr_op : Rdr rdOp := by
  refine ⟨fun q h => ?_, fun l s h => ?_⟩
  · unfold rdOp
    rw [if_neg (by rw [Rdr_read.bad q h]; intro hh; cases hh.1)]
  · unfold rdOp at h ⊢
    by_cases hc : (opRead (l, false)).2.2 = false ∧ (opRead (l, false)).1.good = true
    · rw [if_pos hc]
      rw [Rdr_read.more l s hc.1]
      exact if_pos ⟨rfl, hc.2⟩
    · rw [if_neg hc] at h; cases h
theorem Rdr_ops : ∀ (n : Nat) (a : List OpC), Rdr (rdOps n a)
  | 0, a => Rdr.pure a
  | n + 1, a => Rdr_op.bind (g := fun (x : OpC) (q : RSt) => rdOps n (a ++ [x]) q) fun x => Rdr_ops n (a ++ [x])
/-- A commit behind its kind. -/
def chTail (P : List ID) (t r : Nat) (O : List OpC) (q : RSt) : ChangeC × RSt := (⟨P, (t : Int), (r : Int), O, (rdId q).1, (rdText (rdId q).2 200).1⟩, (rdText (rdId q).2 200).2)
def chOps (P : List ID) (t r : Nat) (q : RSt) : ChangeC × RSt := chTail P t r (rdOps (rdNum q 64).1 [] (rdNum q 64).2).1 (rdOps (rdNum q 64).1 [] (rdNum q 64).2).2
def chRest (P : List ID) (q : RSt) : ChangeC × RSt := chOps P (rdNum q 1099511627776).1 (rdNum (rdNum q 1099511627776).2 65536).1 (rdNum (rdNum q 1099511627776).2 65536).2
def chRd (q : RSt) : ChangeC × RSt := chRest (rdIds (rdNum q 2).1 [] (rdNum q 2).2).1 (rdIds (rdNum q 2).1 [] (rdNum q 2).2).2
theorem changeRd_eq (b : List UInt8) : changeRd b = chRd (openSt b 3) := rfl
theorem Rdr_chTail (P : List ID) (t r : Nat) (O : List OpC) : Rdr (chTail P t r O) :=
  Rdr_id.bind (g := fun (d : ID) (q : RSt) => ((⟨P, (t : Int), (r : Int), O, d, (rdText q 200).1⟩ : ChangeC), (rdText q 200).2)) fun d => (Rdr_text 200).bind (g := fun (m : ByteArray) (q : RSt) => ((⟨P, (t : Int), (r : Int), O, d, m⟩ : ChangeC), q)) fun m => Rdr.pure _
theorem Rdr_chOps (P : List ID) (t r : Nat) : Rdr (chOps P t r) :=
  (Rdr_num 64).bind (g := fun (m : Nat) (q : RSt) => chTail P t r (rdOps m [] q).1 (rdOps m [] q).2) fun m => (Rdr_ops m []).bind (g := fun (O : List OpC) (q : RSt) => chTail P t r O q) fun O => Rdr_chTail P t r O
theorem Rdr_chRest (P : List ID) : Rdr (chRest P) :=
  (Rdr_num 1099511627776).bind (g := fun (t : Nat) (q : RSt) => chOps P t (rdNum q 65536).1 (rdNum q 65536).2) fun t => (Rdr_num 65536).bind (g := fun (r : Nat) (q : RSt) => chOps P t r q) fun r => Rdr_chOps P t r
theorem Rdr_ch : Rdr chRd :=
  (Rdr_num 2).bind (g := fun (m : Nat) (q : RSt) => chRest (rdIds m [] q).1 (rdIds m [] q).2) fun m => (Rdr_ids m []).bind (g := fun (P : List ID) (q : RSt) => chRest P q) fun P => Rdr_chRest P
theorem Rdr_lab : Rdr labelRd :=
  Rdr_id.bind (g := fun (d : ID) (q : RSt) => ((⟨d, (rdText q 60).1, (rdText (rdText q 60).2 200).1⟩ : Label), (rdText (rdText q 60).2 200).2)) fun d =>
    (Rdr_text 60).bind (g := fun (n : ByteArray) (q : RSt) => ((⟨d, n, (rdText q 200).1⟩ : Label), (rdText q 200).2)) fun n => (Rdr_text 200).bind (g := fun (m : ByteArray) (q : RSt) => ((⟨d, n, m⟩ : Label), q)) fun m => Rdr.pure _
end Go.Proofs.Ythjdhfoeckfmbaa
/- What was written is read back; a proper beginning, or a byte more, is no object. -/
namespace Go.Proofs.Ythjdhfoeckfmbaa
open Go
set_option linter.unusedVariables false
set_option linter.unusedSimpArgs false
theorem or_add {acc k x : Nat} (h : acc < 2 ^ (7 * k)) : acc ||| x * 2 ^ (7 * k) = acc + x * 2 ^ (7 * k) := by
  have := Nat.two_pow_add_eq_or_of_lt h x
  rw [Nat.or_comm, Nat.mul_comm x, ← this, Nat.add_comm]
theorem byte_small {u : Nat} (h : u < 128) : (UInt8.ofNat u).toNat = u := by
  rw [UInt8.toNat_ofNat']; exact Nat.mod_eq_of_lt (by omega)
theorem and_127 (b : UInt8) : (b &&& 127).toNat = b.toNat % 128 := by
  rw [UInt8.toNat_and]
  exact Nat.and_two_pow_sub_one_eq_mod b.toNat 7
theorem byte_big (u : Nat) : 127 < (UInt8.ofNat u ||| 128).toNat ∧ (UInt8.ofNat u ||| 128).toNat % 128 = u % 128 := by
  have e : (UInt8.ofNat u ||| 128).toNat = u % 256 ||| 128 := by rw [UInt8.toNat_or, UInt8.toNat_ofNat']; rfl
  rw [e]
  refine ⟨?_, ?_⟩
  · have : 128 ≤ u % 256 ||| 128 := Nat.right_le_or
    omega
  · have := Nat.or_mod_two_pow (a := u % 256) (b := 128) (n := 7)
    have h2 : (u % 256 ||| 128) % 2 ^ 7 = u % 256 % 2 ^ 7 ||| 128 % 2 ^ 7 := this
    rw [show (128 : Nat) = 2 ^ 7 from rfl] at *
    rw [h2]
    simp
theorem rdGo {most : Int} : ∀ (f k u acc : Nat) (s : List UInt8), acc < 2 ^ (7 * k) → u < 128 ^ f → 0 < f → (0 < k → 0 < u) → ((acc + u * 2 ^ (7 * k) : Nat) : Int) ≤ most → acc + u * 2 ^ (7 * k) ≤ 4611686018427387904 →
    rdNumGo most f k acc (numGo u ++ s, false) = (acc + u * 2 ^ (7 * k), (s, false))
  | 0, _, _, _, _, _, _, h, _, _, _ => by omega
  | f + 1, k, u, acc, s, ha, hu, _, hk, hm, h62 => by
    by_cases hb : 127 < u
    · rw [numGo_big hb]
      have e1 : rdTake ((UInt8.ofNat u ||| 128) :: numGo (u / 128) ++ s, false) 1 = ([UInt8.ofNat u ||| 128], (numGo (u / 128) ++ s, false)) := by simp [rdTake]
      rw [rdNumGo, e1, if_neg (by simp)]
      have hbb := byte_big u
      have e2 : nth [UInt8.ofNat u ||| 128] 0 = UInt8.ofNat u ||| 128 := rfl
      simp only [e2]
      rw [if_pos hbb.1, and_127, hbb.2, or_add ha]
      have hx : u % 128 < 128 := Nat.mod_lt _ (by decide)
      have hd : u / 128 * 128 + u % 128 = u := by omega
      have hp : 2 ^ (7 * (k + 1)) = 128 * 2 ^ (7 * k) := by rw [show 7 * (k + 1) = 7 + 7 * k from by omega, Nat.pow_add]
      have ht : acc + u % 128 * 2 ^ (7 * k) + u / 128 * 2 ^ (7 * (k + 1)) = acc + u * 2 ^ (7 * k) := by
        rw [hp]
        conv => rhs; rw [← hd]
        rw [Nat.add_mul, Nat.mul_assoc]
        omega
      have hf : 0 < f := by
        rcases Nat.eq_zero_or_pos f with h0 | h0
        · subst h0; simp at hu; omega
        · exact h0
      have := rdGo f (k + 1) (u / 128) (acc + u % 128 * 2 ^ (7 * k)) s (by
          rw [hp]
          have : u % 128 * 2 ^ (7 * k) ≤ 127 * 2 ^ (7 * k) := Nat.mul_le_mul_right _ (by omega)
          omega) (by rw [Nat.pow_succ] at hu; exact Nat.div_lt_of_lt_mul (by omega)) hf (fun _ => by omega) (by rw [ht]; exact hm) (by rw [ht]; exact h62)
      rw [this, ht]
    · rw [numGo_small hb]
      have e1 : rdTake ([UInt8.ofNat u] ++ s, false) 1 = ([UInt8.ofNat u], (s, false)) := by simp [rdTake]
      rw [rdNumGo, e1, if_neg (by simp)]
      have e2 : nth [UInt8.ofNat u] 0 = UInt8.ofNat u := rfl
      simp only [e2]
      have h8 : (UInt8.ofNat u).toNat = u := byte_small (by omega)
      rw [and_127, h8, Nat.mod_eq_of_lt (by omega : u < 128), or_add ha, if_neg hb, if_neg]
      rintro ((h | h) | h)
      · omega
      · omega
      · have := hk h.2; omega
theorem Wr_num {most n : Int} (h0 : 0 ≤ n) (h1 : n ≤ most) (h2 : n ≤ 4611686018427387904) : Wr (fun q => rdNum q most) n.toNat (numB n) := by
  intro s
  have hc : numClamp n = n.toNat := by unfold numClamp; omega
  have := rdGo (most := most) 9 0 n.toNat 0 s (by decide) (by
    have : (4611686018427387904 : Nat) < 128 ^ 9 := by decide
    omega) (by decide) (fun h => absurd h (by decide)) (by simp; omega) (by simp; omega)
  rw [numB, hc]
  show rdNumGo most 9 0 0 _ = _
  rw [this]; simp
theorem Wr_text {most : Int} {x : ByteArray} (h : ((x.size : Nat) : Int) ≤ most) (h2 : x.size ≤ 4611686018427387904) : Wr (fun q => rdText q most) x (textB x) := by
  have h1 := (Wr_num (most := most) (n := ((x.size : Nat) : Int)) (by omega) h (by omega)).bind (g := fun (n : Nat) (q : RSt) => ((⟨(rdTake q n).1.toArray⟩ : ByteArray), (rdTake q n).2)) (y := x) (b2 := x.data.toList)
    ((Wr_take (by rw [size_data']; omega)).bind (g := fun (b : List UInt8) (q : RSt) => ((⟨b.toArray⟩ : ByteArray), q)) (y := x) (b2 := []) (by intro s; simp) |> fun h => by simpa using h)
  exact h1
theorem Wr_id (d : ID) : Wr rdId d (idList d) := by
  intro s
  have := (Wr_take (idList_len d)) s
  show (idPut zeroId (rdTake (idList d ++ s, false) 32).1, (rdTake (idList d ++ s, false) 32).2) = _
  simp only at this
  rw [this]
  have e : idPut zeroId (idList d) = d := by
    apply Vector.ext
    intro i hi
    simp [idPut, idList_eq]
  rw [e]
def stOk (s : Stamp) : Prop := 0 ≤ s.T ∧ s.T ≤ 1099511627776 ∧ 0 ≤ s.R ∧ s.R ≤ 65536
theorem Wr_at {s : Stamp} (h : stOk s) : Wr rdAt s (atB s) := by
  have e : (⟨((s.T.toNat : Nat) : Int), ((s.R.toNat : Nat) : Int)⟩ : Stamp) = s := by
    cases s; simp only [Stamp.mk.injEq]; exact ⟨Int.toNat_of_nonneg h.1, Int.toNat_of_nonneg h.2.2.1⟩
  intro x
  have h1 := Wr_num (most := 1099511627776) h.1 h.2.1 (by have := h.2.1; omega) (numB s.R ++ x)
  have h2 := Wr_num (most := 65536) h.2.2.1 h.2.2.2 (by have := h.2.2.2; omega) x
  simp only at h1 h2
  unfold rdAt atB
  rw [List.append_assoc, h1, h2]
  simp only [e]
theorem Wr_ats : ∀ (l a : List Stamp), (∀ s ∈ l, stOk s) → Wr (rdAts l.length a) (a ++ l) ((l.map atB).flatten)
  | [], a, _ => by intro s; simp [rdAts]
  | x :: l, a, h => by
    intro s
    have h1 := Wr_at (h x (by simp)) ((l.map atB).flatten ++ s)
    have h2 := Wr_ats l (a ++ [x]) (fun y hy => h y (by simp [hy])) s
    simp only [List.length_cons, rdAts, List.map_cons, List.flatten_cons, List.append_assoc]
    rw [h1]
    simpa [List.append_assoc] using h2
theorem Wr_ids : ∀ (l a : List ID), Wr (rdIds l.length a) (a ++ l) ((l.map idList).flatten)
  | [], a => by intro s; simp [rdIds]
  | x :: l, a => by
    intro s
    have h1 := Wr_id x ((l.map idList).flatten ++ s)
    have h2 := Wr_ids l (a ++ [x]) s
    simp only [List.length_cons, rdIds, List.map_cons, List.flatten_cons, List.append_assoc]
    rw [h1]
    simpa [List.append_assoc] using h2
theorem right_ok {s : Stamp} (h : stRight s = true) : stOk s := by
  simp only [stRight, decide_eq_true_eq] at h
  exact ⟨by omega, by omega, by omega, by omega⟩
theorem fixed_ok {s : Stamp} (h : fixedSt s = true) : stOk s := by
  have := of_decide_eq_true h
  exact ⟨by omega, by omega, by omega, by omega⟩
theorem Wr_op {o : OpS} (h : goodOp o = true) : Wr rdOp o.core (opB o) := by
  have hg := of_decide_eq_true h
  have ht := right_ok hg.1
  have hn := right_ok hg.2.1
  have key : Wr opRead o.core (opB o) := by
    intro s
    rw [opRead_eq]
    rcases hg.2.2 with ⟨hk, hm⟩ | ⟨hk, hm⟩
    · have hm := of_decide_eq_true hm
      obtain ⟨_, hp, hnm, hd, ho⟩ := hm
      have hp : stOk o.par := hp.elim right_ok fixed_ok
      have hs : o.name.size ≤ 60 := (of_decide_eq_true hnm).2.1
      have h1 := Wr_num (most := 2) (n := o.kind) (by omega) (by omega) (by omega) (atB o.tm ++ (atB o.node ++ (atB o.par ++ (textB o.name ++ s))))
      have h2 := Wr_at ht (atB o.node ++ (atB o.par ++ (textB o.name ++ s)))
      have h3 := Wr_at hn (atB o.par ++ (textB o.name ++ s))
      have h4 := Wr_at hp (textB o.name ++ s)
      have h5 := Wr_text (most := 60) (x := o.name) (by omega) (by omega) s
      simp only at h1 h5
      rw [opB, if_pos hk, opPre]
      simp only [List.append_assoc]
      unfold opRead' opRest mvRest
      rw [h1]
      simp only [h2, h3]
      rw [if_pos (by omega)]
      simp only [h4, h5]
      refine Prod.ext ?_ rfl
      show (⟨_, _, _, _, _, _, _⟩ : OpC) = ⟨_, _, _, _, _, _, _⟩
      simp only [OpC.mk.injEq]
      refine ⟨by omega, ?_⟩
      simp [hd, List.length_eq_zero_iff.1 ho]
    · have hm := of_decide_eq_true hm
      obtain ⟨_, hp, hnm, hd, hl, ho⟩ := hm
      have hov : ∀ x ∈ o.over, stOk x := by
        intro x hx
        obtain ⟨i, hi, rfl⟩ := List.getElem_of_mem hx
        have := (ho i hi).1
        rw [nth_eq hi] at this
        exact right_ok this
      have h1 := Wr_num (most := 2) (n := o.kind) (by omega) (by omega) (by omega) (atB o.tm ++ (atB o.node ++ (idList o.data ++ (numB ((o.over.length : Nat) : Int) ++ ((o.over.map atB).flatten ++ s)))))
      have h2 := Wr_at ht (atB o.node ++ (idList o.data ++ (numB ((o.over.length : Nat) : Int) ++ ((o.over.map atB).flatten ++ s))))
      have h3 := Wr_at hn (idList o.data ++ (numB ((o.over.length : Nat) : Int) ++ ((o.over.map atB).flatten ++ s)))
      have h4 := Wr_id o.data (numB ((o.over.length : Nat) : Int) ++ ((o.over.map atB).flatten ++ s))
      have h5 := Wr_num (most := 64) (n := ((o.over.length : Nat) : Int)) (by omega) (by omega) (by omega) ((o.over.map atB).flatten ++ s)
      have h6 := Wr_ats o.over [] hov s
      simp only at h1 h5
      rw [Int.toNat_natCast] at h5
      rw [opB, if_neg (by omega), opPre]
      simp only [List.append_assoc]
      unfold opRead' opRest edRest
      rw [h1]
      simp only [h2, h3]
      rw [if_neg (by omega)]
      simp only [h4, h5, h6]
      refine Prod.ext ?_ rfl
      show (⟨_, _, _, _, _, _, _⟩ : OpC) = ⟨_, _, _, _, _, _, _⟩
      simp only [OpC.mk.injEq]
      refine ⟨by omega, ?_⟩
      simp [hp, hnm]
  intro s
  have := key s
  rw [rdOp, this, if_pos ⟨rfl, h⟩]
theorem Wr_ops : ∀ (l : List OpS) (a : List OpC), (∀ o ∈ l, goodOp o = true) → Wr (rdOps l.length a) (a ++ l.map OpS.core) ((l.map putOpB).flatten)
  | [], a, _ => by intro s; simp [rdOps]
  | x :: l, a, h => by
    intro s
    have hx := h x (by simp)
    have h1 := Wr_op hx ((l.map putOpB).flatten ++ s)
    have h2 := Wr_ops l (a ++ [x.core]) (fun y hy => h y (by simp [hy])) s
    have e : putOpB x = opB x := if_pos hx
    simp only [List.length_cons, rdOps, List.map_cons, List.flatten_cons, List.append_assoc, e]
    rw [h1]
    simpa [List.append_assoc] using h2
def chB (c : ChangeS) : List UInt8 := numB ((c.parents.length : Nat) : Int) ++ ((c.parents.map idList).flatten ++ (numB c.time ++ (numB c.r ++ (numB ((c.ops.length : Nat) : Int) ++ ((c.ops.map putOpB).flatten ++ (idList c.tree ++ textB c.msg))))))
theorem changeB_eq (c : ChangeS) : changeB c = 3 :: chB c := by
  unfold changeB opsTo parTo chB
  simp [List.take_length, List.append_assoc]
theorem change_ops {c : ChangeS} (h : changeOk c = true) : ∀ o ∈ c.ops, goodOp o = true := by
  obtain ⟨_, _, _, _, _, _, _, _, h1, _⟩ := of_decide_eq_true h
  intro o ho
  have := List.any_eq_false.1 h1 o ho
  simp only [ownOp, Bool.not_eq_true, Bool.not_eq_false', Bool.and_eq_true] at this
  exact this.1.1
theorem Wr_ch {c : ChangeS} (h : changeOk c = true) : Wr chRd c.core (chB c) := by
  have hops := change_ops h
  obtain ⟨hp, _, _, hst, hm, _, hl, _, _, _⟩ := of_decide_eq_true h
  have hs := right_ok hst
  intro s
  have t8 := Wr_text (most := 200) (x := c.msg) (by omega) (by omega) s
  have t7 := Wr_id c.tree (textB c.msg ++ s)
  have t6 := Wr_ops c.ops [] hops (idList c.tree ++ (textB c.msg ++ s))
  have t5 := Wr_num (most := 64) (n := ((c.ops.length : Nat) : Int)) (by omega) (by omega) (by omega) ((c.ops.map putOpB).flatten ++ (idList c.tree ++ (textB c.msg ++ s)))
  have t4 := Wr_num (most := 65536) (n := c.r) hs.2.2.1 hs.2.2.2 (by have := hs.2.2.2; simp only at this; omega) (numB ((c.ops.length : Nat) : Int) ++ ((c.ops.map putOpB).flatten ++ (idList c.tree ++ (textB c.msg ++ s))))
  have t3 := Wr_num (most := 1099511627776) (n := c.time) hs.1 hs.2.1 (by have := hs.2.1; simp only at this; omega) (numB c.r ++ (numB ((c.ops.length : Nat) : Int) ++ ((c.ops.map putOpB).flatten ++ (idList c.tree ++ (textB c.msg ++ s)))))
  have t2 := Wr_ids c.parents [] (numB c.time ++ (numB c.r ++ (numB ((c.ops.length : Nat) : Int) ++ ((c.ops.map putOpB).flatten ++ (idList c.tree ++ (textB c.msg ++ s))))))
  have t1 := Wr_num (most := 2) (n := ((c.parents.length : Nat) : Int)) (by omega) (by omega) (by omega) ((c.parents.map idList).flatten ++ (numB c.time ++ (numB c.r ++ (numB ((c.ops.length : Nat) : Int) ++ ((c.ops.map putOpB).flatten ++ (idList c.tree ++ (textB c.msg ++ s)))))))
  simp only at t1 t3 t4 t5 t8
  rw [Int.toNat_natCast] at t1 t5
  unfold chB chRd
  simp only [List.append_assoc]
  rw [t1]
  simp only [t2]
  unfold chRest
  rw [t3]
  simp only [t4]
  unfold chOps
  rw [t5]
  simp only [t6]
  unfold chTail
  simp only [t7, t8]
  refine Prod.ext ?_ rfl
  show (⟨_, _, _, _, _, _⟩ : ChangeC) = ⟨_, _, _, _, _, _⟩
  simp only [ChangeC.mk.injEq]
  simp [Int.toNat_of_nonneg (show 0 ≤ c.time from hs.1), Int.toNat_of_nonneg (show 0 ≤ c.r from hs.2.2.1)]
def labB (l : Label) : List UInt8 := idList l.target ++ (textB l.name ++ textB l.msg)
theorem labelB_eq (l : Label) : labelB l = 4 :: labB l := by
  unfold labelB labB
  simp [List.append_assoc]
theorem Wr_lab {l : Label} (h : labelOk l = true) : Wr labelRd l (labB l) := by
  have hs := label_size h
  intro s
  have t1 := Wr_id l.target (textB l.name ++ (textB l.msg ++ s))
  have t2 := Wr_text (most := 60) (x := l.name) (by omega) (by omega) (textB l.msg ++ s)
  have t3 := Wr_text (most := 200) (x := l.msg) (by omega) (by omega) s
  simp only at t2 t3
  unfold labB labelRd
  simp only [List.append_assoc]
  rw [t1]
  simp only [t2, t3]
theorem open_cons (k : UInt8) (l : List UInt8) : openSt (k :: l) k = (l, false) := by
  unfold openSt
  rw [if_neg (by rintro (h | h); cases h; exact h rfl)]
  rfl
/-! ### No other bytes -/
section
variable {α : Type} {f : RSt → α × RSt} {x : α} {b : List UInt8}
theorem not_less (F : Rdr f) (h : Wr f x b) {i : Nat} (hi : i < b.length) : rdDone (f (b.take i, false)).2 = false := by
  cases hd : rdDone (f (b.take i, false)).2 with
  | false => rfl
  | true =>
    simp only [rdDone, Bool.and_eq_true, Bool.not_eq_true', decide_eq_true_eq] at hd
    have h1 := F.more (b.take i) (b.drop i) hd.1
    rw [List.take_append_drop] at h1
    have h2 := h []
    rw [List.append_nil, h1] at h2
    have h3 := congrArg (fun z => z.2.1) h2
    simp only [hd.2, List.nil_append] at h3
    have := congrArg List.length h3
    rw [List.length_drop, List.length_nil] at this
    omega
theorem not_more (h : Wr f x b) : rdDone (f (b ++ [0], false)).2 = false := by
  rw [h [0]]; rfl
end
theorem kind_ch (t : List UInt8) (h : rdDone (chRd (t, false)).2 = false) : kindOf (3 :: t) = 0 := by
  rw [kindOf, if_neg (by simp), if_neg (by show ¬ (3 : Nat) = 1; decide), if_neg (by show ¬ (3 : Nat) = 2; decide), if_pos (show (nth (3 :: t) 0).toNat = 3 from rfl), if_neg]
  rw [changeOf, if_neg]
  · decide
  · rw [changeRd_eq, open_cons, h]; intro hh; cases hh.1
theorem kind_lab (t : List UInt8) (h : rdDone (labelRd (t, false)).2 = false) : kindOf (4 :: t) = 0 := by
  rw [kindOf, if_neg (by simp), if_neg (by show ¬ (4 : Nat) = 1; decide), if_neg (by show ¬ (4 : Nat) = 2; decide), if_neg (by show ¬ (4 : Nat) = 3; decide), if_pos (show (nth (4 :: t) 0).toNat = 4 from rfl), if_neg]
  rw [labelOf, if_neg]
  · decide
  · rw [open_cons, h]; intro hh; cases hh.1
theorem one_ch {c : ChangeS} (h : changeOk c = true) : (∀ i, i < (putChangeB c).length → kindOf ((putChangeB c).take i) = 0) ∧ kindOf (([] ++ putChangeB c) ++ [0]) = 0 ∧ (labelOf (putChangeB c)).2 = 20 ∧ (dirOf (putChangeB c)).2 = 20 ∧ blobE (putChangeB c) = 20 := by
  have e : putChangeB c = 3 :: chB c := by rw [putChangeB, if_pos h, changeB_eq]
  rw [e]
  refine ⟨fun i hi => ?_, ?_, ?_, ?_, ?_⟩
  · cases i with
    | zero => rfl
    | succ i =>
      rw [List.take_succ_cons]
      exact kind_ch _ (not_less Rdr_ch (Wr_ch h) (by simpa using hi))
  · exact kind_ch _ (not_more (Wr_ch h))
  · rw [labelOf, if_neg]
    rintro ⟨hh, _⟩
    have e4 : openSt (3 :: chB c) 4 = ([], true) := rfl
    rw [e4] at hh
    have := Rdr_lab.bad ([], true) rfl
    rw [rdDone, this] at hh
    cases hh
  · rw [dirOf, if_neg]
    rintro ⟨hh, _⟩
    have e4 : dirRd (3 :: chB c) = ([], ([], true)) := rfl
    rw [e4] at hh
    cases hh
  · rw [blobE, if_neg]
    rintro ⟨_, hh, _⟩
    exact absurd hh (by show ¬ (3 : Nat) = 1; decide)
theorem one_lab {l : Label} (h : labelOk l = true) : (∀ i, i < (putLabelB l).length → kindOf ((putLabelB l).take i) = 0) ∧ kindOf (([] ++ putLabelB l) ++ [0]) = 0 := by
  have e : putLabelB l = 4 :: labB l := by rw [putLabelB, if_pos h, labelB_eq]
  rw [e]
  refine ⟨fun i hi => ?_, ?_⟩
  · cases i with
    | zero => rfl
    | succ i =>
      rw [List.take_succ_cons]
      exact kind_lab _ (not_less Rdr_lab (Wr_lab h) (by simpa using hi))
  · exact kind_lab _ (not_more (Wr_lab h))
theorem putChange_ok {c : ChangeS} (h : putChangeE c = 0) : changeOk c = true := by
  unfold putChangeE at h
  split at h
  · assumption
  · omega
theorem putLabel_ok {l : Label} (h : putLabelE l = 0) : labelOk l = true := by
  unfold putLabelE at h
  split at h
  · assumption
  · omega
theorem chB_len {c : ChangeS} (h : changeOk c = true) : 0 < (putChangeB c).length ∧ (putChangeB c).length ≤ 200000 := by
  have e : putChangeB c = changeB c := if_pos h
  have h1 := change_lens h
  have h2 := numB_len ((c.parents.length : Nat) : Int); have h3 := numB_len c.time; have h4 := numB_len c.r; have h5 := numB_len ((c.ops.length : Nat) : Int); have h6 := textB_len c.msg
  have h7 := flat_len putOpB 1400 putOpB_len c.ops; have h8 := flat_len idList 32 (fun _ => by rw [idList_len]; exact Nat.le_refl _) c.parents
  rw [e, changeB_eq]
  unfold chB
  simp only [List.length_cons, List.length_append, idList_len]
  omega
theorem labB_len {l : Label} (h : labelOk l = true) : 0 < (putLabelB l).length ∧ (putLabelB l).length ≤ 200000 := by
  have e : putLabelB l = labelB l := if_pos h
  have h1 := label_size h
  have h2 := textB_len l.name; have h3 := textB_len l.msg
  rw [e, labelB_eq]
  unfold labB
  simp only [List.length_cons, List.length_append, idList_len]
  omega
end Go.Proofs.Ythjdhfoeckfmbaa
namespace Go.Proofs.Ythjdhfoeckfmbaa
open Go
set_option maxRecDepth 100000
set_option linter.unusedVariables false
set_option linter.unusedSimpArgs false
set_option linter.unusedSectionVars false
theorem law04_ObjOne_c5 : callable Try.prog 5 = true := by kernel_rfl
theorem law04_ObjOne_c6 : callable Try.prog 6 = true := by kernel_rfl
theorem law04_ObjOne_c7 : callable Try.prog 7 = true := by kernel_rfl
theorem law04_ObjOne_c8 : callable Try.prog 8 = true := by kernel_rfl
theorem law04_ObjOne_c9 : callable Try.prog 9 = true := by kernel_rfl
theorem law04_ObjOne_c10 : callable Try.prog 10 = true := by kernel_rfl
theorem law04_ObjOne_c11 : callable Try.prog 11 = true := by kernel_rfl
set_option maxHeartbeats 4000000 in
theorem law04_ObjOne (c : ChangeS) (l : Label) (n : Int) (w : World) (Sc_parents : Sl (Old w) idCh 32 c.ph c.parents w) (Sc_ops : Sl (Old w) opCh 41 c.oh c.ops w) (Dc_over : ∀ x ∈ c.ops, Sl (Old w) stampCh 2 x.oh x.over w) :
    Calls Try.prog 3 #[(aggOf (changeCh c)), (aggOf (labelCh l)), (.int .i64 n)] w (Ret fun v w' => v = (.bool true) ∧ Ext w w') := by
 refine calls_W Try.func3 rfl Try.ntmps3 rfl ?_
 have H0 := Ctx.start w nob
 have H1 := H0.addSl _ Sc_parents (fun b hb => ⟨hb, fun _ ho => (nomatch ho)⟩)
 have LSc_parents := Sc_parents.len
 have H2 := H1.addSl _ Sc_ops (fun b hb => ⟨hb, fun _ ho => (nomatch ho)⟩)
 have LSc_ops := Sc_ops.len
 have H3 := H2.addImm' (deepI (Old w) stampCh 2 (fun x : OpS => x.oh) (fun x : OpS => x.over) c.ops) Dc_over (fun b hb => ⟨hb, fun _ ho => (nomatch ho)⟩)
 refine W_seq (W_reg ?_)
 refine O_v rfl (C_box H3 [[(slV c.ph c.parents)], [(.int .i64 c.time)], [(.int .i64 c.r)], [(slV c.oh c.ops)], (idCells c.tree), [(.string c.msg)]] rfl ?_)
 intro b4 w5 hb6 hx7 H8
 refine O_v rfl (C_box H8 [(idCells l.target), [(.string l.name)], [(.string l.msg)]] rfl ?_)
 intro b9 w10 hb11 hx12 H13
 refine O_v rfl (R_assign (v := (.bool false)) rfl ?_)
 refine O_nil (Then_n (W_seq (W_seq (W_reg ?_))))
 refine O_v rfl (R_callL (vs := []) law04_ObjOne_c5 rfl rfl ((law04_alive  w10 ).ret ?_))
 rintro _ w14 ⟨rfl, hx15⟩
 have H16 := H13.ext hx15
 refine O_v rfl (R_not rfl ?_)
 refine O_nil (Then_n ?_)
 refine W_cond_f rfl ?_
 refine W_skip (Then_n (W_seq (W_reg ?_)))
 refine O_v rfl (R_loadA (cs := [[(slV c.ph c.parents)], [(.int .i64 c.time)], [(.int .i64 c.r)], [(slV c.oh c.ops)], (idCells c.tree), [(.string c.msg)]]) Try.isAgg27 Try.sizeOf27 rfl rfl ((boxR_at (H16.getOwn 1 rfl)).chunks 0 6 0 0 _ rfl rfl rfl) ?_)
 refine O_v rfl (R_callL (vs := [(aggOf (changeCh c))]) law04_ObjOne_c6 rfl rfl ((obj_PutChange c w14 (H16.slOld 2 rfl) (H16.slOld 1 rfl) (H16.deepOld 0 rfl)).ret ?_))
 rintro _ w18 ⟨h17, rfl, hx19, ho20⟩
 have H21 := H16.addRow hx19 ho20
 refine O_v rfl (R_move (v := (.tuple #[(slV h17 (putChangeB c)), (.int .i64 (putChangeE c))])) rfl ?_)
 refine O_v rfl (R_extract (v := (slV h17 (putChangeB c))) rfl rfl ?_)
 refine O_v rfl (R_extract (v := (.int .i64 (putChangeE c))) rfl rfl ?_)
 refine O_v rfl (R_assign (v := (slV h17 (putChangeB c))) rfl ?_)
 refine O_v rfl (R_assign (v := (.int .i64 (putChangeE c))) rfl ?_)
 refine O_nil (Then_n (W_seq (W_reg ?_)))
 refine O_v rfl (R_loadA (cs := [(idCells l.target), [(.string l.name)], [(.string l.msg)]]) Try.isAgg29 Try.sizeOf29 rfl rfl ((boxR_at (H21.getOwn 1 rfl)).chunks 0 3 0 0 _ rfl rfl rfl) ?_)
 refine O_v rfl (R_callL (vs := [(aggOf (labelCh l))]) law04_ObjOne_c7 rfl rfl ((obj_PutLabel l w18 ).ret ?_))
 rintro _ w23 ⟨h22, rfl, hx24, ho25⟩
 have H26 := H21.addRow hx24 ho25
 refine O_v rfl (R_move (v := (.tuple #[(slV h22 (putLabelB l)), (.int .i64 (putLabelE l))])) rfl ?_)
 refine O_v rfl (R_extract (v := (slV h22 (putLabelB l))) rfl rfl ?_)
 refine O_v rfl (R_extract (v := (.int .i64 (putLabelE l))) rfl rfl ?_)
 refine O_v rfl (R_assign (v := (slV h22 (putLabelB l))) rfl ?_)
 refine O_v rfl (R_assign (v := (.int .i64 (putLabelE l))) rfl ?_)
 refine O_nil (Then_n (W_seq (W_seq (W_reg ?_))))
 refine O_v rfl (R_move (v := (.int .i64 (putChangeE c))) rfl ?_)
 refine O_v rfl (R_cmp (a := putChangeE c) (b := 0) (r := (decide (putChangeE c = 0))) rfl rfl rfl ?_)
 refine O_nil (Then_n ?_)
 refine W_cond (t := (decide (putChangeE c = 0))) rfl (fun hc27 => ?_) (fun hc27 => ?_)
 ·have hc27 : (putChangeE c = 0) := (of_decide_eq_true hc27)
  have hC := putChange_ok hc27
  obtain ⟨hc1, hc2, hc3, hc4, hc5⟩ := one_ch hC
  obtain ⟨hcp, hcl⟩ := chB_len hC
  have hcm := Nat.mod_lt (landM n) hcp
  refine W_seq (W_reg ?_)
  refine O_v rfl (R_move (v := (.int .i64 n)) rfl ?_)
  refine O_v rfl (R_bits (k := .i64) (a := n) (b := 1048575) (r := (((landM n) : Nat) : Int)) rfl rfl (bit_and20 _) ?_)
  refine O_v rfl (R_move (v := (slV h17 (putChangeB c))) rfl ?_)
  refine O_v rfl (R_len_slice (a := h17.a) (n := (putChangeB c).length) (c := h17.c) Try.underlying31 rfl ?_)
  refine O_v rfl (R_rem (a := (((landM n) : Nat) : Int)) (b := (((putChangeB c).length : Nat) : Int)) (r := ((((landM n) % (putChangeB c).length) : Nat) : Int)) rfl rfl (by omega) (tmod_nat _ _) ?_)
  refine O_v rfl (R_assign (v := (.int .i64 ((((landM n) % (putChangeB c).length) : Nat) : Int))) rfl ?_)
  refine O_nil (Then_n (W_seq (W_seq (W_reg ?_))))
  refine O_v rfl (R_move (v := (slV h17 (putChangeB c))) rfl ?_)
  refine O_v rfl (R_move (v := (.int .i64 ((((landM n) % (putChangeB c).length) : Nat) : Int))) rfl ?_)
  refine O_v rfl (R_sliceS (h := h17) (l := putChangeB c) (a := 0) (b := ((landM n) % (putChangeB c).length)) (m := h17.c) ((putChangeB c).take ((landM n) % (putChangeB c).length)) Try.underlying31 Try.sizeOf5 rfl rfl rfl rfl (by decide) (by omega) (by first | omega | exact Nat.le_refl _) (by have := Sl.cap (OwnS.sl (H26.getOwn 1 rfl) (fun _ => rfl)); omega) (by first | omega | exact Nat.le_refl _ | (have := Sl.cap (OwnS.sl (H26.getOwn 1 rfl) (fun _ => rfl)); omega)) rfl  ?_)
  refine O_k rfl (.int .i64 (kindOf ((putChangeB c).take ((landM n) % (putChangeB c).length)))) (R_callL (vs := [(slV (hSub h17 1 0 h17.c) ((putChangeB c).take ((landM n) % (putChangeB c).length)))]) law04_ObjOne_c8 rfl rfl (obj_Kind (hSub h17 1 0 h17.c) ((putChangeB c).take ((landM n) % (putChangeB c).length)) w23 (Sl.sub (H26.rowSl 1 rfl (fun _ => rfl)) 0 ((landM n) % (putChangeB c).length) h17.c (by omega) (by first | omega | exact Nat.le_refl _) (by have := Sl.cap (OwnS.sl (H26.getOwn 1 rfl) (fun _ => rfl)); omega) (by first | omega | exact Nat.le_refl _ | (have := Sl.cap (OwnS.sl (H26.getOwn 1 rfl) (fun _ => rfl)); omega)) rfl) (by simp only [List.length_take, List.length_append, List.length_cons, List.length_nil]; omega))) (fun w28 hx29 => ?_)
  have H30 := H26.ext hx29
  refine O_k rfl (.bool false) (R_cmp (a := kindOf ((putChangeB c).take ((landM n) % (putChangeB c).length))) (b := 0) (r := (!(decide (kindOf ((putChangeB c).take ((landM n) % (putChangeB c).length)) = 0)))) rfl rfl rfl ⟨(congrArg Value.bool (by rw [hc1 _ hcm]; decide)), Gr.refl _ _⟩) (fun w31 hx32 => ?_)
  have H33 := H30.ext hx32
  refine O_v rfl (R_move (v := (.bool false)) rfl ?_)
  refine O_vT rfl rfl rfl rfl (C_buildSliceL H33 (enc := encB) (val := byteV) ([] : List UInt8) Try.underlying31 Try.sizeOf5 Try.zeroValue5 rfl (by decide) (fun _ => rfl) (fun _ => rfl) rfl rfl (by decide) ?_)
  intro b34 w35 hb36 hx37 H38
  refine O_vT rfl rfl rfl rfl (R_move (v := (slV h17 (putChangeB c))) rfl ?_)
  refine O_vT rfl rfl rfl rfl (C_append H38 0 rfl (bytes := 1) (l := ([] : List UInt8)) (ys := (putChangeB c)) Try.underlying31 rfl rfl rfl rfl rfl (by decide) rfl rfl (OwnS.sl (H38.getOwn 2 rfl) (fun _ => rfl)) (fun _ => rfl) (fun _ => rfl) (by simp only [List.length_append, List.length_cons, List.length_nil]; omega) (by decide) ?_)
  intro h39 w40 hg41 H42
  refine O_vT rfl rfl rfl rfl (C_buildSliceL H42 (enc := encB) (val := byteV) ([0] : List UInt8) Try.underlying31 Try.sizeOf5 Try.zeroValue5 rfl (by decide) (fun _ => rfl) (fun _ => rfl) rfl rfl (by decide) ?_)
  intro b43 w44 hb45 hx46 H47
  refine O_vT rfl rfl rfl rfl (C_append H47 1 rfl (bytes := 1) (l := (([] : List UInt8) ++ (putChangeB c))) (ys := ([0] : List UInt8)) Try.underlying31 rfl rfl rfl rfl rfl (by decide) rfl rfl (OwnS.sl (H47.getOwn 0 rfl) (fun _ => rfl)) (fun _ => rfl) (fun _ => rfl) (by simp only [List.length_append, List.length_cons, List.length_nil]; omega) (by decide) ?_)
  intro h48 w49 hg50 H51
  refine O_kT rfl rfl rfl rfl (.int .i64 (kindOf ((([] : List UInt8) ++ (putChangeB c)) ++ ([0] : List UInt8)))) (R_callL (vs := [(slV h48 ((([] : List UInt8) ++ (putChangeB c)) ++ ([0] : List UInt8)))]) law04_ObjOne_c8 rfl rfl (obj_Kind h48 ((([] : List UInt8) ++ (putChangeB c)) ++ ([0] : List UInt8)) w49 (H51.rowSl 1 rfl (fun _ => rfl)) (by simp only [List.length_take, List.length_append, List.length_cons, List.length_nil]; omega))) (fun w52 hx53 => ?_)
  have H54 := H51.ext hx53
  refine O_kT rfl rfl rfl rfl (.bool false) (R_cmp (a := kindOf ((([] : List UInt8) ++ (putChangeB c)) ++ ([0] : List UInt8))) (b := 0) (r := (!(decide (kindOf ((([] : List UInt8) ++ (putChangeB c)) ++ ([0] : List UInt8)) = 0)))) rfl rfl rfl ⟨(congrArg Value.bool (by rw [hc2]; decide)), Gr.refl _ _⟩) (fun w55 hx56 => ?_)
  have H57 := H54.ext hx56
  refine O_v rfl (R_pick (t := false) (v := (.bool false)) rfl rfl ?_)
  refine O_nil (Then_n ?_)
  refine W_cond_f rfl ?_
  refine W_skip (Then_n (W_seq (W_reg ?_)))
  refine O_v rfl (R_move (v := (slV h17 (putChangeB c))) rfl ?_)
  refine O_v rfl (R_callL (vs := [(slV h17 (putChangeB c))]) law04_ObjOne_c9 rfl rfl ((obj_Label h17 (putChangeB c) w55 (H57.rowSl 3 rfl (fun _ => rfl)) (by omega)).ret ?_))
  rintro _ w58 ⟨rfl, hx59⟩
  have H60 := H57.ext hx59
  refine O_v rfl (R_move (v := (.tuple #[(aggOf (labelCh ((labelOf (putChangeB c)).1))), (.int .i64 ((labelOf (putChangeB c)).2))])) rfl ?_)
  refine O_v rfl (R_extract (v := (aggOf (labelCh ((labelOf (putChangeB c)).1)))) rfl rfl ?_)
  refine O_v rfl (R_extract (v := (.int .i64 ((labelOf (putChangeB c)).2))) rfl rfl ?_)
  refine O_v rfl (C_alloc H60 [(idCells zeroId), [(.string ByteArray.empty)], [(.string ByteArray.empty)]] Try.zeroValue29 ?_)
  intro b61 w62 hb63 hx64 H65
  refine O_u (C_storeA H65 0 rfl 0 (sub := [(idCells (((labelOf (putChangeB c)).1).target)), [(.string (((labelOf (putChangeB c)).1).name))], [(.string (((labelOf (putChangeB c)).1).msg))]]) [(idCells (((labelOf (putChangeB c)).1).target)), [(.string (((labelOf (putChangeB c)).1).name))], [(.string (((labelOf (putChangeB c)).1).msg))]] Try.sizeOf29 rfl rfl rfl rfl ⟨[(idCells zeroId), [(.string ByteArray.empty)], [(.string ByteArray.empty)]], [], rfl, rfl, rfl⟩ rfl ?_)
  intro w66 hg67 H68
  refine O_v rfl (R_assign (v := (.int .i64 ((labelOf (putChangeB c)).2))) rfl ?_)
  refine O_nil (Then_n (W_seq (W_reg ?_)))
  refine O_v rfl (R_move (v := (slV h17 (putChangeB c))) rfl ?_)
  refine O_v rfl (R_callL (vs := [(slV h17 (putChangeB c))]) law04_ObjOne_c10 rfl rfl ((obj_Dir h17 (putChangeB c) w66 (H68.rowSl 4 rfl (fun _ => rfl)) (by omega)).ret ?_))
  rintro _ w72 ⟨h69, l70, S71, e79, rfl, hx73, ho74, hS75, hd76, hr77⟩
  have H78 := H68.addRowDeep (h := fun x : ItemS => x.hh) (f := fun x : ItemS => x.heads) hx73 ho74 hS75 hd76
  refine O_v rfl (R_move (v := (.tuple #[(slV h69 l70), (.int .i64 e79)])) rfl ?_)
  refine O_v rfl (R_extract (v := (slV h69 l70)) rfl rfl ?_)
  refine O_v rfl (R_extract (v := (.int .i64 e79)) rfl rfl ?_)
  refine O_v rfl (R_assign (v := (slV h69 l70)) rfl ?_)
  refine O_v rfl (R_assign (v := (.int .i64 e79)) rfl ?_)
  refine O_nil (Then_n (W_seq (W_reg ?_)))
  refine O_v rfl (R_move (v := (slV h17 (putChangeB c))) rfl ?_)
  refine O_v rfl (R_callL (vs := [(slV h17 (putChangeB c))]) law04_ObjOne_c11 rfl rfl ((obj_Blob h17 (putChangeB c) w72 (H78.rowSl 5 rfl (fun _ => rfl))).ret ?_))
  rintro _ w81 ⟨h80, rfl, hx82, ho83⟩
  have H84 := H78.addRow hx82 ho83
  refine O_v rfl (R_move (v := (.tuple #[(slV h80 (blobB (putChangeB c))), (.int .i64 (blobE (putChangeB c)))])) rfl ?_)
  refine O_v rfl (R_extract (v := (slV h80 (blobB (putChangeB c)))) rfl rfl ?_)
  refine O_v rfl (R_extract (v := (.int .i64 (blobE (putChangeB c)))) rfl rfl ?_)
  refine O_v rfl (R_assign (v := (slV h80 (blobB (putChangeB c)))) rfl ?_)
  refine O_v rfl (R_assign (v := (.int .i64 (blobE (putChangeB c)))) rfl ?_)
  refine O_nil (Then_n (W_seq (W_reg ?_)))
  refine O_v rfl (R_move (v := (.int .i64 ((labelOf (putChangeB c)).2))) rfl ?_)
  refine O_k rfl (.bool false) (R_cmp (a := (labelOf (putChangeB c)).2) (b := 20) (r := (!(decide ((labelOf (putChangeB c)).2 = 20)))) rfl rfl rfl ⟨(congrArg Value.bool (by rw [hc3]; decide)), Gr.refl _ _⟩) (fun w85 hx86 => ?_)
  have H87 := H84.ext hx86
  refine O_v rfl (R_move (v := (.bool false)) rfl ?_)
  refine O_vT rfl rfl rfl rfl (R_move (v := (.int .i64 e79)) rfl ?_)
  refine O_kT rfl rfl rfl rfl (.bool false) (R_cmp (a := e79) (b := 20) (r := (!(decide (e79 = 20)))) rfl rfl rfl ⟨(congrArg Value.bool (by rw [show e79 = 20 from (congrArg Prod.snd hr77).trans hc4]; decide)), Gr.refl _ _⟩) (fun w88 hx89 => ?_)
  have H90 := H87.ext hx89
  refine O_v rfl (R_pick (t := false) (v := (.bool false)) rfl rfl ?_)
  refine O_v rfl (R_move (v := (.bool false)) rfl ?_)
  refine O_vT rfl rfl rfl rfl (R_move (v := (.int .i64 (blobE (putChangeB c)))) rfl ?_)
  refine O_kT rfl rfl rfl rfl (.bool false) (R_cmp (a := blobE (putChangeB c)) (b := 20) (r := (!(decide (blobE (putChangeB c) = 20)))) rfl rfl rfl ⟨(congrArg Value.bool (by rw [hc5]; decide)), Gr.refl _ _⟩) (fun w91 hx92 => ?_)
  have H93 := H90.ext hx92
  refine O_v rfl (R_pick (t := false) (v := (.bool false)) rfl rfl ?_)
  refine O_nil (Then_n ?_)
  refine W_cond_f rfl ?_
  refine W_skip (Then_n (W_seq (W_seq (W_reg ?_))))
  refine O_v rfl (R_move (v := (.int .i64 (putLabelE l))) rfl ?_)
  refine O_v rfl (R_cmp (a := putLabelE l) (b := 0) (r := (decide (putLabelE l = 0))) rfl rfl rfl ?_)
  refine O_nil (Then_n ?_)
  refine W_cond (t := (decide (putLabelE l = 0))) rfl (fun hc94 => ?_) (fun hc94 => ?_)
  ·have hc94 : (putLabelE l = 0) := (of_decide_eq_true hc94)
   have hLb := putLabel_ok hc94
   obtain ⟨hl1, hl2⟩ := one_lab hLb
   obtain ⟨hlp, hll⟩ := labB_len hLb
   have hlm := Nat.mod_lt (landM n) hlp
   refine W_seq (W_reg ?_)
   refine O_v rfl (R_move (v := (.int .i64 n)) rfl ?_)
   refine O_v rfl (R_bits (k := .i64) (a := n) (b := 1048575) (r := (((landM n) : Nat) : Int)) rfl rfl (bit_and20 _) ?_)
   refine O_v rfl (R_move (v := (slV h22 (putLabelB l))) rfl ?_)
   refine O_v rfl (R_len_slice (a := h22.a) (n := (putLabelB l).length) (c := h22.c) Try.underlying31 rfl ?_)
   refine O_v rfl (R_rem (a := (((landM n) : Nat) : Int)) (b := (((putLabelB l).length : Nat) : Int)) (r := ((((landM n) % (putLabelB l).length) : Nat) : Int)) rfl rfl (by omega) (tmod_nat _ _) ?_)
   refine O_v rfl (R_assign (v := (.int .i64 ((((landM n) % (putLabelB l).length) : Nat) : Int))) rfl ?_)
   refine O_nil (Then_n (W_seq (W_reg ?_)))
   refine O_v rfl (R_move (v := (slV h22 (putLabelB l))) rfl ?_)
   refine O_v rfl (R_move (v := (.int .i64 ((((landM n) % (putLabelB l).length) : Nat) : Int))) rfl ?_)
   refine O_v rfl (R_sliceS (h := h22) (l := putLabelB l) (a := 0) (b := ((landM n) % (putLabelB l).length)) (m := h22.c) ((putLabelB l).take ((landM n) % (putLabelB l).length)) Try.underlying31 Try.sizeOf5 rfl rfl rfl rfl (by decide) (by omega) (by first | omega | exact Nat.le_refl _) (by have := Sl.cap (OwnS.sl (H93.getOwn 5 rfl) (fun _ => rfl)); omega) (by first | omega | exact Nat.le_refl _ | (have := Sl.cap (OwnS.sl (H93.getOwn 5 rfl) (fun _ => rfl)); omega)) rfl  ?_)
   refine O_k rfl (.int .i64 (kindOf ((putLabelB l).take ((landM n) % (putLabelB l).length)))) (R_callL (vs := [(slV (hSub h22 1 0 h22.c) ((putLabelB l).take ((landM n) % (putLabelB l).length)))]) law04_ObjOne_c8 rfl rfl (obj_Kind (hSub h22 1 0 h22.c) ((putLabelB l).take ((landM n) % (putLabelB l).length)) w91 (Sl.sub (H93.rowSl 5 rfl (fun _ => rfl)) 0 ((landM n) % (putLabelB l).length) h22.c (by omega) (by first | omega | exact Nat.le_refl _) (by have := Sl.cap (OwnS.sl (H93.getOwn 5 rfl) (fun _ => rfl)); omega) (by first | omega | exact Nat.le_refl _ | (have := Sl.cap (OwnS.sl (H93.getOwn 5 rfl) (fun _ => rfl)); omega)) rfl) (by simp only [List.length_take, List.length_append, List.length_cons, List.length_nil]; omega))) (fun w95 hx96 => ?_)
   have H97 := H93.ext hx96
   refine O_k rfl (.bool true) (R_cmp (a := kindOf ((putLabelB l).take ((landM n) % (putLabelB l).length))) (b := 0) (r := (decide (kindOf ((putLabelB l).take ((landM n) % (putLabelB l).length)) = 0))) rfl rfl rfl ⟨(boolK (decide_eq_true (hl1 _ hlm))), Gr.refl _ _⟩) (fun w98 hx99 => ?_)
   have H100 := H97.ext hx99
   refine O_v rfl (R_move (v := (.bool true)) rfl ?_)
   refine O_vT rfl rfl rfl rfl (C_buildSliceL H100 (enc := encB) (val := byteV) ([] : List UInt8) Try.underlying31 Try.sizeOf5 Try.zeroValue5 rfl (by decide) (fun _ => rfl) (fun _ => rfl) rfl rfl (by decide) ?_)
   intro b101 w102 hb103 hx104 H105
   refine O_vT rfl rfl rfl rfl (R_move (v := (slV h22 (putLabelB l))) rfl ?_)
   refine O_vT rfl rfl rfl rfl (C_append H105 0 rfl (bytes := 1) (l := ([] : List UInt8)) (ys := (putLabelB l)) Try.underlying31 rfl rfl rfl rfl rfl (by decide) rfl rfl (OwnS.sl (H105.getOwn 6 rfl) (fun _ => rfl)) (fun _ => rfl) (fun _ => rfl) (by simp only [List.length_append, List.length_cons, List.length_nil]; omega) (by decide) ?_)
   intro h106 w107 hg108 H109
   refine O_vT rfl rfl rfl rfl (C_buildSliceL H109 (enc := encB) (val := byteV) ([0] : List UInt8) Try.underlying31 Try.sizeOf5 Try.zeroValue5 rfl (by decide) (fun _ => rfl) (fun _ => rfl) rfl rfl (by decide) ?_)
   intro b110 w111 hb112 hx113 H114
   refine O_vT rfl rfl rfl rfl (C_append H114 1 rfl (bytes := 1) (l := (([] : List UInt8) ++ (putLabelB l))) (ys := ([0] : List UInt8)) Try.underlying31 rfl rfl rfl rfl rfl (by decide) rfl rfl (OwnS.sl (H114.getOwn 0 rfl) (fun _ => rfl)) (fun _ => rfl) (fun _ => rfl) (by simp only [List.length_append, List.length_cons, List.length_nil]; omega) (by decide) ?_)
   intro h115 w116 hg117 H118
   refine O_kT rfl rfl rfl rfl (.int .i64 (kindOf ((([] : List UInt8) ++ (putLabelB l)) ++ ([0] : List UInt8)))) (R_callL (vs := [(slV h115 ((([] : List UInt8) ++ (putLabelB l)) ++ ([0] : List UInt8)))]) law04_ObjOne_c8 rfl rfl (obj_Kind h115 ((([] : List UInt8) ++ (putLabelB l)) ++ ([0] : List UInt8)) w116 (H118.rowSl 1 rfl (fun _ => rfl)) (by simp only [List.length_take, List.length_append, List.length_cons, List.length_nil]; omega))) (fun w119 hx120 => ?_)
   have H121 := H118.ext hx120
   refine O_kT rfl rfl rfl rfl (.bool true) (R_cmp (a := kindOf ((([] : List UInt8) ++ (putLabelB l)) ++ ([0] : List UInt8))) (b := 0) (r := (decide (kindOf ((([] : List UInt8) ++ (putLabelB l)) ++ ([0] : List UInt8)) = 0))) rfl rfl rfl ⟨(boolK (decide_eq_true hl2)), Gr.refl _ _⟩) (fun w122 hx123 => ?_)
   have H124 := H121.ext hx123
   refine O_v rfl (R_pick (t := true) (v := (.bool true)) rfl rfl ?_)
   refine O_v rfl (R_assign (v := (.bool true)) rfl ?_)
   refine O_nil (Then_n (W_ret (Then_r ?_)))
   refine ret_1 (v := (.bool true)) Try.results3 rfl ?_
   exact ⟨rfl, H124.gr⟩
  ·have hc94 : ¬ (putLabelE l = 0) := (of_decide_eq_false hc94)
   refine W_skip (Then_n (W_seq (W_reg ?_)))
   refine O_v rfl (R_assign (v := (.bool true)) rfl ?_)
   refine O_nil (Then_n (W_ret ?_))
   refine ret_1 (v := (.bool true)) Try.results3 rfl ?_
   exact ⟨rfl, H93.gr⟩
 ·have hc27 : ¬ (putChangeE c = 0) := (of_decide_eq_false hc27)
  refine W_skip (Then_n (W_seq (W_seq (W_reg ?_))))
  refine O_v rfl (R_move (v := (.int .i64 (putLabelE l))) rfl ?_)
  refine O_v rfl (R_cmp (a := putLabelE l) (b := 0) (r := (decide (putLabelE l = 0))) rfl rfl rfl ?_)
  refine O_nil (Then_n ?_)
  refine W_cond (t := (decide (putLabelE l = 0))) rfl (fun hc125 => ?_) (fun hc125 => ?_)
  ·have hc125 : (putLabelE l = 0) := (of_decide_eq_true hc125)
   have hLb := putLabel_ok hc125
   obtain ⟨hl1, hl2⟩ := one_lab hLb
   obtain ⟨hlp, hll⟩ := labB_len hLb
   have hlm := Nat.mod_lt (landM n) hlp
   refine W_seq (W_reg ?_)
   refine O_v rfl (R_move (v := (.int .i64 n)) rfl ?_)
   refine O_v rfl (R_bits (k := .i64) (a := n) (b := 1048575) (r := (((landM n) : Nat) : Int)) rfl rfl (bit_and20 _) ?_)
   refine O_v rfl (R_move (v := (slV h22 (putLabelB l))) rfl ?_)
   refine O_v rfl (R_len_slice (a := h22.a) (n := (putLabelB l).length) (c := h22.c) Try.underlying31 rfl ?_)
   refine O_v rfl (R_rem (a := (((landM n) : Nat) : Int)) (b := (((putLabelB l).length : Nat) : Int)) (r := ((((landM n) % (putLabelB l).length) : Nat) : Int)) rfl rfl (by omega) (tmod_nat _ _) ?_)
   refine O_v rfl (R_assign (v := (.int .i64 ((((landM n) % (putLabelB l).length) : Nat) : Int))) rfl ?_)
   refine O_nil (Then_n (W_seq (W_reg ?_)))
   refine O_v rfl (R_move (v := (slV h22 (putLabelB l))) rfl ?_)
   refine O_v rfl (R_move (v := (.int .i64 ((((landM n) % (putLabelB l).length) : Nat) : Int))) rfl ?_)
   refine O_v rfl (R_sliceS (h := h22) (l := putLabelB l) (a := 0) (b := ((landM n) % (putLabelB l).length)) (m := h22.c) ((putLabelB l).take ((landM n) % (putLabelB l).length)) Try.underlying31 Try.sizeOf5 rfl rfl rfl rfl (by decide) (by omega) (by first | omega | exact Nat.le_refl _) (by have := Sl.cap (OwnS.sl (H26.getOwn 0 rfl) (fun _ => rfl)); omega) (by first | omega | exact Nat.le_refl _ | (have := Sl.cap (OwnS.sl (H26.getOwn 0 rfl) (fun _ => rfl)); omega)) rfl  ?_)
   refine O_k rfl (.int .i64 (kindOf ((putLabelB l).take ((landM n) % (putLabelB l).length)))) (R_callL (vs := [(slV (hSub h22 1 0 h22.c) ((putLabelB l).take ((landM n) % (putLabelB l).length)))]) law04_ObjOne_c8 rfl rfl (obj_Kind (hSub h22 1 0 h22.c) ((putLabelB l).take ((landM n) % (putLabelB l).length)) w23 (Sl.sub (H26.rowSl 0 rfl (fun _ => rfl)) 0 ((landM n) % (putLabelB l).length) h22.c (by omega) (by first | omega | exact Nat.le_refl _) (by have := Sl.cap (OwnS.sl (H26.getOwn 0 rfl) (fun _ => rfl)); omega) (by first | omega | exact Nat.le_refl _ | (have := Sl.cap (OwnS.sl (H26.getOwn 0 rfl) (fun _ => rfl)); omega)) rfl) (by simp only [List.length_take, List.length_append, List.length_cons, List.length_nil]; omega))) (fun w126 hx127 => ?_)
   have H128 := H26.ext hx127
   refine O_k rfl (.bool true) (R_cmp (a := kindOf ((putLabelB l).take ((landM n) % (putLabelB l).length))) (b := 0) (r := (decide (kindOf ((putLabelB l).take ((landM n) % (putLabelB l).length)) = 0))) rfl rfl rfl ⟨(boolK (decide_eq_true (hl1 _ hlm))), Gr.refl _ _⟩) (fun w129 hx130 => ?_)
   have H131 := H128.ext hx130
   refine O_v rfl (R_move (v := (.bool true)) rfl ?_)
   refine O_vT rfl rfl rfl rfl (C_buildSliceL H131 (enc := encB) (val := byteV) ([] : List UInt8) Try.underlying31 Try.sizeOf5 Try.zeroValue5 rfl (by decide) (fun _ => rfl) (fun _ => rfl) rfl rfl (by decide) ?_)
   intro b132 w133 hb134 hx135 H136
   refine O_vT rfl rfl rfl rfl (R_move (v := (slV h22 (putLabelB l))) rfl ?_)
   refine O_vT rfl rfl rfl rfl (C_append H136 0 rfl (bytes := 1) (l := ([] : List UInt8)) (ys := (putLabelB l)) Try.underlying31 rfl rfl rfl rfl rfl (by decide) rfl rfl (OwnS.sl (H136.getOwn 1 rfl) (fun _ => rfl)) (fun _ => rfl) (fun _ => rfl) (by simp only [List.length_append, List.length_cons, List.length_nil]; omega) (by decide) ?_)
   intro h137 w138 hg139 H140
   refine O_vT rfl rfl rfl rfl (C_buildSliceL H140 (enc := encB) (val := byteV) ([0] : List UInt8) Try.underlying31 Try.sizeOf5 Try.zeroValue5 rfl (by decide) (fun _ => rfl) (fun _ => rfl) rfl rfl (by decide) ?_)
   intro b141 w142 hb143 hx144 H145
   refine O_vT rfl rfl rfl rfl (C_append H145 1 rfl (bytes := 1) (l := (([] : List UInt8) ++ (putLabelB l))) (ys := ([0] : List UInt8)) Try.underlying31 rfl rfl rfl rfl rfl (by decide) rfl rfl (OwnS.sl (H145.getOwn 0 rfl) (fun _ => rfl)) (fun _ => rfl) (fun _ => rfl) (by simp only [List.length_append, List.length_cons, List.length_nil]; omega) (by decide) ?_)
   intro h146 w147 hg148 H149
   refine O_kT rfl rfl rfl rfl (.int .i64 (kindOf ((([] : List UInt8) ++ (putLabelB l)) ++ ([0] : List UInt8)))) (R_callL (vs := [(slV h146 ((([] : List UInt8) ++ (putLabelB l)) ++ ([0] : List UInt8)))]) law04_ObjOne_c8 rfl rfl (obj_Kind h146 ((([] : List UInt8) ++ (putLabelB l)) ++ ([0] : List UInt8)) w147 (H149.rowSl 1 rfl (fun _ => rfl)) (by simp only [List.length_take, List.length_append, List.length_cons, List.length_nil]; omega))) (fun w150 hx151 => ?_)
   have H152 := H149.ext hx151
   refine O_kT rfl rfl rfl rfl (.bool true) (R_cmp (a := kindOf ((([] : List UInt8) ++ (putLabelB l)) ++ ([0] : List UInt8))) (b := 0) (r := (decide (kindOf ((([] : List UInt8) ++ (putLabelB l)) ++ ([0] : List UInt8)) = 0))) rfl rfl rfl ⟨(boolK (decide_eq_true hl2)), Gr.refl _ _⟩) (fun w153 hx154 => ?_)
   have H155 := H152.ext hx154
   refine O_v rfl (R_pick (t := true) (v := (.bool true)) rfl rfl ?_)
   refine O_v rfl (R_assign (v := (.bool true)) rfl ?_)
   refine O_nil (Then_n (W_ret (Then_r ?_)))
   refine ret_1 (v := (.bool true)) Try.results3 rfl ?_
   exact ⟨rfl, H155.gr⟩
  ·have hc125 : ¬ (putLabelE l = 0) := (of_decide_eq_false hc125)
   refine W_skip (Then_n (W_seq (W_reg ?_)))
   refine O_v rfl (R_assign (v := (.bool true)) rfl ?_)
   refine O_nil (Then_n (W_ret ?_))
   refine ret_1 (v := (.bool true)) Try.results3 rfl ?_
   exact ⟨rfl, H26.gr⟩

end Go.Proofs.Ythjdhfoeckfmbaa
