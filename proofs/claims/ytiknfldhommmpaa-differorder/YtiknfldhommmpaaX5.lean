/- Proved: for every input, pollardlaw14.DifferOrder returns true and leaves its arguments as they were. No condition. -/
import Derived.Test.YtiknfldhommmpaaProg
import Derived.Shelf.Strings.Builder1
import Derived.Shelf.Strings.Builder2
import Derived.Test.YtiknfldhommmpaaX4
namespace Go.Proofs.Ytiknfldhommmpaa
open Go
set_option maxRecDepth 100000
set_option linter.unusedVariables false
set_option linter.unusedSimpArgs false
theorem differ_Diff_c34 : callable Try.prog 34 = true := by kernel_rfl
theorem differ_Diff_c35 : callable Try.prog 35 = true := by kernel_rfl
theorem differ_Diff_c36 : callable Try.prog 36 = true := by kernel_rfl
theorem differ_Diff_c37 : callable Try.prog 37 = true := by kernel_rfl
set_option maxHeartbeats 1000000 in
theorem differ_Diff (ha : SlH) (a : List RowS) (hb : SlH) (b : List RowS) (at_ : Stamp) (w : World) (Sa : Sl (Old w) rowCh 8 ha a w) (Da_heads : ∀ x ∈ a, Sl (Old w) headCh 34 x.hh x.heads w) (Sb : Sl (Old w) rowCh 8 hb b w) (Db_heads : ∀ x ∈ b, Sl (Old w) headCh 34 x.hh x.heads w) (hha : ∀ x ∈ a, x.heads.length * 48 ≤ 140737488355328) (hhb : ∀ x ∈ b, x.heads.length * 48 ≤ 140737488355328) :
    Calls Try.prog 14 #[(slV ha a), (slV hb b), (aggOf (stampCh at_))] w (Ret fun v w' => ∃ (h : SlH) (l : List OpS) (S : Nat → Prop) (e : Int), v = .tuple #[slV h l, (.int .i64 e)] ∧ Ext w w' ∧ OwnS w.heap.size 39 41 opCh h l w' ∧ (∀ b, S b → w.heap.size ≤ b ∧ b < w'.heap.size ∧ (slV h l).ownBlock ≠ some b) ∧ (∀ x ∈ l, Sl S stampCh 2 x.oh x.over w') ∧ (DiffRel a b at_ (l.map OpS.core) e)) := by
 refine calls_W Try.func14 rfl Try.ntmps14 rfl ?_
 have H0 := Ctx.start w nob
 have H1 := H0.addSl _ Sa (fun b hb => ⟨hb, fun _ ho => (nomatch ho)⟩)
 have LSa := Sa.len
 have H2 := H1.addImm' (deepI (Old w) headCh 34 (fun x : RowS => x.hh) (fun x : RowS => x.heads) a) Da_heads (fun b hb => ⟨hb, fun _ ho => (nomatch ho)⟩)
 have H3 := H2.addSl _ Sb (fun b hb => ⟨hb, fun _ ho => (nomatch ho)⟩)
 have LSb := Sb.len
 have H4 := H3.addImm' (deepI (Old w) headCh 34 (fun x : RowS => x.hh) (fun x : RowS => x.heads) b) Db_heads (fun b hb => ⟨hb, fun _ ho => (nomatch ho)⟩)
 refine W_seq (W_reg ?_)
 refine O_v rfl (C_box H4 [[(.int .i64 at_.T)], [(.int .i64 at_.R)]] rfl ?_)
 intro b5 w6 hb7 hx8 H9
 refine O_v rfl (R_assign (v := (.slice none 0 0)) rfl ?_)
 refine O_v rfl (R_assign (v := (.int .i64 0)) rfl ?_)
 refine O_nil (Then_n (W_seq (W_seq ?_)))
 refine W_rg [(0, .q false), (1, .q false), (2, .q false), (3, .q false), (4, .q false), (5, .q false), (6, .q false), (7, .q false)] (by kernel_rfl) ?_
 refine Lx_q (i := 0) rfl rfl _ (fun v10 hv11 => R_move (v := (slV ha a)) rfl ⟨rfl, Gr.refl _ _⟩) ?_
 refine Lx_q (i := 1) rfl rfl (.bool (snapOk a)) (fun v12 hv13 => R_callL (vs := [(slV ha a)]) differ_Diff_c34 rfl rfl (snap_Right ha a v12 ((H9.ext hv13).slOld 3 rfl) ((H9.ext hv13).deepOld 2 rfl) hha)) ?_
 refine Lx_q (i := 2) rfl rfl _ (fun v14 hv15 => R_not rfl ⟨rfl, Gr.refl _ _⟩) ?_
 refine Lx_q (i := 3) rfl rfl _ (fun v16 hv17 => R_move (v := (.bool (!(snapOk a)))) rfl ⟨rfl, Gr.refl _ _⟩) ?_
 refine Lx_qg (i := 4) true (!(snapOk a)) rfl rfl rfl rfl rfl (!(!(snapOk a))) ga_f _ (fun hA v18 hv19 => R_move (v := (slV hb b)) rfl ⟨rfl, Gr.refl _ _⟩) ?_
 refine Lx_qg (i := 5) true (!(snapOk a)) rfl rfl rfl rfl rfl (!(!(snapOk a))) ga_f (.bool (snapOk b)) (fun hA v20 hv21 => R_callL (vs := [(slV hb b)]) differ_Diff_c34 rfl (lst1 (gv_t hA)) (snap_Right hb b v20 ((H9.ext hv21).slOld 1 rfl) ((H9.ext hv21).deepOld 0 rfl) hhb)) ?_
 refine Lx_qg (i := 6) true (!(snapOk a)) rfl rfl rfl rfl rfl (!(!(snapOk a))) ga_f _ (fun hA v22 hv23 => R_not (gv_t hA) ⟨rfl, Gr.refl _ _⟩) ?_
 refine Lx_q (i := 7) rfl rfl _ (fun v24 hv25 => R_pick (t := (!(snapOk a))) (v := (.bool ((!(snapOk a)) || (!(snapOk b))))) rfl pk_or ⟨rfl, Gr.refl _ _⟩) ?_
 refine Lx_nil (fun w26 hw27 => ?_)
 have H28 := H9.ext hw27
 refine Then_n ?_
 refine W_cond (t := ((!(snapOk a)) || (!(snapOk b)))) rfl (fun hc29 => ?_) (fun hc29 => ?_)
 ·have hc29 : ((snapOk a) = false ∨ (snapOk b) = false) := (Or.imp (fun h => (notT h)) (fun h => (notT h)) (orT hc29))
  refine W_seq (W_reg ?_)
  refine O_v rfl (R_assign (v := (.slice none 0 0)) rfl ?_)
  refine O_v rfl (R_assign (v := (.int .i64 130)) rfl ?_)
  refine O_nil (Then_n (W_ret (Then_r ?_)))
  refine ret_2 (v := (.slice none 0 0)) (v' := (.int .i64 130)) Try.results14 rfl rfl ?_
  have H30 := H28.addNil 39 41 opCh
  have H31 := H30.deepNil stampCh 2 (fun x : OpS => x.oh) (fun x : OpS => x.over)
  exact ⟨nilH, ([] : List OpS), nob, 130, rfl, H31.gr, H31.retRow 0 rfl, H31.retDeep 0 rfl 0 rfl (fun _ h => h.elim), H31.getImm 0 rfl, (diff_tree (by assumption))⟩
 ·have hc29 : ((snapOk a) = true ∧ (snapOk b) = true) := (And.imp (fun h => (notF h)) (fun h => (notF h)) (orF hc29))
  refine W_skip (Then_n (W_seq (W_seq (W_reg ?_))))
  refine O_v rfl (R_loadA (cs := [[(.int .i64 at_.T)], [(.int .i64 at_.R)]]) Try.isAgg24 Try.sizeOf24 rfl rfl ((boxR_at (H28.getOwn 0 rfl)).chunks 0 2 0 0 _ rfl rfl rfl) ?_)
  refine O_v rfl (R_callL (vs := [(aggOf (stampCh at_))]) differ_Diff_c35 rfl rfl ((stamp_Right at_ w26 ).ret ?_))
  rintro _ w32 ⟨rfl, hx33⟩
  have H34 := H28.ext hx33
  refine O_v rfl (R_not rfl ?_)
  refine O_nil (Then_n ?_)
  refine W_cond (t := (!(stRight at_))) rfl (fun hc35 => ?_) (fun hc35 => ?_)
  ·have hc35 : (stRight at_) = false := (notT hc35)
   refine W_seq (W_reg ?_)
   refine O_v rfl (R_assign (v := (.slice none 0 0)) rfl ?_)
   refine O_v rfl (R_assign (v := (.int .i64 1)) rfl ?_)
   refine O_nil (Then_n (W_ret (Then_r ?_)))
   refine ret_2 (v := (.slice none 0 0)) (v' := (.int .i64 1)) Try.results14 rfl rfl ?_
   have H36 := H34.addNil 39 41 opCh
   have H37 := H36.deepNil stampCh 2 (fun x : OpS => x.oh) (fun x : OpS => x.over)
   exact ⟨nilH, ([] : List OpS), nob, 1, rfl, H37.gr, H37.retRow 0 rfl, H37.retDeep 0 rfl 0 rfl (fun _ h => h.elim), H37.getImm 0 rfl, (diff_time (by assumption) (by assumption))⟩
  ·have hc35 : (stRight at_) = true := (notF hc35)
   refine W_skip (Then_n (W_seq (W_reg ?_)))
   refine O_v rfl (R_loadA (cs := [[(.int .i64 at_.T)], [(.int .i64 at_.R)]]) Try.isAgg24 Try.sizeOf24 rfl rfl ((boxR_at (H34.getOwn 0 rfl)).chunks 0 2 0 0 _ rfl rfl rfl) ?_)
   refine O_v rfl (R_buildL (vs := [(0, (aggOf (stampCh at_)))]) (v := aggOf [[(.int .i64 at_.T)], [(.int .i64 at_.R)], [(.slice none 0 0)], [(.bool false)]]) rfl (fun _ => by kernel_rfl) ?_)
   refine O_v rfl (C_box H34 [[(.int .i64 at_.T)], [(.int .i64 at_.R)], [(.slice none 0 0)], [(.bool false)]] rfl ?_)
   intro b38 w39 hb40 hx41 H42
   refine O_v rfl (R_assign (v := (.pointer (some ⟨b38, 0, none⟩))) rfl ?_)
   refine O_nil (Then_n (W_seq (W_reg ?_)))
   refine O_v rfl (R_move (v := (.pointer (some ⟨b38, 0, none⟩))) rfl ?_)
   refine O_v rfl (R_move (v := (slV ha a)) rfl ?_)
   refine O_v rfl (R_move (v := (slV hb b)) rfl ?_)
   have H43 := H42.addNil 39 41 opCh
   have H44 := H43.deepNil stampCh 2 (fun x : OpS => x.oh) (fun x : OpS => x.over)
   refine O_v rfl (R_callL (vs := [(.pointer (some ⟨b38, 0, none⟩)), (slV ha a), (slV hb b)]) differ_Diff_c36 rfl rfl ((maker_moves b38 ({ at_ := at_, ops := ([] : List OpS), oh := nilH, bad := false } : MakerS) nob ha a hb b w39 ((H44.pick (B' := [boxR b38 71 [[(.int .i64 at_.T)], [(.int .i64 at_.R)], [(slV nilH ([] : List OpS))], [(.bool false)]], rowR 39 41 opCh nilH ([] : List OpS)]) (I' := [deepI nob stampCh 2 (fun x : OpS => x.oh) (fun x : OpS => x.over) ([] : List OpS)]) [1, 0] (by decide) rfl (List.forall_mem_cons.2 ⟨List.mem_of_getElem? (i := 0) rfl, fun _ h => (nomatch h)⟩)).objStart) (Old w) (H44.objFree 1 0 rfl rfl 4 rfl) (H44.sl 4 rfl) (Old w) (H44.objFree 1 0 rfl rfl 2 rfl) (H44.sl 2 rfl) (snap_len (by assumption : snapOk a = true ∧ snapOk b = true)).1 (snap_len (by assumption : snapOk a = true ∧ snapOk b = true)).2 (snap_dep ((by assumption : snapOk a = true ∧ snapOk b = true)).2) (st_T (s := at_) (by assumption)) (Nat.zero_le _)).ret ?_))
   rintro _ w47 ⟨m45, S46, rfl, hg48, hQ49, hk50, hS51, hr52⟩
   have H53 := H44.obj2 1 0 (by decide) rfl rfl rfl (fun _ h => h) hg48 hQ49 rfl hk50 (fun c hc => (hS51 c hc).elim (fun h => .inl ⟨_, List.mem_of_getElem? (i := 0) rfl, h⟩) .inr)
   refine O_nil (Then_n (W_seq (W_reg ?_)))
   refine O_v rfl (R_move (v := (.pointer (some ⟨b38, 0, none⟩))) rfl ?_)
   refine O_v rfl (R_move (v := (slV ha a)) rfl ?_)
   refine O_v rfl (R_move (v := (slV hb b)) rfl ?_)
   refine O_v rfl (R_callL (vs := [(.pointer (some ⟨b38, 0, none⟩)), (slV ha a), (slV hb b)]) differ_Diff_c37 rfl rfl ((maker_edits b38 m45 S46 ha a hb b w47 ((H53.pick (B' := [boxR b38 71 [[(.int .i64 m45.at_.T)], [(.int .i64 m45.at_.R)], [(slV m45.oh m45.ops)], [(.bool m45.bad)]], rowR 39 41 opCh m45.oh m45.ops]) (I' := [deepI S46 stampCh 2 (fun x : OpS => x.oh) (fun x : OpS => x.over) m45.ops]) [1, 0] (by decide) rfl (List.forall_mem_cons.2 ⟨List.mem_of_getElem? (i := 0) rfl, fun _ h => (nomatch h)⟩)).objStart) (Old w) (H53.objFree 1 0 rfl rfl 5 rfl) (H53.sl 5 rfl) (H53.getImm 4 rfl) (Old w) (H53.objFree 1 0 rfl rfl 3 rfl) (H53.sl 3 rfl) (H53.getImm 2 rfl) (snap_len (by assumption : snapOk a = true ∧ snapOk b = true)).2 (snap_heads ((by assumption : snapOk a = true ∧ snapOk b = true)).1) (moves_room (m0 := { at_ := at_, ops := [], oh := nilH, bad := false }) (by assumption : snapOk a = true ∧ snapOk b = true) (by assumption) rfl hr52).1 (moves_room (m0 := { at_ := at_, ops := [], oh := nilH, bad := false }) (by assumption : snapOk a = true ∧ snapOk b = true) (by assumption) rfl hr52).2).ret ?_))
   rintro _ w56 ⟨m54, S55, rfl, hg57, hQ58, hk59, hS60, hr61⟩
   have H62 := H53.obj2 1 0 (by decide) rfl rfl rfl (fun _ h => h) hg57 hQ58 rfl hk59 (fun c hc => (hS60 c hc).elim (fun h => .inl ⟨_, List.mem_of_getElem? (i := 0) rfl, h⟩) .inr)
   refine O_v rfl (R_assign (v := (.bool (editsOne a b))) rfl ?_)
   refine O_nil (Then_n (W_seq (W_block (W_seq (W_reg ?_)))))
   refine O_v rfl (R_move (v := (.pointer (some ⟨b38, 0, none⟩))) rfl ?_)
   refine O_v rfl (R_nilCheck rfl ?_)
   refine O_v rfl (R_fieldAddr (off := 3) (oo := 3) Try.underlying71 rfl rfl Try.sizeOf4 rfl rfl ?_)
   refine O_v rfl (R_load1 (v := (.bool m54.bad)) Try.isAgg4 rfl ((boxR_at (H62.getOwn 1 rfl)).chunks 3 1 3 3 _ rfl rfl rfl) ?_)
   refine O_v rfl (R_assign (v := (.bool m54.bad)) rfl ?_)
   refine O_nil (Then_n ?_)
   refine W_cond (t := m54.bad) rfl (fun hc63 => ?_) (fun hc63 => ?_)
   ·have hc63 : m54.bad = true := hc63
    refine W_seq (W_reg ?_)
    refine O_v rfl (R_assign (v := (.slice none 0 0)) rfl ?_)
    refine O_v rfl (R_assign (v := (.int .i64 1)) rfl ?_)
    refine O_nil (Then_n (W_ret (Blk_r (Then_r ?_))))
    refine ret_2 (v := (.slice none 0 0)) (v' := (.int .i64 1)) Try.results14 rfl rfl ?_
    have H64 := H62.addNil 39 41 opCh
    have H65 := H64.deepNil stampCh 2 (fun x : OpS => x.oh) (fun x : OpS => x.over)
    exact ⟨nilH, ([] : List OpS), nob, 1, rfl, H65.gr, H65.retRow 0 rfl, H65.retDeep 0 rfl 0 rfl (fun _ h => h.elim), H65.getImm 0 rfl, (diff_bad (m0 := { at_ := at_, ops := [], oh := nilH, bad := false }) rfl hr52 hr61 (by assumption) (by assumption) (by assumption))⟩
   ·have hc63 : m54.bad = false := hc63
    refine W_seq ?_
    refine W_rg [(0, .q false), (1, .q false), (2, .q false), (3, .q false), (4, .q false), (5, .q false), (6, .q false), (7, .q false), (8, .q false), (9, .q false), (10, .q false)] (by kernel_rfl) ?_
    refine Lx_q (i := 0) rfl rfl _ (fun v66 hv67 => R_move (v := (.bool (editsOne a b))) rfl ⟨rfl, Gr.refl _ _⟩) ?_
    refine Lx_q (i := 1) rfl rfl _ (fun v68 hv69 => R_not rfl ⟨rfl, Gr.refl _ _⟩) ?_
    refine Lx_q (i := 2) rfl rfl _ (fun v70 hv71 => R_move (v := (.bool (!(editsOne a b)))) rfl ⟨rfl, Gr.refl _ _⟩) ?_
    refine Lx_qg (i := 3) true (!(editsOne a b)) rfl rfl rfl rfl rfl (!(!(editsOne a b))) ga_f _ (fun hA v72 hv73 => R_move (v := (.pointer (some ⟨b38, 0, none⟩))) rfl ⟨rfl, Gr.refl _ _⟩) ?_
    refine Lx_qg (i := 4) true (!(editsOne a b)) rfl rfl rfl rfl rfl (!(!(editsOne a b))) ga_f _ (fun hA v74 hv75 => R_nilCheck (gv_t hA) ⟨rfl, Gr.refl _ _⟩) ?_
    refine Lx_qg (i := 5) true (!(editsOne a b)) rfl rfl rfl rfl rfl (!(!(editsOne a b))) ga_f _ (fun hA v76 hv77 => R_fieldAddr (off := 2) (oo := 2) Try.underlying71 rfl rfl Try.sizeOf31 (gv_t hA) rfl ⟨rfl, Gr.refl _ _⟩) ?_
    refine Lx_qg (i := 6) true (!(editsOne a b)) rfl rfl rfl rfl rfl (!(!(editsOne a b))) ga_f _ (fun hA v78 hv79 => R_load1 (v := (slV m54.oh m54.ops)) Try.isAgg31 (gv_t hA) ((boxR_at ((H62.ext hv79).getOwn 1 rfl)).chunks 2 1 2 2 _ rfl rfl rfl) ⟨rfl, Gr.refl _ _⟩) ?_
    refine Lx_qg (i := 7) true (!(editsOne a b)) rfl rfl rfl rfl rfl (!(!(editsOne a b))) ga_f _ (fun hA v80 hv81 => R_len_slice (a := m54.oh.a) (n := m54.ops.length) (c := m54.oh.c) Try.underlying31 (gv_t hA) ⟨rfl, Gr.refl _ _⟩) ?_
    refine Lx_qg (i := 8) true (!(editsOne a b)) rfl rfl rfl rfl rfl (!(!(editsOne a b))) ga_f _ (fun hA v82 hv83 => R_cmp (a := ((m54.ops.length : Nat) : Int)) (b := 64) (r := (decide (64 < ((m54.ops.length : Nat) : Int)))) (gv_t hA) rfl rfl ⟨rfl, Gr.refl _ _⟩) ?_
    refine Lx_q (i := 9) rfl rfl _ (fun v84 hv85 => R_pick (t := (!(editsOne a b))) (v := (.bool ((!(editsOne a b)) || (decide (64 < ((m54.ops.length : Nat) : Int)))))) rfl pk_or ⟨rfl, Gr.refl _ _⟩) ?_
    refine Lx_q (i := 10) rfl rfl _ (fun v86 hv87 => R_assign (v := (.bool ((!(editsOne a b)) || (decide (64 < ((m54.ops.length : Nat) : Int)))))) rfl ⟨rfl, Gr.refl _ _⟩) ?_
    refine Lx_nil (fun w88 hw89 => ?_)
    have H90 := H62.ext hw89
    refine Then_n ?_
    refine W_cond (t := ((!(editsOne a b)) || (decide (64 < ((m54.ops.length : Nat) : Int))))) rfl (fun hc91 => ?_) (fun hc91 => ?_)
    ·have hc91 : ((editsOne a b) = false ∨ (64 < ((m54.ops.length : Nat) : Int))) := (Or.imp (fun h => (notT h)) (fun h => (of_decide_eq_true h)) (orT hc91))
     refine W_seq (W_reg ?_)
     refine O_v rfl (R_assign (v := (.slice none 0 0)) rfl ?_)
     refine O_v rfl (R_assign (v := (.int .i64 3)) rfl ?_)
     refine O_nil (Then_n (W_ret (Blk_r (Then_r ?_))))
     refine ret_2 (v := (.slice none 0 0)) (v' := (.int .i64 3)) Try.results14 rfl rfl ?_
     have H92 := H90.addNil 39 41 opCh
     have H93 := H92.deepNil stampCh 2 (fun x : OpS => x.oh) (fun x : OpS => x.over)
     exact ⟨nilH, ([] : List OpS), nob, 3, rfl, H93.gr, H93.retRow 0 rfl, H93.retDeep 0 rfl 0 rfl (fun _ h => h.elim), H93.getImm 0 rfl, (diff_many (m0 := { at_ := at_, ops := [], oh := nilH, bad := false }) rfl hr52 hr61 (by assumption) (by assumption) (by assumption) (by assumption))⟩
    ·have hc91 : ((editsOne a b) = true ∧ ¬ (64 < ((m54.ops.length : Nat) : Int))) := (And.imp (fun h => (notF h)) (fun h => (of_decide_eq_false h)) (orF hc91))
     refine W_skip (Blk_n (Then_n (W_seq (W_reg ?_))))
     refine O_v rfl (R_move (v := (.pointer (some ⟨b38, 0, none⟩))) rfl ?_)
     refine O_v rfl (R_nilCheck rfl ?_)
     refine O_v rfl (R_fieldAddr (off := 2) (oo := 2) Try.underlying71 rfl rfl Try.sizeOf31 rfl rfl ?_)
     refine O_v rfl (R_load1 (v := (slV m54.oh m54.ops)) Try.isAgg31 rfl ((boxR_at (H90.getOwn 1 rfl)).chunks 2 1 2 2 _ rfl rfl rfl) ?_)
     refine O_v rfl (R_assign (v := (slV m54.oh m54.ops)) rfl ?_)
     refine O_v rfl (R_assign (v := (.int .i64 0)) rfl ?_)
     refine O_nil (Then_n (W_ret ?_))
     refine ret_2 (v := (slV m54.oh m54.ops)) (v' := (.int .i64 0)) Try.results14 rfl rfl ?_
     exact ⟨m54.oh, m54.ops, S55, 0, rfl, H90.gr, H90.retRow 0 rfl, H90.retDeep 0 rfl 0 rfl (fun c hc => (hS60 c hc).elim (fun h => (hS51 c h).elim (fun h => h.elim) (Nat.le_trans H44.gr.size)) (Nat.le_trans H53.gr.size)), H90.getImm 0 rfl, (diff_ok (m0 := { at_ := at_, ops := [], oh := nilH, bad := false }) rfl hr52 hr61 (by assumption) (by assumption) (by assumption) (by assumption))⟩

end Go.Proofs.Ytiknfldhommmpaa
namespace Go.Proofs.Ytiknfldhommmpaa
open Go
set_option maxRecDepth 100000
set_option linter.unusedVariables false
set_option linter.unusedSimpArgs false
set_option maxHeartbeats 1000000 in
theorem EqualFunc_Row (ha : SlH) (a : List RowS) (hb : SlH) (b : List RowS) (keq : FuncId) (ceq : Array Value) (f : RowS → RowS → Bool) (w : World) (Sa : Sl (Old w) rowCh 8 ha a w) (Sb : Sl (Old w) rowCh 8 hb b w) (Keq : callable Try.prog keq = true) (Ceq : ∀ x ∈ a, ∀ y ∈ b, ∀ w1, Ext w w1 → Calls Try.prog keq (#[rowV x, rowV y] ++ ceq) w1 (Ret fun v w2 => v = .bool (f x y) ∧ Ext w1 w2)) :
    Calls Try.prog 28 #[(slV ha a), (slV hb b), (.func (.func keq) #[] ceq)] w (Ret fun v w' => v = (.bool (eqBy f a b)) ∧ Ext w w') := by
 refine calls_W Try.func28 rfl Try.ntmps28 rfl ?_
 have H0 := Ctx.start w nob
 have H1 := H0.addSl _ Sa (fun b hb => ⟨hb, fun _ ho => (nomatch ho)⟩)
 have LSa := Sa.len
 have H2 := H1.addSl _ Sb (fun b hb => ⟨hb, fun _ ho => (nomatch ho)⟩)
 have LSb := Sb.len
 refine W_seq (W_reg ?_)
 refine O_v rfl (R_assign (v := (.bool false)) rfl ?_)
 refine O_nil (Then_n (W_seq (W_seq (W_reg ?_))))
 refine O_v rfl (R_move (v := (slV ha a)) rfl ?_)
 refine O_v rfl (R_len_slice (a := ha.a) (n := a.length) (c := ha.c) Try.underlying22 rfl ?_)
 refine O_v rfl (R_move (v := (slV hb b)) rfl ?_)
 refine O_v rfl (R_len_slice (a := hb.a) (n := b.length) (c := hb.c) Try.underlying22 rfl ?_)
 refine O_v rfl (R_cmp (a := ((a.length : Nat) : Int)) (b := ((b.length : Nat) : Int)) (r := (!(decide (((a.length : Nat) : Int) = ((b.length : Nat) : Int))))) rfl rfl rfl ?_)
 refine O_nil (Then_n ?_)
 refine W_cond (t := (!(decide (((a.length : Nat) : Int) = ((b.length : Nat) : Int))))) rfl (fun hc3 => ?_) (fun hc3 => ?_)
 ·have hc3 : ¬ (((a.length : Nat) : Int) = ((b.length : Nat) : Int)) := (of_decide_eq_false (notT hc3))
  refine W_seq (W_reg ?_)
  refine O_v rfl (R_assign (v := (.bool false)) rfl ?_)
  refine O_nil (Then_n (W_ret (Then_r ?_)))
  refine ret_1 (v := (.bool false)) Try.results28 rfl ?_
  exact ⟨(boolF (fun h => by have := h.1; omega)), H2.gr⟩
 ·have hc3 : (((a.length : Nat) : Int) = ((b.length : Nat) : Int)) := (of_decide_eq_true (notF hc3))
  refine W_skip (Then_n (W_seq (W_seq (W_reg ?_))))
  refine O_v rfl (R_move (v := (slV ha a)) rfl ?_)
  refine O_v rfl (R_len_slice (a := ha.a) (n := a.length) (c := ha.c) Try.underlying22 rfl ?_)
  refine O_v rfl (R_move (v := (.int .i64 0)) rfl ?_)
  refine O_nil (Then_n (W_block ?_))
  refine W_loop (fun m4 e5 w6 => ∃ (k : Nat), m4 = a.length - k ∧ (k ≤ a.length) ∧ (∀ i, i < k → f (nth a i) (nth b i) = true) ∧ ∃ eb7, e5 = envL [(1, (slV hb b)), (2, (.func (.func keq) #[] ceq)), (15, (slV ha a)), (16, (.int .i64 ((a.length : Nat) : Int))), (17, (.int .i64 ((k : Nat) : Int)))] eb7 ∧ Ctx w nob w6 [] [slI (Old w) rowCh 8 hb b, slI (Old w) rowCh 8 ha a]) _ ⟨0, rfl, (by omega), (all_zero _), _, envL_self ⟨rfl, rfl, rfl, rfl, rfl, trivial⟩, H2⟩ ?_
  rintro m4 _ w6 ⟨k, rfl, hk, hn, eb7, rfl, H8⟩
  refine W_seq (W_reg ?_)
  refine O_v rfl (R_cmp (a := ((k : Nat) : Int)) (b := ((a.length : Nat) : Int)) (r := (decide (((k : Nat) : Int) < ((a.length : Nat) : Int)))) rfl rfl rfl ?_)
  refine O_nil (Then_n (W_seq ?_))
  refine W_cond (t := (decide (((k : Nat) : Int) < ((a.length : Nat) : Int)))) rfl (fun hc9 => ?_) (fun hc9 => ?_)
  ·have hc9 : (((k : Nat) : Int) < ((a.length : Nat) : Int)) := (of_decide_eq_true hc9)
   refine W_skip (Then_n (W_seq (W_block (W_seq (W_reg ?_)))))
   refine O_v rfl (R_move (v := (.int .i64 ((k : Nat) : Int))) rfl ?_)
   refine O_v rfl (R_index_pure (H8.sl 1 rfl) (n := a.length) rfl (j := ((k : Nat) : Int)) (oo := (ha.o + k * 8)) Try.underlying22 Try.sizeOf44 rfl rfl (by omega) (by omega) rfl ?_)
   refine O_v rfl (R_loadA (cs := [[(.int .i64 (((nth a k).node).T))], [(.int .i64 (((nth a k).node).R))], [(.int .i64 (((nth a k).par).T))], [(.int .i64 (((nth a k).par).R))], [(.int .i64 (((nth a k).tm).T))], [(.int .i64 (((nth a k).tm).R))], [(.string ((nth a k).name))], [(slV ((nth a k).hh) ((nth a k).heads))]]) Try.isAgg44 Try.sizeOf44 rfl rfl ((Sl.elem (H8.sl 1 rfl) (i := k) (by omega) rfl).chunks 0 8 0 (ha.o + k * 8) _ rfl rfl rfl) ?_)
   refine O_v rfl (C_alloc H8 [[(.int .i64 0)], [(.int .i64 0)], [(.int .i64 0)], [(.int .i64 0)], [(.int .i64 0)], [(.int .i64 0)], [(.string ByteArray.empty)], [(.slice none 0 0)]] Try.zeroValue44 ?_)
   intro b10 w11 hb12 hx13 H14
   refine O_v rfl (R_assign (v := (.int .i64 ((k : Nat) : Int))) rfl ?_)
   refine O_u (C_storeA H14 0 rfl 0 (sub := [[(.int .i64 (((nth a k).node).T))], [(.int .i64 (((nth a k).node).R))], [(.int .i64 (((nth a k).par).T))], [(.int .i64 (((nth a k).par).R))], [(.int .i64 (((nth a k).tm).T))], [(.int .i64 (((nth a k).tm).R))], [(.string ((nth a k).name))], [(slV ((nth a k).hh) ((nth a k).heads))]]) [[(.int .i64 (((nth a k).node).T))], [(.int .i64 (((nth a k).node).R))], [(.int .i64 (((nth a k).par).T))], [(.int .i64 (((nth a k).par).R))], [(.int .i64 (((nth a k).tm).T))], [(.int .i64 (((nth a k).tm).R))], [(.string ((nth a k).name))], [(slV ((nth a k).hh) ((nth a k).heads))]] Try.sizeOf44 rfl rfl rfl rfl ⟨[[(.int .i64 0)], [(.int .i64 0)], [(.int .i64 0)], [(.int .i64 0)], [(.int .i64 0)], [(.int .i64 0)], [(.string ByteArray.empty)], [(.slice none 0 0)]], [], rfl, rfl, rfl⟩ rfl ?_)
   intro w15 hg16 H17
   refine O_nil (Then_n (W_seq (W_reg ?_)))
   refine O_v rfl (R_move (v := (slV hb b)) rfl ?_)
   refine O_v rfl (R_move (v := (.int .i64 ((k : Nat) : Int))) rfl ?_)
   refine O_v rfl (R_index_pure (H17.sl 0 rfl) (n := b.length) rfl (j := ((k : Nat) : Int)) (oo := (hb.o + k * 8)) Try.underlying22 Try.sizeOf44 rfl rfl (by omega) (by omega) rfl ?_)
   refine O_v rfl (R_loadA (cs := [[(.int .i64 (((nth b k).node).T))], [(.int .i64 (((nth b k).node).R))], [(.int .i64 (((nth b k).par).T))], [(.int .i64 (((nth b k).par).R))], [(.int .i64 (((nth b k).tm).T))], [(.int .i64 (((nth b k).tm).R))], [(.string ((nth b k).name))], [(slV ((nth b k).hh) ((nth b k).heads))]]) Try.isAgg44 Try.sizeOf44 rfl rfl ((Sl.elem (H17.sl 0 rfl) (i := k) (by omega) rfl).chunks 0 8 0 (hb.o + k * 8) _ rfl rfl rfl) ?_)
   refine O_v rfl (C_alloc H17 [[(.int .i64 0)], [(.int .i64 0)], [(.int .i64 0)], [(.int .i64 0)], [(.int .i64 0)], [(.int .i64 0)], [(.string ByteArray.empty)], [(.slice none 0 0)]] Try.zeroValue44 ?_)
   intro b18 w19 hb20 hx21 H22
   refine O_u (C_storeA H22 0 rfl 0 (sub := [[(.int .i64 (((nth b k).node).T))], [(.int .i64 (((nth b k).node).R))], [(.int .i64 (((nth b k).par).T))], [(.int .i64 (((nth b k).par).R))], [(.int .i64 (((nth b k).tm).T))], [(.int .i64 (((nth b k).tm).R))], [(.string ((nth b k).name))], [(slV ((nth b k).hh) ((nth b k).heads))]]) [[(.int .i64 (((nth b k).node).T))], [(.int .i64 (((nth b k).node).R))], [(.int .i64 (((nth b k).par).T))], [(.int .i64 (((nth b k).par).R))], [(.int .i64 (((nth b k).tm).T))], [(.int .i64 (((nth b k).tm).R))], [(.string ((nth b k).name))], [(slV ((nth b k).hh) ((nth b k).heads))]] Try.sizeOf44 rfl rfl rfl rfl ⟨[[(.int .i64 0)], [(.int .i64 0)], [(.int .i64 0)], [(.int .i64 0)], [(.int .i64 0)], [(.int .i64 0)], [(.string ByteArray.empty)], [(.slice none 0 0)]], [], rfl, rfl, rfl⟩ rfl ?_)
   intro w23 hg24 H25
   refine O_nil (Then_n (W_seq (W_reg ?_)))
   refine O_v rfl (R_move (v := (.func (.func keq) #[] ceq)) rfl ?_)
   refine O_v rfl (R_loadA (cs := [[(.int .i64 (((nth a k).node).T))], [(.int .i64 (((nth a k).node).R))], [(.int .i64 (((nth a k).par).T))], [(.int .i64 (((nth a k).par).R))], [(.int .i64 (((nth a k).tm).T))], [(.int .i64 (((nth a k).tm).R))], [(.string ((nth a k).name))], [(slV ((nth a k).hh) ((nth a k).heads))]]) Try.isAgg44 Try.sizeOf44 rfl rfl ((boxR_at (H25.getOwn 1 rfl)).chunks 0 8 0 0 _ rfl rfl rfl) ?_)
   refine O_v rfl (R_loadA (cs := [[(.int .i64 (((nth b k).node).T))], [(.int .i64 (((nth b k).node).R))], [(.int .i64 (((nth b k).par).T))], [(.int .i64 (((nth b k).par).R))], [(.int .i64 (((nth b k).tm).T))], [(.int .i64 (((nth b k).tm).R))], [(.string ((nth b k).name))], [(slV ((nth b k).hh) ((nth b k).heads))]]) Try.isAgg44 Try.sizeOf44 rfl rfl ((boxR_at (H25.getOwn 0 rfl)).chunks 0 8 0 0 _ rfl rfl rfl) ?_)
   refine O_v rfl (R_callV (vs := [(aggOf (rowCh (nth a k))), (aggOf (rowCh (nth b k)))]) Keq rfl rfl ((Ceq _ (nth_mem (by omega)) _ (nth_mem (by omega)) w23 H25.gr).ret ?_))
   rintro _ w26 ⟨rfl, hx27⟩
   have H28 := H25.ext hx27
   refine O_v rfl (R_not rfl ?_)
   refine O_nil (Then_n ?_)
   refine W_cond (t := (!(f (nth a k) (nth b k)))) rfl (fun hc29 => ?_) (fun hc29 => ?_)
   ·have hc29 : (f (nth a k) (nth b k)) = false := (notT hc29)
    refine W_seq (W_reg ?_)
    refine O_v rfl (R_assign (v := (.bool false)) rfl ?_)
    refine O_nil (Then_n (W_ret (Blk_r (Then_r (Then_r (Blk_r (Then_r ?_)))))))
    refine ret_1 (v := (.bool false)) Try.results28 rfl ?_
    exact ⟨(boolF (fun h => by have h1 := h.2 k (by omega); simp_all)), H28.gr⟩
   ·have hc29 : (f (nth a k) (nth b k)) = true := (notF hc29)
    refine W_skip (Blk_n (Then_n (W_reg ?_)))
    refine O_v rfl (R_arith (a := ((k : Nat) : Int)) (b := 1) (r0 := ((k : Nat) : Int) + 1) (r := ((k + 1 : Nat) : Int)) rfl rfl rfl (wrapN _ (by omega)) ?_)
    refine O_v rfl (R_move (v := (.int .i64 ((k + 1 : Nat) : Int))) rfl ?_)
    refine O_nil (Then_n ?_)
    have H30 := H28.sub (B' := []) (I' := [slI (Old w) rowCh 8 hb b, slI (Old w) rowCh 8 ha a]) (List.Sublist.cons _ (List.Sublist.cons _ List.Sublist.slnil)) (List.forall_mem_cons.2 ⟨List.mem_of_getElem? (i := 0) rfl, List.forall_mem_cons.2 ⟨List.mem_of_getElem? (i := 1) rfl, fun _ h => (nomatch h)⟩⟩)
    refine ⟨_, ?_, (k + 1), rfl, (by omega), (all_succ hn (by assumption)), _, envL_self ⟨rfl, rfl, rfl, rfl, rfl, trivial⟩, H30⟩
    omega
  ·have hc9 : ¬ (((k : Nat) : Int) < ((a.length : Nat) : Int)) := (of_decide_eq_false hc9)
   refine W_exit (Then_x (Then_x (Blk_x (Then_n (W_seq (W_reg ?_))))))
   refine O_v rfl (R_assign (v := (.bool true)) rfl ?_)
   refine O_nil (Then_n (W_ret ?_))
   refine ret_1 (v := (.bool true)) Try.results28 rfl ?_
   exact ⟨(boolT ⟨by omega, by rwa [show a.length = k from by omega]⟩), H8.gr⟩

end Go.Proofs.Ytiknfldhommmpaa
namespace Go.Proofs.Ytiknfldhommmpaa
open Go
set_option maxRecDepth 100000
set_option linter.unusedVariables false
set_option linter.unusedSimpArgs false
theorem differ_Alike_1_c30 : callable Try.prog 30 = true := by kernel_rfl
set_option maxHeartbeats 1000000 in
theorem differ_Alike_1 (x : RowS) (y : RowS) (w : World) (Sx_heads : Sl (Old w) headCh 34 x.hh x.heads w) (Sy_heads : Sl (Old w) headCh 34 y.hh y.heads w) :
    Calls Try.prog 29 #[(aggOf (rowCh x)), (aggOf (rowCh y))] w (Ret fun v w' => v = (.bool (decide (rowD x = rowD y))) ∧ Ext w w') := by
 refine calls_W Try.func29 rfl Try.ntmps29 rfl ?_
 have H0 := Ctx.start w nob
 have H1 := H0.addSl _ Sx_heads (fun b hb => ⟨hb, fun _ ho => (nomatch ho)⟩)
 have LSx_heads := Sx_heads.len
 have H2 := H1.addSl _ Sy_heads (fun b hb => ⟨hb, fun _ ho => (nomatch ho)⟩)
 have LSy_heads := Sy_heads.len
 refine W_seq (W_reg ?_)
 refine O_v rfl (C_box H2 [[(.int .i64 x.node.T)], [(.int .i64 x.node.R)], [(.int .i64 x.par.T)], [(.int .i64 x.par.R)], [(.int .i64 x.tm.T)], [(.int .i64 x.tm.R)], [(.string x.name)], [(slV x.hh x.heads)]] rfl ?_)
 intro b3 w4 hb5 hx6 H7
 refine O_v rfl (C_box H7 [[(.int .i64 y.node.T)], [(.int .i64 y.node.R)], [(.int .i64 y.par.T)], [(.int .i64 y.par.R)], [(.int .i64 y.tm.T)], [(.int .i64 y.tm.R)], [(.string y.name)], [(slV y.hh y.heads)]] rfl ?_)
 intro b8 w9 hb10 hx11 H12
 refine O_v rfl (R_assign (v := (.bool false)) rfl ?_)
 refine O_nil (Then_n (W_seq ?_))
 refine W_rg [(0, .q false), (1, .q false), (2, .q false), (3, .q false), (4, .q false), (5, .q false), (6, .q false), (7, .q false), (8, .q false), (9, .q false), (10, .q false), (11, .q false), (12, .q false), (13, .q false), (14, .q false), (15, .q false), (16, .q false), (17, .q false), (18, .q false), (19, .q false), (20, .q false), (21, .q false), (22, .q false), (23, .q false), (24, .q false)] (by kernel_rfl) ?_
 refine Lx_q (i := 0) rfl rfl _ (fun v13 hv14 => R_fieldAddr (off := 0) (oo := 0) Try.underlying44 rfl rfl Try.sizeOf24 rfl rfl ⟨rfl, Gr.refl _ _⟩) ?_
 refine Lx_q (i := 1) rfl rfl _ (fun v15 hv16 => R_loadA (cs := [[(.int .i64 x.node.T)], [(.int .i64 x.node.R)]]) Try.isAgg24 Try.sizeOf24 rfl rfl ((boxR_at ((H12.ext hv16).getOwn 1 rfl)).chunks 0 2 0 0 _ rfl rfl rfl) ⟨rfl, Gr.refl _ _⟩) ?_
 refine Lx_q (i := 2) rfl rfl _ (fun v17 hv18 => R_fieldAddr (off := 0) (oo := 0) Try.underlying44 rfl rfl Try.sizeOf24 rfl rfl ⟨rfl, Gr.refl _ _⟩) ?_
 refine Lx_q (i := 3) rfl rfl _ (fun v19 hv20 => R_loadA (cs := [[(.int .i64 y.node.T)], [(.int .i64 y.node.R)]]) Try.isAgg24 Try.sizeOf24 rfl rfl ((boxR_at ((H12.ext hv20).getOwn 0 rfl)).chunks 0 2 0 0 _ rfl rfl rfl) ⟨rfl, Gr.refl _ _⟩) ?_
 refine Lx_q (i := 4) rfl rfl _ (fun v21 hv22 => R_eqv (a := x.node) (b := y.node) eqv_Stamp24 rfl Try.eqGuardType24 rfl rfl ⟨rfl, Gr.refl _ _⟩) ?_
 refine Lx_q (i := 5) rfl rfl _ (fun v23 hv24 => R_move (v := (.bool (decide (x.node = y.node)))) rfl ⟨rfl, Gr.refl _ _⟩) ?_
 refine Lx_qg (i := 6) true (decide (x.node = y.node)) rfl rfl rfl rfl rfl (decide (x.node = y.node)) ga_t _ (fun hA v25 hv26 => R_fieldAddr (off := 2) (oo := 2) Try.underlying44 rfl rfl Try.sizeOf24 rfl rfl ⟨rfl, Gr.refl _ _⟩) ?_
 refine Lx_qg (i := 7) true (decide (x.node = y.node)) rfl rfl rfl rfl rfl (decide (x.node = y.node)) ga_t _ (fun hA v27 hv28 => R_loadA (cs := [[(.int .i64 x.par.T)], [(.int .i64 x.par.R)]]) Try.isAgg24 Try.sizeOf24 rfl (gv_t hA) ((boxR_at ((H12.ext hv28).getOwn 1 rfl)).chunks 2 2 2 2 _ rfl rfl rfl) ⟨rfl, Gr.refl _ _⟩) ?_
 refine Lx_qg (i := 8) true (decide (x.node = y.node)) rfl rfl rfl rfl rfl (decide (x.node = y.node)) ga_t _ (fun hA v29 hv30 => R_fieldAddr (off := 2) (oo := 2) Try.underlying44 rfl rfl Try.sizeOf24 rfl rfl ⟨rfl, Gr.refl _ _⟩) ?_
 refine Lx_qg (i := 9) true (decide (x.node = y.node)) rfl rfl rfl rfl rfl (decide (x.node = y.node)) ga_t _ (fun hA v31 hv32 => R_loadA (cs := [[(.int .i64 y.par.T)], [(.int .i64 y.par.R)]]) Try.isAgg24 Try.sizeOf24 rfl (gv_t hA) ((boxR_at ((H12.ext hv32).getOwn 0 rfl)).chunks 2 2 2 2 _ rfl rfl rfl) ⟨rfl, Gr.refl _ _⟩) ?_
 refine Lx_qg (i := 10) true (decide (x.node = y.node)) rfl rfl rfl rfl rfl (decide (x.node = y.node)) ga_t _ (fun hA v33 hv34 => R_eqv (a := x.par) (b := y.par) eqv_Stamp24 rfl Try.eqGuardType24 (gv_t hA) (gv_t hA) ⟨rfl, Gr.refl _ _⟩) ?_
 refine Lx_q (i := 11) rfl rfl _ (fun v35 hv36 => R_pick (t := (decide (x.node = y.node))) (v := (.bool ((decide (x.node = y.node)) && (decide (x.par = y.par))))) rfl pk_and ⟨rfl, Gr.refl _ _⟩) ?_
 refine Lx_q (i := 12) rfl rfl _ (fun v37 hv38 => R_move (v := (.bool ((decide (x.node = y.node)) && (decide (x.par = y.par))))) rfl ⟨rfl, Gr.refl _ _⟩) ?_
 refine Lx_qg (i := 13) true ((decide (x.node = y.node)) && (decide (x.par = y.par))) rfl rfl rfl rfl rfl ((decide (x.node = y.node)) && (decide (x.par = y.par))) ga_t _ (fun hA v39 hv40 => R_fieldAddr (off := 6) (oo := 6) Try.underlying44 rfl rfl Try.sizeOf9 rfl rfl ⟨rfl, Gr.refl _ _⟩) ?_
 refine Lx_qg (i := 14) true ((decide (x.node = y.node)) && (decide (x.par = y.par))) rfl rfl rfl rfl rfl ((decide (x.node = y.node)) && (decide (x.par = y.par))) ga_t _ (fun hA v41 hv42 => R_load1 (v := (.string x.name)) Try.isAgg9 (gv_t hA) ((boxR_at ((H12.ext hv42).getOwn 1 rfl)).chunks 6 1 6 6 _ rfl rfl rfl) ⟨rfl, Gr.refl _ _⟩) ?_
 refine Lx_qg (i := 15) true ((decide (x.node = y.node)) && (decide (x.par = y.par))) rfl rfl rfl rfl rfl ((decide (x.node = y.node)) && (decide (x.par = y.par))) ga_t _ (fun hA v43 hv44 => R_fieldAddr (off := 6) (oo := 6) Try.underlying44 rfl rfl Try.sizeOf9 rfl rfl ⟨rfl, Gr.refl _ _⟩) ?_
 refine Lx_qg (i := 16) true ((decide (x.node = y.node)) && (decide (x.par = y.par))) rfl rfl rfl rfl rfl ((decide (x.node = y.node)) && (decide (x.par = y.par))) ga_t _ (fun hA v45 hv46 => R_load1 (v := (.string y.name)) Try.isAgg9 (gv_t hA) ((boxR_at ((H12.ext hv46).getOwn 0 rfl)).chunks 6 1 6 6 _ rfl rfl rfl) ⟨rfl, Gr.refl _ _⟩) ?_
 refine Lx_qg (i := 17) true ((decide (x.node = y.node)) && (decide (x.par = y.par))) rfl rfl rfl rfl rfl ((decide (x.node = y.node)) && (decide (x.par = y.par))) ga_t _ (fun hA v47 hv48 => R_cmpS (a := x.name) (b := y.name) (r := (decide (x.name = y.name))) (gv_t hA) (gv_t hA) rfl ⟨rfl, Gr.refl _ _⟩) ?_
 refine Lx_q (i := 18) rfl rfl _ (fun v49 hv50 => R_pick (t := ((decide (x.node = y.node)) && (decide (x.par = y.par)))) (v := (.bool (((decide (x.node = y.node)) && (decide (x.par = y.par))) && (decide (x.name = y.name))))) rfl pk_and ⟨rfl, Gr.refl _ _⟩) ?_
 refine Lx_q (i := 19) rfl rfl _ (fun v51 hv52 => R_move (v := (.bool (((decide (x.node = y.node)) && (decide (x.par = y.par))) && (decide (x.name = y.name))))) rfl ⟨rfl, Gr.refl _ _⟩) ?_
 refine Lx_qg (i := 20) true (((decide (x.node = y.node)) && (decide (x.par = y.par))) && (decide (x.name = y.name))) rfl rfl rfl rfl rfl (((decide (x.node = y.node)) && (decide (x.par = y.par))) && (decide (x.name = y.name))) ga_t _ (fun hA v53 hv54 => R_loadA (cs := [[(.int .i64 x.node.T)], [(.int .i64 x.node.R)], [(.int .i64 x.par.T)], [(.int .i64 x.par.R)], [(.int .i64 x.tm.T)], [(.int .i64 x.tm.R)], [(.string x.name)], [(slV x.hh x.heads)]]) Try.isAgg44 Try.sizeOf44 rfl rfl ((boxR_at ((H12.ext hv54).getOwn 1 rfl)).chunks 0 8 0 0 _ rfl rfl rfl) ⟨rfl, Gr.refl _ _⟩) ?_
 refine Lx_qg (i := 21) true (((decide (x.node = y.node)) && (decide (x.par = y.par))) && (decide (x.name = y.name))) rfl rfl rfl rfl rfl (((decide (x.node = y.node)) && (decide (x.par = y.par))) && (decide (x.name = y.name))) ga_t _ (fun hA v55 hv56 => R_loadA (cs := [[(.int .i64 y.node.T)], [(.int .i64 y.node.R)], [(.int .i64 y.par.T)], [(.int .i64 y.par.R)], [(.int .i64 y.tm.T)], [(.int .i64 y.tm.R)], [(.string y.name)], [(slV y.hh y.heads)]]) Try.isAgg44 Try.sizeOf44 rfl rfl ((boxR_at ((H12.ext hv56).getOwn 0 rfl)).chunks 0 8 0 0 _ rfl rfl rfl) ⟨rfl, Gr.refl _ _⟩) ?_
 refine Lx_qg (i := 22) true (((decide (x.node = y.node)) && (decide (x.par = y.par))) && (decide (x.name = y.name))) rfl rfl rfl rfl rfl (((decide (x.node = y.node)) && (decide (x.par = y.par))) && (decide (x.name = y.name))) ga_t (.bool (decide (datas x.heads = datas y.heads))) (fun hA v57 hv58 => R_callL (vs := [(aggOf (rowCh x)), (aggOf (rowCh y))]) differ_Alike_1_c30 rfl (lst2 (gv_t hA) (gv_t hA)) (differ_sameData x y v57 ((H12.ext hv58).slOld 1 rfl) ((H12.ext hv58).slOld 0 rfl))) ?_
 refine Lx_q (i := 23) rfl rfl _ (fun v59 hv60 => R_pick (t := (((decide (x.node = y.node)) && (decide (x.par = y.par))) && (decide (x.name = y.name)))) (v := (.bool ((((decide (x.node = y.node)) && (decide (x.par = y.par))) && (decide (x.name = y.name))) && (decide (datas x.heads = datas y.heads))))) rfl pk_and ⟨rfl, Gr.refl _ _⟩) ?_
 refine Lx_q (i := 24) rfl rfl _ (fun v61 hv62 => R_assign (v := (.bool ((((decide (x.node = y.node)) && (decide (x.par = y.par))) && (decide (x.name = y.name))) && (decide (datas x.heads = datas y.heads))))) rfl ⟨rfl, Gr.refl _ _⟩) ?_
 refine Lx_nil (fun w63 hw64 => ?_)
 have H65 := H12.ext hw64
 refine Then_n (W_ret ?_)
 refine ret_1 (v := (.bool ((((decide (x.node = y.node)) && (decide (x.par = y.par))) && (decide (x.name = y.name))) && (decide (datas x.heads = datas y.heads))))) Try.results29 rfl ?_
 exact ⟨(boolE (by simp only [Bool.and_eq_true, decide_eq_true_eq, rowD, Prod.mk.injEq, and_assoc])), H65.gr⟩

end Go.Proofs.Ytiknfldhommmpaa
namespace Go.Proofs.Ytiknfldhommmpaa
open Go
set_option maxRecDepth 100000
set_option linter.unusedVariables false
set_option linter.unusedSimpArgs false
set_option maxHeartbeats 1000000 in
theorem differ_place (rt : Nat) (t : List (Stamp × RowS)) (node : Stamp) (w : World) (Qt : MapQ rt (fun x : Stamp => stampV x) rowV t w) (hl : t.length < 9223372036854775807) :
    Calls Try.prog 25 #[(.map (some rt)), (aggOf (stampCh node))] w (Ret fun v w' => v = .tuple #[(aggOf (stampCh ((placeOf t node).1))), (.bool ((placeOf t node).2))] ∧ Ext w w') := by
 refine calls_W Try.func25 rfl Try.ntmps25 rfl ?_
 have H0 := Ctx.start w nob
 have H1 := H0.addImm' (mapI (Old w) rt (MapQ.lt Qt) (fun x : Stamp => stampV x) rowV t) Qt (fun b hb => ⟨hb, fun _ ho => (nomatch ho)⟩)
 refine W_seq (W_reg ?_)
 refine O_v rfl (C_box H1 [[(.int .i64 node.T)], [(.int .i64 node.R)]] rfl ?_)
 intro b2 w3 hb4 hx5 H6
 refine O_v rfl (C_alloc H6 [[(.int .i64 0)], [(.int .i64 0)]] Try.zeroValue24 ?_)
 intro b7 w8 hb9 hx10 H11
 refine O_v rfl (R_assign (v := (.bool false)) rfl ?_)
 refine O_nil (Then_n (W_seq (W_seq (W_reg ?_))))
 refine O_v rfl (R_move (v := (.map (some rt))) rfl ?_)
 refine O_v rfl (R_len_mapQ Try.underlying56 (H11.getImm 0 rfl) rfl ?_)
 refine O_v rfl (R_arith (a := ((t.length : Nat) : Int)) (b := 1) (r0 := ((t.length : Nat) : Int) + 1) (r := ((t.length + 1 : Nat) : Int)) rfl rfl rfl (wrapN _ (by omega)) ?_)
 refine O_v rfl (R_move (v := (.int .i64 0)) rfl ?_)
 refine O_nil (Then_n (W_block ?_))
 refine W_loop (fun m12 e13 w14 => ∃ (k : Nat), ∃ (nd : Stamp), m12 = t.length + 1 - k ∧ (k ≤ t.length + 1) ∧ (placeGo t (t.length + 1 - k) nd = placeOf t node) ∧ ∃ eb15, e13 = envL [(0, (.map (some rt))), (3, (.pointer (some ⟨b2, 0, none⟩))), (4, (.pointer (some ⟨b7, 0, none⟩))), (10, (.int .i64 ((t.length + 1 : Nat) : Int))), (11, (.int .i64 ((k : Nat) : Int)))] eb15 ∧ Ctx w nob w14 [boxR b7 24 [[(.int .i64 0)], [(.int .i64 0)]], boxR b2 24 [[(.int .i64 nd.T)], [(.int .i64 nd.R)]]] [mapI (Old w) rt (MapQ.lt Qt) (fun x : Stamp => stampV x) rowV t]) _ ⟨0, node, rfl, (by omega), rfl, _, envL_self ⟨rfl, rfl, rfl, rfl, rfl, trivial⟩, H11⟩ ?_
 rintro m12 _ w14 ⟨k, nd, rfl, hk, hp, eb15, rfl, H16⟩
 refine W_seq (W_reg ?_)
 refine O_v rfl (R_cmp (a := ((k : Nat) : Int)) (b := ((t.length + 1 : Nat) : Int)) (r := (decide (((k : Nat) : Int) < ((t.length + 1 : Nat) : Int)))) rfl rfl rfl ?_)
 refine O_nil (Then_n (W_seq ?_))
 refine W_cond (t := (decide (((k : Nat) : Int) < ((t.length + 1 : Nat) : Int)))) rfl (fun hc17 => ?_) (fun hc17 => ?_)
 ·have hc17 : (((k : Nat) : Int) < ((t.length + 1 : Nat) : Int)) := (of_decide_eq_true hc17)
  refine W_skip (Then_n (W_seq (W_block (W_seq (W_seq (W_reg ?_))))))
  refine O_v rfl (R_fieldAddr (off := 0) (oo := 0) Try.underlying24 rfl rfl Try.sizeOf2 rfl rfl ?_)
  refine O_v rfl (R_load1 (v := (.int .i64 nd.T)) Try.isAgg2 rfl ((boxR_at (H16.getOwn 1 rfl)).chunks 0 1 0 0 _ rfl rfl rfl) ?_)
  refine O_v rfl (R_cmp (a := nd.T) (b := 0) (r := (decide (nd.T = 0))) rfl rfl rfl ?_)
  refine O_nil (Then_n ?_)
  refine W_cond (t := (decide (nd.T = 0))) rfl (fun hc18 => ?_) (fun hc18 => ?_)
  ·have hc18 : (nd.T = 0) := (of_decide_eq_true hc18)
   refine W_seq (W_reg ?_)
   refine O_v rfl (R_loadA (cs := [[(.int .i64 nd.T)], [(.int .i64 nd.R)]]) Try.isAgg24 Try.sizeOf24 rfl rfl ((boxR_at (H16.getOwn 1 rfl)).chunks 0 2 0 0 _ rfl rfl rfl) ?_)
   refine O_u (C_storeA H16 0 rfl 0 (sub := [[(.int .i64 nd.T)], [(.int .i64 nd.R)]]) [[(.int .i64 nd.T)], [(.int .i64 nd.R)]] Try.sizeOf24 rfl rfl rfl rfl ⟨[[(.int .i64 0)], [(.int .i64 0)]], [], rfl, rfl, rfl⟩ rfl ?_)
   intro w19 hg20 H21
   refine O_v rfl (R_assign (v := (.bool true)) rfl ?_)
   refine O_nil (Then_n (W_ret (Then_r (Blk_r (Then_r (Then_r (Blk_r (Then_r ?_))))))))
   refine ret_ct (v := (.bool true)) Try.results25 (inMem (cs := [[(.int .i64 nd.T)], [(.int .i64 nd.R)]]) rfl Try.isAgg24 Try.sizeOf24 rfl (boxR_at (H21.getOwn 0 rfl))) rfl ?_
   exact ⟨(by rw [placeGo_ret hp (by omega) (by assumption)]), H21.gr⟩
  ·have hc18 : ¬ (nd.T = 0) := (of_decide_eq_false hc18)
   refine W_skip (Then_n (W_seq (W_reg ?_)))
   refine O_v rfl (R_move (v := (.map (some rt))) rfl ?_)
   refine O_v rfl (R_loadA (cs := [[(.int .i64 nd.T)], [(.int .i64 nd.R)]]) Try.isAgg24 Try.sizeOf24 rfl rfl ((boxR_at (H16.getOwn 1 rfl)).chunks 0 2 0 0 _ rfl rfl rfl) ?_)
   refine O_v rfl (R_lookupOk (kk := nd) (z := zeroRow) keyT_Stamp24 Try.underlying56 Try.zeroValue44 (H16.getImm 0 rfl) rfl rfl ?_)
   refine O_v rfl (R_move (v := (.tuple #[(aggOf (rowCh ((kvGet t nd).getD zeroRow))), (.bool ((kvGet t nd).isSome))])) rfl ?_)
   refine O_v rfl (R_extract (v := (aggOf (rowCh ((kvGet t nd).getD zeroRow)))) rfl rfl ?_)
   refine O_v rfl (R_extract (v := (.bool ((kvGet t nd).isSome))) rfl rfl ?_)
   refine O_v rfl (C_alloc H16 [[(.int .i64 0)], [(.int .i64 0)], [(.int .i64 0)], [(.int .i64 0)], [(.int .i64 0)], [(.int .i64 0)], [(.string ByteArray.empty)], [(.slice none 0 0)]] Try.zeroValue44 ?_)
   intro b22 w23 hb24 hx25 H26
   refine O_u (C_storeA H26 0 rfl 0 (sub := [[(.int .i64 ((((kvGet t nd).getD zeroRow).node).T))], [(.int .i64 ((((kvGet t nd).getD zeroRow).node).R))], [(.int .i64 ((((kvGet t nd).getD zeroRow).par).T))], [(.int .i64 ((((kvGet t nd).getD zeroRow).par).R))], [(.int .i64 ((((kvGet t nd).getD zeroRow).tm).T))], [(.int .i64 ((((kvGet t nd).getD zeroRow).tm).R))], [(.string (((kvGet t nd).getD zeroRow).name))], [(slV (((kvGet t nd).getD zeroRow).hh) (((kvGet t nd).getD zeroRow).heads))]]) [[(.int .i64 ((((kvGet t nd).getD zeroRow).node).T))], [(.int .i64 ((((kvGet t nd).getD zeroRow).node).R))], [(.int .i64 ((((kvGet t nd).getD zeroRow).par).T))], [(.int .i64 ((((kvGet t nd).getD zeroRow).par).R))], [(.int .i64 ((((kvGet t nd).getD zeroRow).tm).T))], [(.int .i64 ((((kvGet t nd).getD zeroRow).tm).R))], [(.string (((kvGet t nd).getD zeroRow).name))], [(slV (((kvGet t nd).getD zeroRow).hh) (((kvGet t nd).getD zeroRow).heads))]] Try.sizeOf44 rfl rfl rfl rfl ⟨[[(.int .i64 0)], [(.int .i64 0)], [(.int .i64 0)], [(.int .i64 0)], [(.int .i64 0)], [(.int .i64 0)], [(.string ByteArray.empty)], [(.slice none 0 0)]], [], rfl, rfl, rfl⟩ rfl ?_)
   intro w27 hg28 H29
   refine O_v rfl (R_assign (v := (.bool ((kvGet t nd).isSome))) rfl ?_)
   refine O_nil (Then_n (W_seq (W_seq (W_reg ?_))))
   refine O_v rfl (R_move (v := (.bool ((kvGet t nd).isSome))) rfl ?_)
   refine O_v rfl (R_not rfl ?_)
   refine O_nil (Then_n ?_)
   refine W_cond (t := (!((kvGet t nd).isSome))) rfl (fun hc30 => ?_) (fun hc30 => ?_)
   ·have hc30 : ((kvGet t nd).isSome) = false := (notT hc30)
    refine W_exit (Then_x ?_)
    refine Blk_o rfl ?_
    refine Then_x (Then_x (Blk_x (Then_n (W_seq (W_reg ?_)))))
    refine O_v rfl (R_buildL (vs := []) (v := aggOf [[(.int .i64 0)], [(.int .i64 0)]]) rfl (fun _ => by kernel_rfl) ?_)
    refine O_u (C_storeA H29 1 rfl 0 (sub := [[(.int .i64 0)], [(.int .i64 0)]]) [[(.int .i64 0)], [(.int .i64 0)]] Try.sizeOf24 rfl rfl rfl rfl ⟨[[(.int .i64 0)], [(.int .i64 0)]], [], rfl, rfl, rfl⟩ rfl ?_)
    intro w31 hg32 H33
    refine O_v rfl (R_assign (v := (.bool false)) rfl ?_)
    refine O_nil (Then_n (W_ret ?_))
    refine ret_ct (v := (.bool false)) Try.results25 (inMem (cs := [[(.int .i64 0)], [(.int .i64 0)]]) rfl Try.isAgg24 Try.sizeOf24 rfl (boxR_at (H33.getOwn 1 rfl))) rfl ?_
    exact ⟨(by rw [placeGo_none hp (by omega) (by assumption) (by assumption)]), H33.gr⟩
   ·have hc30 : ((kvGet t nd).isSome) = true := (notF hc30)
    refine W_skip (Then_n (W_reg ?_))
    refine O_v rfl (R_fieldAddr (off := 2) (oo := 2) Try.underlying44 rfl rfl Try.sizeOf24 rfl rfl ?_)
    refine O_v rfl (R_loadA (cs := [[(.int .i64 ((((kvGet t nd).getD zeroRow).par).T))], [(.int .i64 ((((kvGet t nd).getD zeroRow).par).R))]]) Try.isAgg24 Try.sizeOf24 rfl rfl ((boxR_at (H29.getOwn 0 rfl)).chunks 2 2 2 2 _ rfl rfl rfl) ?_)
    refine O_u (C_storeA H29 2 rfl 0 (sub := [[(.int .i64 ((((kvGet t nd).getD zeroRow).par).T))], [(.int .i64 ((((kvGet t nd).getD zeroRow).par).R))]]) [[(.int .i64 ((((kvGet t nd).getD zeroRow).par).T))], [(.int .i64 ((((kvGet t nd).getD zeroRow).par).R))]] Try.sizeOf24 rfl rfl rfl rfl ⟨[[(.int .i64 nd.T)], [(.int .i64 nd.R)]], [], rfl, rfl, rfl⟩ rfl ?_)
    intro w34 hg35 H36
    refine O_nil (Blk_n (Then_n (W_reg ?_)))
    refine O_v rfl (R_arith (a := ((k : Nat) : Int)) (b := 1) (r0 := ((k : Nat) : Int) + 1) (r := ((k + 1 : Nat) : Int)) rfl rfl rfl (wrapN _ (by omega)) ?_)
    refine O_v rfl (R_move (v := (.int .i64 ((k + 1 : Nat) : Int))) rfl ?_)
    refine O_nil (Then_n ?_)
    have H37 := H36.sub (B' := [boxR b7 24 [[(.int .i64 0)], [(.int .i64 0)]], boxR b2 24 [[(.int .i64 ((((kvGet t nd).getD zeroRow).par).T))], [(.int .i64 ((((kvGet t nd).getD zeroRow).par).R))]]]) (I' := [mapI (Old w) rt (MapQ.lt Qt) (fun x : Stamp => stampV x) rowV t]) (List.Sublist.cons _ (List.Sublist.cons_cons _ (List.Sublist.cons_cons _ List.Sublist.slnil))) (List.forall_mem_cons.2 ⟨List.mem_of_getElem? (i := 0) rfl, fun _ h => (nomatch h)⟩)
    refine ⟨_, ?_, (k + 1), (((kvGet t nd).getD zeroRow).par), rfl, (by omega), (placeGo_next hp (by omega) (by assumption) (by assumption)), _, envL_self ⟨rfl, rfl, rfl, rfl, rfl, trivial⟩, H37⟩
    omega
 ·have hc17 : ¬ (((k : Nat) : Int) < ((t.length + 1 : Nat) : Int)) := (of_decide_eq_false hc17)
  refine W_exit (Then_x (Then_x (Blk_x (Then_n (W_seq (W_reg ?_))))))
  refine O_v rfl (R_buildL (vs := []) (v := aggOf [[(.int .i64 0)], [(.int .i64 0)]]) rfl (fun _ => by kernel_rfl) ?_)
  refine O_u (C_storeA H16 0 rfl 0 (sub := [[(.int .i64 0)], [(.int .i64 0)]]) [[(.int .i64 0)], [(.int .i64 0)]] Try.sizeOf24 rfl rfl rfl rfl ⟨[[(.int .i64 0)], [(.int .i64 0)]], [], rfl, rfl, rfl⟩ rfl ?_)
  intro w38 hg39 H40
  refine O_v rfl (R_assign (v := (.bool false)) rfl ?_)
  refine O_nil (Then_n (W_ret ?_))
  refine ret_ct (v := (.bool false)) Try.results25 (inMem (cs := [[(.int .i64 0)], [(.int .i64 0)]]) rfl Try.isAgg24 Try.sizeOf24 rfl (boxR_at (H40.getOwn 0 rfl))) rfl ?_
  exact ⟨(by rw [placeGo_end hp (by omega)]), H40.gr⟩

end Go.Proofs.Ytiknfldhommmpaa
namespace Go.Proofs.Ytiknfldhommmpaa
open Go
set_option maxRecDepth 100000
set_option linter.unusedVariables false
set_option linter.unusedSimpArgs false
theorem differ_Alive_c24 : callable Try.prog 24 = true := by kernel_rfl
theorem differ_Alive_c25 : callable Try.prog 25 = true := by kernel_rfl
theorem differ_Alive_c26 : callable Try.prog 26 = true := by kernel_rfl
theorem differ_Alive_c27 : callable Try.prog 27 = true := by kernel_rfl
set_option maxHeartbeats 1000000 in
theorem differ_Alive (hrows : SlH) (rows : List RowS) (w : World) (Srows : Sl (Old w) rowCh 8 hrows rows w) (Drows_heads : ∀ x ∈ rows, Sl (Old w) headCh 34 x.hh x.heads w) (hl : rows.length ≤ 1048576) (hh : ∀ x ∈ rows, x.heads.length ≤ 1048576) :
    Calls Try.prog 8 #[(slV hrows rows)] w (Ret fun v w' => ∃ h l S, v = slV h l ∧ Ext w w' ∧ OwnS w.heap.size 44 8 rowCh h l w' ∧ (∀ b, S b → w.heap.size ≤ b ∧ b < w'.heap.size ∧ (slV h l).ownBlock ≠ some b) ∧ (∀ x ∈ l, Sl S headCh 34 x.hh x.heads w') ∧ (l.map RowS.core = (aliveOf rows).map RowS.core)) := by
 refine calls_W Try.func8 rfl Try.ntmps8 rfl ?_
 have H0 := Ctx.start w nob
 have H1 := H0.addSl _ Srows (fun b hb => ⟨hb, fun _ ho => (nomatch ho)⟩)
 have LSrows := Srows.len
 have H2 := H1.addImm' (deepI (Old w) headCh 34 (fun x : RowS => x.hh) (fun x : RowS => x.heads) rows) Drows_heads (fun b hb => ⟨hb, fun _ ho => (nomatch ho)⟩)
 refine W_seq (W_reg ?_)
 refine O_v rfl (R_assign (v := (.slice none 0 0)) rfl ?_)
 refine O_nil (Then_n (W_seq (W_reg ?_)))
 refine O_v rfl (R_move (v := (slV hrows rows)) rfl ?_)
 refine O_v rfl (R_callL (vs := [(slV hrows rows)]) differ_Alive_c24 rfl rfl ((differ_of hrows rows w (H2.slOld 1 rfl)).ret ?_))
 rintro _ w4 ⟨r3, rfl, hx5, hr6, hm7⟩
 have H8 := C_addMap H2 hx5 hr6 hm7
 refine O_v rfl (R_assign (v := (.map (some r3))) rfl ?_)
 refine O_nil (Then_n (W_seq (W_reg ?_)))
 refine O_v rfl (R_assign (v := (.slice none 0 0)) rfl ?_)
 refine O_nil (Then_n (W_seq (W_seq (W_reg ?_))))
 refine O_v rfl (R_move (v := (slV hrows rows)) rfl ?_)
 refine O_v rfl (R_len_slice (a := hrows.a) (n := rows.length) (c := hrows.c) Try.underlying22 rfl ?_)
 refine O_v rfl (R_move (v := (.int .i64 0)) rfl ?_)
 refine O_nil (Then_n (W_block ?_))
 have H9 := H8.addNil 44 8 rowCh
 have H10 := H9.deepNil headCh 34 (fun x : RowS => x.hh) (fun x : RowS => x.heads)
 refine W_loop (fun m12 e13 w14 => ∃ (k : Nat), ∃ (acc : List RowS), ∃ (S : Nat → Prop), ∃ (h11 : SlH), m12 = rows.length - k ∧ (k ≤ rows.length) ∧ (acc.map RowS.core = (aliveOfTo rows k).map RowS.core) ∧ (acc.length ≤ k) ∧ (∀ b, S b → w.heap.size ≤ b) ∧ ∃ eb15, e13 = envL [(2, (.slice none 0 0)), (3, (.map (some r3))), (4, (slV h11 acc)), (11, (slV hrows rows)), (12, (.int .i64 ((rows.length : Nat) : Int))), (13, (.int .i64 ((k : Nat) : Int)))] eb15 ∧ Ctx w nob w14 [rowR 44 8 rowCh h11 acc, mapO r3 (fun x : Stamp => stampV x) rowV (tableOf rows)] [deepI S headCh 34 (fun x : RowS => x.hh) (fun x : RowS => x.heads) acc, deepI (Old w) headCh 34 (fun x : RowS => x.hh) (fun x : RowS => x.heads) rows, slI (Old w) rowCh 8 hrows rows]) _ ⟨0, [], nob, nilH, rfl, (by omega), rfl, (by simp), (fun _ h => h.elim), _, envL_self ⟨rfl, rfl, rfl, rfl, rfl, rfl, trivial⟩, H10⟩ ?_
 rintro m12 _ w14 ⟨k, acc, S, h11, rfl, hk, ha, hal, hS, eb15, rfl, H16⟩
 refine W_seq (W_reg ?_)
 refine O_v rfl (R_cmp (a := ((k : Nat) : Int)) (b := ((rows.length : Nat) : Int)) (r := (decide (((k : Nat) : Int) < ((rows.length : Nat) : Int)))) rfl rfl rfl ?_)
 refine O_nil (Then_n (W_seq ?_))
 refine W_cond (t := (decide (((k : Nat) : Int) < ((rows.length : Nat) : Int)))) rfl (fun hc17 => ?_) (fun hc17 => ?_)
 ·have hc17 : (((k : Nat) : Int) < ((rows.length : Nat) : Int)) := (of_decide_eq_true hc17)
  refine W_skip (Then_n (W_seq (W_block (W_seq (W_reg ?_)))))
  refine O_v rfl (R_index_pure (H16.sl 2 rfl) (n := rows.length) rfl (j := ((k : Nat) : Int)) (oo := (hrows.o + k * 8)) Try.underlying22 Try.sizeOf44 rfl rfl (by omega) (by omega) rfl ?_)
  refine O_v rfl (R_loadA (cs := [[(.int .i64 (((nth rows k).node).T))], [(.int .i64 (((nth rows k).node).R))], [(.int .i64 (((nth rows k).par).T))], [(.int .i64 (((nth rows k).par).R))], [(.int .i64 (((nth rows k).tm).T))], [(.int .i64 (((nth rows k).tm).R))], [(.string ((nth rows k).name))], [(slV ((nth rows k).hh) ((nth rows k).heads))]]) Try.isAgg44 Try.sizeOf44 rfl rfl ((Sl.elem (H16.sl 2 rfl) (i := k) (by omega) rfl).chunks 0 8 0 (hrows.o + k * 8) _ rfl rfl rfl) ?_)
  refine O_v rfl (C_alloc H16 [[(.int .i64 0)], [(.int .i64 0)], [(.int .i64 0)], [(.int .i64 0)], [(.int .i64 0)], [(.int .i64 0)], [(.string ByteArray.empty)], [(.slice none 0 0)]] Try.zeroValue44 ?_)
  intro b18 w19 hb20 hx21 H22
  refine O_u (C_storeA H22 0 rfl 0 (sub := [[(.int .i64 (((nth rows k).node).T))], [(.int .i64 (((nth rows k).node).R))], [(.int .i64 (((nth rows k).par).T))], [(.int .i64 (((nth rows k).par).R))], [(.int .i64 (((nth rows k).tm).T))], [(.int .i64 (((nth rows k).tm).R))], [(.string ((nth rows k).name))], [(slV ((nth rows k).hh) ((nth rows k).heads))]]) [[(.int .i64 (((nth rows k).node).T))], [(.int .i64 (((nth rows k).node).R))], [(.int .i64 (((nth rows k).par).T))], [(.int .i64 (((nth rows k).par).R))], [(.int .i64 (((nth rows k).tm).T))], [(.int .i64 (((nth rows k).tm).R))], [(.string ((nth rows k).name))], [(slV ((nth rows k).hh) ((nth rows k).heads))]] Try.sizeOf44 rfl rfl rfl rfl ⟨[[(.int .i64 0)], [(.int .i64 0)], [(.int .i64 0)], [(.int .i64 0)], [(.int .i64 0)], [(.int .i64 0)], [(.string ByteArray.empty)], [(.slice none 0 0)]], [], rfl, rfl, rfl⟩ rfl ?_)
  intro w23 hg24 H25
  refine O_nil (Then_n (W_seq (W_seq (W_reg ?_))))
  refine O_v rfl (R_move (v := (.map (some r3))) rfl ?_)
  refine O_v rfl (R_fieldAddr (off := 0) (oo := 0) Try.underlying44 rfl rfl Try.sizeOf24 rfl rfl ?_)
  refine O_v rfl (R_loadA (cs := [[(.int .i64 (((nth rows k).node).T))], [(.int .i64 (((nth rows k).node).R))]]) Try.isAgg24 Try.sizeOf24 rfl rfl ((boxR_at (H25.getOwn 0 rfl)).chunks 0 2 0 0 _ rfl rfl rfl) ?_)
  refine O_v rfl (R_callL (vs := [(.map (some r3)), (aggOf (stampCh ((nth rows k).node)))]) differ_Alive_c25 rfl rfl ((differ_place r3 (tableOf rows) ((nth rows k).node) w23 (H25.getOwn 2 rfl) (by have := tableOf_len rows; omega)).ret ?_))
  rintro _ w26 ⟨rfl, hx27⟩
  have H28 := H25.ext hx27
  refine O_v rfl (R_move (v := (.tuple #[(aggOf (stampCh ((placeOf (tableOf rows) ((nth rows k).node)).1))), (.bool ((placeOf (tableOf rows) ((nth rows k).node)).2))])) rfl ?_)
  refine O_v rfl (R_extract (v := (aggOf (stampCh ((placeOf (tableOf rows) ((nth rows k).node)).1)))) rfl rfl ?_)
  refine O_v rfl (R_extract (v := (.bool ((placeOf (tableOf rows) ((nth rows k).node)).2))) rfl rfl ?_)
  refine O_v rfl (C_alloc H28 [[(.int .i64 0)], [(.int .i64 0)]] Try.zeroValue24 ?_)
  intro b29 w30 hb31 hx32 H33
  refine O_u (C_storeA H33 0 rfl 0 (sub := [[(.int .i64 (((placeOf (tableOf rows) ((nth rows k).node)).1).T))], [(.int .i64 (((placeOf (tableOf rows) ((nth rows k).node)).1).R))]]) [[(.int .i64 (((placeOf (tableOf rows) ((nth rows k).node)).1).T))], [(.int .i64 (((placeOf (tableOf rows) ((nth rows k).node)).1).R))]] Try.sizeOf24 rfl rfl rfl rfl ⟨[[(.int .i64 0)], [(.int .i64 0)]], [], rfl, rfl, rfl⟩ rfl ?_)
  intro w34 hg35 H36
  refine O_v rfl (R_assign (v := (.bool ((placeOf (tableOf rows) ((nth rows k).node)).2))) rfl ?_)
  refine O_nil (Then_n (W_seq ?_))
  refine W_rgd TryMixed [(0, .q false), (1, .q false), (2, .q false), (3, .q false), (4, .q false), (5, .q false)] (by kernel_rfl) ?_
  refine Lx_q (i := 0) rfl rfl _ (fun v37 hv38 => R_move (v := (.bool ((placeOf (tableOf rows) ((nth rows k).node)).2))) rfl ⟨rfl, Gr.refl _ _⟩) ?_
  refine Lx_q (i := 1) rfl rfl _ (fun v39 hv40 => R_move (v := (.bool ((placeOf (tableOf rows) ((nth rows k).node)).2))) rfl ⟨rfl, Gr.refl _ _⟩) ?_
  refine Lx_qg (i := 2) true ((placeOf (tableOf rows) ((nth rows k).node)).2) rfl rfl rfl rfl rfl ((placeOf (tableOf rows) ((nth rows k).node)).2) ga_t _ (fun hA v41 hv42 => R_loadA (cs := [[(.int .i64 (((placeOf (tableOf rows) ((nth rows k).node)).1).T))], [(.int .i64 (((placeOf (tableOf rows) ((nth rows k).node)).1).R))]]) Try.isAgg24 Try.sizeOf24 rfl rfl ((boxR_at ((H36.ext hv42).getOwn 0 rfl)).chunks 0 2 0 0 _ rfl rfl rfl) ⟨rfl, Gr.refl _ _⟩) ?_
  refine Lx_qg (i := 3) true ((placeOf (tableOf rows) ((nth rows k).node)).2) rfl rfl rfl rfl rfl ((placeOf (tableOf rows) ((nth rows k).node)).2) ga_t (aggOf (stampCh (⟨0, 1⟩ : Stamp))) (fun hA v43 hv44 => R_callL (vs := []) differ_Alive_c26 rfl rfl (differ_trash  v43 )) ?_
  refine Lx_qg (i := 4) true ((placeOf (tableOf rows) ((nth rows k).node)).2) rfl rfl rfl rfl rfl ((placeOf (tableOf rows) ((nth rows k).node)).2) ga_t _ (fun hA v45 hv46 => R_eqv (a := ((placeOf (tableOf rows) ((nth rows k).node)).1)) (b := (⟨0, 1⟩ : Stamp)) eqv_Stamp24 rfl Try.eqGuardType24 (gv_t hA) (gv_t hA) ⟨rfl, Gr.refl _ _⟩) ?_
  refine Lx_q (i := 5) rfl rfl _ (fun v47 hv48 => R_pick (t := ((placeOf (tableOf rows) ((nth rows k).node)).2)) (v := (.bool (((placeOf (tableOf rows) ((nth rows k).node)).2) && (decide (((placeOf (tableOf rows) ((nth rows k).node)).1) = (⟨0, 1⟩ : Stamp)))))) rfl pk_and ⟨rfl, Gr.refl _ _⟩) ?_
  refine Lx_nil (fun w49 hw50 => ?_)
  have H51 := H36.ext hw50
  refine Then_n ?_
  refine W_cond (t := (((placeOf (tableOf rows) ((nth rows k).node)).2) && (decide (((placeOf (tableOf rows) ((nth rows k).node)).1) = (⟨0, 1⟩ : Stamp))))) rfl (fun hc52 => ?_) (fun hc52 => ?_)
  ·have hc52 : (((placeOf (tableOf rows) ((nth rows k).node)).2) = true ∧ (((placeOf (tableOf rows) ((nth rows k).node)).1) = (⟨0, 1⟩ : Stamp))) := (And.imp (fun h => h) (fun h => (of_decide_eq_true h)) (andT hc52))
   refine W_exit (Then_x (Blk_x (Then_n (W_reg ?_))))
   refine O_v rfl (R_arith (a := ((k : Nat) : Int)) (b := 1) (r0 := ((k : Nat) : Int) + 1) (r := ((k + 1 : Nat) : Int)) rfl rfl rfl (wrapN _ (by omega)) ?_)
   refine O_v rfl (R_move (v := (.int .i64 ((k + 1 : Nat) : Int))) rfl ?_)
   refine O_nil (Then_n ?_)
   have H53 := H51.sub (B' := [rowR 44 8 rowCh h11 acc, mapO r3 (fun x : Stamp => stampV x) rowV (tableOf rows)]) (I' := [deepI S headCh 34 (fun x : RowS => x.hh) (fun x : RowS => x.heads) acc, deepI (Old w) headCh 34 (fun x : RowS => x.hh) (fun x : RowS => x.heads) rows, slI (Old w) rowCh 8 hrows rows]) (List.Sublist.cons _ (List.Sublist.cons _ (List.Sublist.cons_cons _ (List.Sublist.cons_cons _ List.Sublist.slnil)))) (List.forall_mem_cons.2 ⟨List.mem_of_getElem? (i := 0) rfl, List.forall_mem_cons.2 ⟨List.mem_of_getElem? (i := 1) rfl, List.forall_mem_cons.2 ⟨List.mem_of_getElem? (i := 2) rfl, fun _ h => (nomatch h)⟩⟩⟩)
   refine ⟨_, ?_, (k + 1), acc, S, h11, rfl, (by omega), (aliveOfTo_out ha (by omega) (by assumption)), (by omega), hS, _, envL_self ⟨rfl, rfl, rfl, rfl, rfl, rfl, trivial⟩, H53⟩
   omega
  ·have hc52 : (((placeOf (tableOf rows) ((nth rows k).node)).2) = false ∨ ¬ (((placeOf (tableOf rows) ((nth rows k).node)).1) = (⟨0, 1⟩ : Stamp))) := (Or.imp (fun h => h) (fun h => (of_decide_eq_false h)) (andF hc52))
   refine W_skip (Then_n (W_seq (W_reg ?_)))
   refine O_v rfl (R_fieldAddr (off := 7) (oo := 7) Try.underlying44 rfl rfl Try.sizeOf42 rfl rfl ?_)
   refine O_v rfl (R_load1 (v := (slV ((nth rows k).hh) ((nth rows k).heads))) Try.isAgg42 rfl ((boxR_at (H51.getOwn 1 rfl)).chunks 7 1 7 7 _ rfl rfl rfl) ?_)
   refine O_v rfl (R_callL (vs := [(slV ((nth rows k).hh) ((nth rows k).heads))]) differ_Alive_c27 rfl rfl ((Clone_Head ((nth rows k).hh) ((nth rows k).heads) w49 (H51.deepOld 1 rfl _ (nth_mem (by omega))) (by have := hh _ (nth_mem (l := rows) (i := k) (by omega)); omega)).ret ?_))
   rintro _ w55 ⟨h54, rfl, hx56, ho57⟩
   have H58 := H51.addRow hx56 ho57
   refine O_v rfl (R_fieldAddr (off := 7) (oo := 7) Try.underlying44 rfl rfl Try.sizeOf42 rfl rfl ?_)
   refine O_u (C_store1 H58 2 rfl 7 (v := (slV h54 ((nth rows k).heads))) [[(.int .i64 (((nth rows k).node).T))], [(.int .i64 (((nth rows k).node).R))], [(.int .i64 (((nth rows k).par).T))], [(.int .i64 (((nth rows k).par).R))], [(.int .i64 (((nth rows k).tm).T))], [(.int .i64 (((nth rows k).tm).R))], [(.string ((nth rows k).name))], [(slV h54 ((nth rows k).heads))]] Try.sizeOf42 rfl rfl rfl rfl rfl rfl rfl ?_)
   intro w59 hg60 H61
   refine O_nil (Then_n (W_reg ?_))
   refine O_v rfl (R_move (v := (slV h11 acc)) rfl ?_)
   refine O_v rfl (R_loadA (cs := [[(.int .i64 (((nth rows k).node).T))], [(.int .i64 (((nth rows k).node).R))], [(.int .i64 (((nth rows k).par).T))], [(.int .i64 (((nth rows k).par).R))], [(.int .i64 (((nth rows k).tm).T))], [(.int .i64 (((nth rows k).tm).R))], [(.string ((nth rows k).name))], [(slV h54 ((nth rows k).heads))]]) Try.isAgg44 Try.sizeOf44 rfl rfl ((boxR_at (H61.getOwn 2 rfl)).chunks 0 8 0 0 _ rfl rfl rfl) ?_)
   refine O_v rfl (C_buildSliceL H61 (enc := rowCh) (val := rowV) ([({ node := ((nth rows k).node), par := ((nth rows k).par), tm := ((nth rows k).tm), name := (nth rows k).name, heads := ((nth rows k).heads), hh := h54 } : RowS)] : List RowS) Try.underlying22 Try.sizeOf44 Try.zeroValue44 rfl (by decide) (fun _ => rfl) (fun _ => rfl) rfl rfl (by decide) ?_)
   intro b62 w63 hb64 hx65 H66
   refine O_v rfl (C_append H66 4 rfl (bytes := 88) (l := acc) (ys := ([({ node := ((nth rows k).node), par := ((nth rows k).par), tm := ((nth rows k).tm), name := (nth rows k).name, heads := ((nth rows k).heads), hh := h54 } : RowS)] : List RowS)) Try.underlying22 rfl rfl rfl rfl rfl (by decide) rfl rfl (OwnS.sl (H66.getOwn 0 rfl) (fun _ => rfl)) (fun _ => rfl) (fun _ => rfl) (by simp only [List.length_append, List.length_cons, List.length_nil]; omega) (by decide) ?_)
   intro h67 w68 hg69 H70
   refine O_v rfl (R_assign (v := (slV h67 (acc ++ ([({ node := ((nth rows k).node), par := ((nth rows k).par), tm := ((nth rows k).tm), name := (nth rows k).name, heads := ((nth rows k).heads), hh := h54 } : RowS)] : List RowS)))) rfl ?_)
   refine O_nil (Blk_n (Then_n (W_reg ?_)))
   refine O_v rfl (R_arith (a := ((k : Nat) : Int)) (b := 1) (r0 := ((k : Nat) : Int) + 1) (r := ((k + 1 : Nat) : Int)) rfl rfl rfl (wrapN _ (by omega)) ?_)
   refine O_v rfl (R_move (v := (.int .i64 ((k + 1 : Nat) : Int))) rfl ?_)
   refine O_nil (Then_n ?_)
   have H71 := H70.freeze 1 rfl (fun _ => rfl)
   have H72 := H71.deepSnoc 1 rfl 0 rfl (({ node := ((nth rows k).node), par := ((nth rows k).par), tm := ((nth rows k).tm), name := (nth rows k).name, heads := ((nth rows k).heads), hh := h54 } : RowS)) rfl rfl
   have H73 := H72.sub (B' := [rowR 44 8 rowCh h67 (acc ++ ([({ node := ((nth rows k).node), par := ((nth rows k).par), tm := ((nth rows k).tm), name := (nth rows k).name, heads := ((nth rows k).heads), hh := h54 } : RowS)] : List RowS)), mapO r3 (fun x : Stamp => stampV x) rowV (tableOf rows)]) (I' := [deepI (fun b => S b ∨ (fun b => (slV h54 ((nth rows k).heads)).ownBlock = some b) b) headCh 34 (fun x : RowS => x.hh) (fun x : RowS => x.heads) (acc ++ ([({ node := ((nth rows k).node), par := ((nth rows k).par), tm := ((nth rows k).tm), name := (nth rows k).name, heads := ((nth rows k).heads), hh := h54 } : RowS)] : List RowS)), deepI (Old w) headCh 34 (fun x : RowS => x.hh) (fun x : RowS => x.heads) rows, slI (Old w) rowCh 8 hrows rows]) (List.Sublist.cons _ (List.Sublist.cons _ (List.Sublist.cons _ (List.Sublist.cons_cons _ (List.Sublist.cons_cons _ List.Sublist.slnil))))) (List.forall_mem_cons.2 ⟨List.mem_of_getElem? (i := 0) rfl, List.forall_mem_cons.2 ⟨List.mem_of_getElem? (i := 3) rfl, List.forall_mem_cons.2 ⟨List.mem_of_getElem? (i := 4) rfl, fun _ h => (nomatch h)⟩⟩⟩)
   refine ⟨_, ?_, (k + 1), (acc ++ ([({ node := ((nth rows k).node), par := ((nth rows k).par), tm := ((nth rows k).tm), name := (nth rows k).name, heads := ((nth rows k).heads), hh := h54 } : RowS)] : List RowS)), (fun b => S b ∨ (fun b => (slV h54 ((nth rows k).heads)).ownBlock = some b) b), h67, rfl, (by omega), (aliveOfTo_in ha (by omega) (by assumption) rfl), (by simp only [List.length_append, List.length_cons, List.length_nil]; omega), (fun b hb => hb.elim (hS b) (H70.newRow 1 rfl b)), _, envL_self ⟨rfl, rfl, rfl, rfl, rfl, rfl, trivial⟩, H73⟩
   omega
 ·have hc17 : ¬ (((k : Nat) : Int) < ((rows.length : Nat) : Int)) := (of_decide_eq_false hc17)
  refine W_exit (Then_x (Then_x (Blk_x (Then_n (W_seq (W_reg ?_))))))
  refine O_v rfl (R_move (v := (slV h11 acc)) rfl ?_)
  refine O_v rfl (R_assign (v := (slV h11 acc)) rfl ?_)
  refine O_nil (Then_n (W_ret ?_))
  refine ret_1 (v := (slV h11 acc)) Try.results8 rfl ?_
  exact ⟨h11, acc, S, rfl, H16.gr, H16.retRow 0 rfl, H16.retDeep 0 rfl 0 rfl hS, H16.getImm 0 rfl, (by rw [ha, show k = rows.length from by omega, aliveOfTo_all])⟩

end Go.Proofs.Ytiknfldhommmpaa
namespace Go.Proofs.Ytiknfldhommmpaa
open Go
set_option maxRecDepth 100000
set_option linter.unusedVariables false
set_option linter.unusedSimpArgs false
theorem differ_Alike_c8 : callable Try.prog 8 = true := by kernel_rfl
theorem differ_Alike_c28 : callable Try.prog 28 = true := by kernel_rfl
theorem differ_Alike_c29 : callable Try.prog 29 = true := by kernel_rfl
set_option maxHeartbeats 1000000 in
theorem differ_Alike (ha : SlH) (a : List RowS) (hb : SlH) (b : List RowS) (w : World) (Sa : Sl (Old w) rowCh 8 ha a w) (Da_heads : ∀ x ∈ a, Sl (Old w) headCh 34 x.hh x.heads w) (Sb : Sl (Old w) rowCh 8 hb b w) (Db_heads : ∀ x ∈ b, Sl (Old w) headCh 34 x.hh x.heads w) (hla : a.length ≤ 1048576) (hha : ∀ x ∈ a, x.heads.length ≤ 1048576) (hlb : b.length ≤ 1048576) (hhb : ∀ x ∈ b, x.heads.length ≤ 1048576) :
    Calls Try.prog 10 #[(slV ha a), (slV hb b)] w (Ret fun v w' => v = (.bool (alikeOf a b)) ∧ Ext w w') := by
 refine calls_W Try.func10 rfl Try.ntmps10 rfl ?_
 have H0 := Ctx.start w nob
 have H1 := H0.addSl _ Sa (fun b hb => ⟨hb, fun _ ho => (nomatch ho)⟩)
 have LSa := Sa.len
 have H2 := H1.addImm' (deepI (Old w) headCh 34 (fun x : RowS => x.hh) (fun x : RowS => x.heads) a) Da_heads (fun b hb => ⟨hb, fun _ ho => (nomatch ho)⟩)
 have H3 := H2.addSl _ Sb (fun b hb => ⟨hb, fun _ ho => (nomatch ho)⟩)
 have LSb := Sb.len
 have H4 := H3.addImm' (deepI (Old w) headCh 34 (fun x : RowS => x.hh) (fun x : RowS => x.heads) b) Db_heads (fun b hb => ⟨hb, fun _ ho => (nomatch ho)⟩)
 refine W_seq (W_reg ?_)
 refine O_v rfl (R_assign (v := (.bool false)) rfl ?_)
 refine O_nil (Then_n (W_seq (W_reg ?_)))
 refine O_v rfl (R_move (v := (slV ha a)) rfl ?_)
 refine O_v rfl (R_callL (vs := [(slV ha a)]) differ_Alike_c8 rfl rfl ((differ_Alive ha a w (H4.slOld 3 rfl) (H4.deepOld 2 rfl) hla hha).ret ?_))
 rintro _ w8 ⟨h5, l6, S7, rfl, hx9, ho10, hS11, hd12, hr13⟩
 have H14 := H4.addRowDeep (h := fun x : RowS => x.hh) (f := fun x : RowS => x.heads) hx9 ho10 hS11 hd12
 refine O_v rfl (R_move (v := (slV hb b)) rfl ?_)
 refine O_v rfl (R_callL (vs := [(slV hb b)]) differ_Alike_c8 rfl rfl ((differ_Alive hb b w8 (H14.slOld 2 rfl) (H14.deepOld 1 rfl) hlb hhb).ret ?_))
 rintro _ w18 ⟨h15, l16, S17, rfl, hx19, ho20, hS21, hd22, hr23⟩
 have H24 := H14.addRowDeep (h := fun x : RowS => x.hh) (f := fun x : RowS => x.heads) hx19 ho20 hS21 hd22
 refine O_v rfl (R_callL (vs := [(slV h5 l6), (slV h15 l16), (.func (.func 29) #[] #[])]) differ_Alike_c28 rfl rfl ((EqualFunc_Row h5 l6 h15 l16 29 #[] (fun (x y : RowS) => decide (rowD x = rowD y)) w18 (H24.rowSl 1 rfl (fun _ => rfl)) (H24.rowSl 0 rfl (fun _ => rfl)) differ_Alike_c29 (fun x hx y hy w1 he => callsCap0 (differ_Alike_1 x y w1 ((H24.deepOld 1 rfl _ hx).ext he) ((H24.deepOld 0 rfl _ hy).ext he)))).ret ?_))
 rintro _ w25 ⟨rfl, hx26⟩
 have H27 := H24.ext hx26
 refine O_v rfl (R_assign (v := (.bool (eqBy (fun (x y : RowS) => decide (rowD x = rowD y)) l6 l16))) rfl ?_)
 refine O_nil (Then_n (W_ret ?_))
 refine ret_1 (v := (.bool (eqBy (fun (x y : RowS) => decide (rowD x = rowD y)) l6 l16))) Try.results10 rfl ?_
 exact ⟨(by rw [alike_eq hr13 hr23]), H27.gr⟩

end Go.Proofs.Ytiknfldhommmpaa
namespace Go.Proofs.Ytiknfldhommmpaa
open Go
set_option maxRecDepth 100000
set_option linter.unusedVariables false
set_option linter.unusedSimpArgs false
set_option maxHeartbeats 1000000 in
theorem Reverse_str (hs : SlH) (s : List ByteArray) (w : World) (Os : OwnS 0 9 1 encS hs s w) :
    Calls Try.prog 32 #[(slV hs s)] w (Ret fun v w' => v = .tuple #[] ∧ Gr (fun b => (slV hs s).ownBlock = some b) w w' ∧ OwnS 0 9 1 encS hs (s.reverse) w') := by
 refine calls_W Try.func32 rfl Try.ntmps32 rfl ?_
 have H0 := Ctx.startRow Os
 have LSs := (OwnS.sl Os (fun _ => rfl)).len
 refine W_seq (W_reg ?_)
 refine O_v rfl (R_move (v := (slV hs s)) rfl ?_)
 refine O_v rfl (R_len_slice (a := hs.a) (n := s.length) (c := hs.c) Try.underlying65 rfl ?_)
 refine O_v rfl (R_arith (a := ((s.length : Nat) : Int)) (b := 1) (r0 := ((s.length : Nat) : Int) - 1) (r := ((s.length : Nat) : Int) - 1) rfl rfl rfl (w64 _ (by omega)) ?_)
 refine O_v rfl (R_assign (v := (.int .i64 0)) rfl ?_)
 refine O_v rfl (R_assign (v := (.int .i64 (((s.length : Nat) : Int) - 1))) rfl ?_)
 refine O_nil (Then_n (W_block ?_))
 refine W_loop (fun m1 e2 w3 => ∃ (k : Nat), ∃ (cur : List ByteArray), m1 = s.length + 1 - k ∧ (2 * k ≤ s.length + 1) ∧ (cur.length = s.length) ∧ (revd s k cur) ∧ ∃ eb4, e2 = envL [(0, (slV hs s)), (2, (.int .i64 ((k : Nat) : Int))), (3, (.int .i64 ((s.length : Int) - 1 - (k : Int))))] eb4 ∧ Ctx w (fun b => (slV hs s).ownBlock = some b) w3 [rowR 9 1 encS hs cur] []) _ ⟨0, s, rfl, (by omega), rfl, (revd_zero s), _, envL_self ⟨rfl, rfl, (congrArg (Value.int .i64) (by omega)), trivial⟩, H0⟩ ?_
 rintro m1 _ w3 ⟨k, cur, rfl, hk, hl, hc, eb4, rfl, H5⟩
 refine W_seq (W_seq (W_reg ?_))
 refine O_v rfl (R_move (v := (.int .i64 ((k : Nat) : Int))) rfl ?_)
 refine O_v rfl (R_move (v := (.int .i64 ((s.length : Int) - 1 - (k : Int)))) rfl ?_)
 refine O_v rfl (R_cmp (a := ((k : Nat) : Int)) (b := ((s.length : Int) - 1 - (k : Int))) (r := (decide (((k : Nat) : Int) < ((s.length : Int) - 1 - (k : Int))))) rfl rfl rfl ?_)
 refine O_nil (Then_n ?_)
 refine W_cond (t := (decide (((k : Nat) : Int) < ((s.length : Int) - 1 - (k : Int))))) rfl (fun hc6 => ?_) (fun hc6 => ?_)
 ·have hc6 : (((k : Nat) : Int) < ((s.length : Int) - 1 - (k : Int))) := (of_decide_eq_true hc6)
  refine W_skip (Then_n (W_seq (W_block ?_)))
  refine W_rgdM TryMixed (fun _ => True) (fun i => i == 13 || i == 15) [(0, .q true), (1, .q true), (2, .q true), (3, .q true), (4, .q true), (5, .q true), (6, .q true), (7, .q false), (8, .q true), (9, .q true), (10, .q true), (11, .q false), (12, .q true), (13, .c true), (14, .q true), (15, .c true)] (by kernel_rfl) ?_
  refine Lx_q (i := 0) rfl rfl _ (fun v7 hv8 => R_move (v := (slV hs s)) rfl ⟨rfl, Gr.refl _ _⟩) ?_
  refine Lx_q (i := 1) rfl rfl _ (fun v9 hv10 => R_move (v := (.int .i64 ((k : Nat) : Int))) rfl ⟨rfl, Gr.refl _ _⟩) ?_
  refine Lx_q (i := 2) rfl rfl _ (fun v11 hv12 => R_move (v := (slV hs s)) rfl ⟨rfl, Gr.refl _ _⟩) ?_
  refine Lx_q (i := 3) rfl rfl _ (fun v13 hv14 => R_move (v := (.int .i64 ((s.length : Int) - 1 - (k : Int)))) rfl ⟨rfl, Gr.refl _ _⟩) ?_
  refine Lx_q (i := 4) rfl rfl _ (fun v15 hv16 => R_move (v := (slV hs s)) rfl ⟨rfl, Gr.refl _ _⟩) ?_
  refine Lx_q (i := 5) rfl rfl _ (fun v17 hv18 => R_move (v := (.int .i64 ((s.length : Int) - 1 - (k : Int)))) rfl ⟨rfl, Gr.refl _ _⟩) ?_
  refine Lx_q (i := 6) rfl rfl _ (fun v19 hv20 => R_index_pure (OwnS.sl (H5.getOwn 0 rfl) (fun _ => rfl)) (n := s.length) (by first | omega | (simp only [List.length_set]; omega)) (j := ((s.length : Int) - 1 - (k : Int))) (oo := (hs.o + (((s.length : Int) - 1 - (k : Int)).toNat) * 1)) Try.underlying65 Try.sizeOf9 rfl rfl (by omega) (by omega) rfl ⟨rfl, Gr.refl _ _⟩) ?_
  refine Lx_q (i := 7) rfl rfl _ (fun v21 hv22 => R_load1 (v := (.string (nth cur (((s.length : Int) - 1 - (k : Int)).toNat)))) Try.isAgg9 rfl ((Sl.elem (OwnS.sl ((H5.ext hv22).getOwn 0 rfl) (fun _ => rfl)) (i := ((s.length : Int) - 1 - (k : Int)).toNat) (by omega) rfl).chunks 0 1 0 (hs.o + (((s.length : Int) - 1 - (k : Int)).toNat) * 1) _ rfl rfl rfl) ⟨rfl, Gr.refl _ _⟩) ?_
  refine Lx_q (i := 8) rfl rfl _ (fun v23 hv24 => R_move (v := (slV hs s)) rfl ⟨rfl, Gr.refl _ _⟩) ?_
  refine Lx_q (i := 9) rfl rfl _ (fun v25 hv26 => R_move (v := (.int .i64 ((k : Nat) : Int))) rfl ⟨rfl, Gr.refl _ _⟩) ?_
  refine Lx_q (i := 10) rfl rfl _ (fun v27 hv28 => R_index_pure (OwnS.sl (H5.getOwn 0 rfl) (fun _ => rfl)) (n := s.length) (by first | omega | (simp only [List.length_set]; omega)) (j := ((k : Nat) : Int)) (oo := (hs.o + k * 1)) Try.underlying65 Try.sizeOf9 rfl rfl (by omega) (by omega) rfl ⟨rfl, Gr.refl _ _⟩) ?_
  refine Lx_q (i := 11) rfl rfl _ (fun v29 hv30 => R_load1 (v := (.string (nth cur k))) Try.isAgg9 rfl ((Sl.elem (OwnS.sl ((H5.ext hv30).getOwn 0 rfl) (fun _ => rfl)) (i := k) (by omega) rfl).chunks 0 1 0 (hs.o + k * 1) _ rfl rfl rfl) ⟨rfl, Gr.refl _ _⟩) ?_
  refine Lx_q (i := 12) rfl rfl _ (fun v31 hv32 => R_index_pure (OwnS.sl (H5.getOwn 0 rfl) (fun _ => rfl)) (n := s.length) (by first | omega | (simp only [List.length_set]; omega)) (j := ((k : Nat) : Int)) (oo := (hs.o + k * 1)) Try.underlying65 Try.sizeOf9 rfl rfl (by omega) (by omega) rfl ⟨rfl, Gr.refl _ _⟩) ?_
  refine Lx_cu (i := 13) rfl (fun w33 hw34 => ?_)
  have H35 := H5.ext hw34
  refine (C_storeEl H35 0 rfl (j := k) (v := (.string (nth cur (((s.length : Int) - 1 - (k : Int)).toNat)))) (nth cur (((s.length : Int) - 1 - (k : Int)).toNat)) ([] : List Value) ([[(.string (nth cur k))]]).flatten ([] : List Value) ([[(.string (nth cur (((s.length : Int) - 1 - (k : Int)).toNat)))]]).flatten (fun _ => rfl) (by omega) Try.sizeOf9 rfl rfl rfl rfl rfl rfl rfl rfl rfl ?_)
  intro w36 hg37 H38
  refine ⟨Gr.mono (M' := fun _ => True) hg37 (fun _ _ => trivial), ?_⟩
  refine Lx_q (i := 14) rfl rfl _ (fun v39 hv40 => R_index_pure (OwnS.sl (H38.getOwn 0 rfl) (fun _ => rfl)) (n := s.length) (by first | omega | (simp only [List.length_set]; omega)) (j := ((s.length : Int) - 1 - (k : Int))) (oo := (hs.o + (((s.length : Int) - 1 - (k : Int)).toNat) * 1)) Try.underlying65 Try.sizeOf9 rfl rfl (by omega) (by omega) rfl ⟨rfl, Gr.refl _ _⟩) ?_
  refine Lx_cu (i := 15) rfl (fun w41 hw42 => ?_)
  have H43 := H38.ext hw42
  refine (C_storeEl H43 0 rfl (j := ((s.length : Int) - 1 - (k : Int)).toNat) (v := (.string (nth cur k))) (nth cur k) ([] : List Value) ([[(.string (nth (cur.set k (nth cur (((s.length : Int) - 1 - (k : Int)).toNat))) (((s.length : Int) - 1 - (k : Int)).toNat)))]]).flatten ([] : List Value) ([[(.string (nth cur k))]]).flatten (fun _ => rfl) (by simp only [List.length_set]; omega) Try.sizeOf9 rfl rfl rfl rfl rfl rfl rfl rfl rfl ?_)
  intro w44 hg45 H46
  refine ⟨Gr.mono (M' := fun _ => True) hg45 (fun _ _ => trivial), ?_⟩
  refine Lx_nil (fun w47 hw48 => ?_)
  have H49 := H46.ext hw48
  refine Blk_n (Then_n (W_reg ?_))
  refine O_v rfl (R_move (v := (.int .i64 ((k : Nat) : Int))) rfl ?_)
  refine O_v rfl (R_arith (a := ((k : Nat) : Int)) (b := 1) (r0 := ((k : Nat) : Int) + 1) (r := ((k + 1 : Nat) : Int)) rfl rfl rfl (wrapN _ (by omega)) ?_)
  refine O_v rfl (R_move (v := (.int .i64 ((s.length : Int) - 1 - (k : Int)))) rfl ?_)
  refine O_v rfl (R_arith (a := ((s.length : Int) - 1 - (k : Int))) (b := 1) (r0 := ((s.length : Int) - 1 - (k : Int)) - 1) (r := ((s.length : Int) - 1 - (k : Int)) - 1) rfl rfl rfl (w64 _ (by omega)) ?_)
  refine O_v rfl (R_assign (v := (.int .i64 ((k + 1 : Nat) : Int))) rfl ?_)
  refine O_v rfl (R_assign (v := (.int .i64 (((s.length : Int) - 1 - (k : Int)) - 1))) rfl ?_)
  refine O_nil (Then_n ?_)
  refine ⟨_, ?_, (k + 1), ((cur.set k (nth cur (((s.length : Int) - 1 - (k : Int)).toNat))).set (((s.length : Int) - 1 - (k : Int)).toNat) (nth cur k)), rfl, (by omega), (by simp only [List.length_set]; exact hl), (revd_succ hl hc (by omega) (by omega)), _, envL_self ⟨rfl, rfl, (congrArg (Value.int .i64) (by omega)), trivial⟩, H49⟩
  omega
 ·have hc6 : ¬ (((k : Nat) : Int) < ((s.length : Int) - 1 - (k : Int))) := (of_decide_eq_false hc6)
  refine W_exit (Then_x (Then_x (Blk_x (ret_n ?_))))
  refine ret_0 Try.results32 ⟨rfl, H5.gr, ?_⟩
  have hE : cur = s.reverse := (revd_end hl hc (by omega))
  rw [← hE]
  exact H5.getOwn 0 rfl

end Go.Proofs.Ytiknfldhommmpaa
namespace Go.Proofs.Ytiknfldhommmpaa
open Go
set_option maxRecDepth 100000
set_option linter.unusedVariables false
set_option linter.unusedSimpArgs false
def laysJ : Go.Shelf.Ren := ⟨fun | 165 => 43 | 166 => 44 | 169 => 45 | 240 => 55 | 241 => 56 | 276 => 65 | 277 => 66 | n => n, fun | 0 => 0 | 3 => 3 | 4 => 4 | 5 => 5 | 9 => 9 | 20 => 20 | 37 => 79 | 70 => 78 | 72 => 81 | 75 => 84 | 80 => 87 | 127 => 97 | 164 => 105 | n => n, fun | n => n⟩
theorem laysJ165 : Go.Proofs.Lays.n165 Try.prog laysJ := {
  mixed := by kernel_rfl
  f165 := Try.func43.trans (congrArg some (by kernel_rfl))
  f240 := Try.func55.trans (congrArg some (by kernel_rfl))
  f241 := Try.func56.trans (congrArg some (by kernel_rfl))
  f276 := Try.func65.trans (congrArg some (by kernel_rfl))
  f277 := Try.func66.trans (congrArg some (by kernel_rfl))
  t0 := Try.underlying0
  a0 := Try.isAgg0
  z0 := Try.sizeOf0
  v0 := Try.zeroValue0
  t3 := Try.underlying3
  a3 := Try.isAgg3
  z3 := Try.sizeOf3
  v3 := Try.zeroValue3
  t4 := Try.underlying4
  a4 := Try.isAgg4
  z4 := Try.sizeOf4
  v4 := Try.zeroValue4
  t9 := Try.underlying9
  a9 := Try.isAgg9
  z9 := Try.sizeOf9
  v9 := Try.zeroValue9
  t20 := Try.underlying20
  a20 := Try.isAgg20
  z20 := Try.sizeOf20
  v20 := Try.zeroValue20
  t37 := Try.underlying79
  a37 := Try.isAgg79
  z37 := Try.sizeOf79
  v37 := Try.zeroValue79
  t70 := Try.underlying78
  a70 := Try.isAgg78
  z70 := Try.sizeOf78
  v70 := Try.zeroValue78
  t72 := Try.underlying81
  a72 := Try.isAgg81
  z72 := Try.sizeOf81
  v72 := Try.zeroValue81
  t164 := Try.underlying105
  a164 := Try.isAgg105
  z164 := Try.sizeOf105
  v164 := Try.zeroValue105 }
theorem laysJ166 : Go.Proofs.Lays.n166 Try.prog laysJ := {
  mixed := by kernel_rfl
  f166 := Try.func44.trans (congrArg some (by kernel_rfl))
  f240 := Try.func55.trans (congrArg some (by kernel_rfl))
  f276 := Try.func65.trans (congrArg some (by kernel_rfl))
  t0 := Try.underlying0
  a0 := Try.isAgg0
  z0 := Try.sizeOf0
  v0 := Try.zeroValue0
  t3 := Try.underlying3
  a3 := Try.isAgg3
  z3 := Try.sizeOf3
  v3 := Try.zeroValue3
  t4 := Try.underlying4
  a4 := Try.isAgg4
  z4 := Try.sizeOf4
  v4 := Try.zeroValue4
  t9 := Try.underlying9
  a9 := Try.isAgg9
  z9 := Try.sizeOf9
  v9 := Try.zeroValue9
  t20 := Try.underlying20
  a20 := Try.isAgg20
  z20 := Try.sizeOf20
  v20 := Try.zeroValue20
  t37 := Try.underlying79
  a37 := Try.isAgg79
  z37 := Try.sizeOf79
  v37 := Try.zeroValue79
  t70 := Try.underlying78
  a70 := Try.isAgg78
  z70 := Try.sizeOf78
  v70 := Try.zeroValue78
  t72 := Try.underlying81
  a72 := Try.isAgg81
  z72 := Try.sizeOf81
  v72 := Try.zeroValue81
  t75 := Try.underlying84
  a75 := Try.isAgg84
  z75 := Try.sizeOf84
  v75 := Try.zeroValue84
  t164 := Try.underlying105
  a164 := Try.isAgg105
  z164 := Try.sizeOf105
  v164 := Try.zeroValue105 }
theorem laysJ169 : Go.Proofs.Lays.n169 Try.prog laysJ := {
  mixed := by kernel_rfl
  f169 := Try.func45.trans (congrArg some (by kernel_rfl))
  t0 := Try.underlying0
  a0 := Try.isAgg0
  z0 := Try.sizeOf0
  v0 := Try.zeroValue0
  t3 := Try.underlying3
  a3 := Try.isAgg3
  z3 := Try.sizeOf3
  v3 := Try.zeroValue3
  t9 := Try.underlying9
  a9 := Try.isAgg9
  z9 := Try.sizeOf9
  v9 := Try.zeroValue9
  t37 := Try.underlying79
  a37 := Try.isAgg79
  z37 := Try.sizeOf79
  v37 := Try.zeroValue79
  t70 := Try.underlying78
  a70 := Try.isAgg78
  z70 := Try.sizeOf78
  v70 := Try.zeroValue78
  t72 := Try.underlying81
  a72 := Try.isAgg81
  z72 := Try.sizeOf81
  v72 := Try.zeroValue81
  t127 := Try.underlying97
  a127 := Try.isAgg97
  z127 := Try.sizeOf97
  v127 := Try.zeroValue97 }
theorem laysJX : Builder.Extra Try.prog laysJ := {
  sizeBuilder := by kernel_rfl
  liesBuilder := by kernel_rfl
  t5 := Try.underlying5
  a5 := Try.isAgg5
  z5 := Try.sizeOf5
  v5 := Try.zeroValue5
  infoByte := by kernel_rfl
  cellsByte := by kernel_rfl
  sizeByte := by kernel_rfl
  neB5 := by decide }

end Go.Proofs.Ytiknfldhommmpaa
namespace Go.Proofs.Ytiknfldhommmpaa
open Go
set_option maxRecDepth 100000
set_option linter.unusedVariables false
set_option linter.unusedSimpArgs false
theorem strings_Join_c43 : callable Try.prog 43 = true := by kernel_rfl
theorem strings_Join_c44 : callable Try.prog 44 = true := by kernel_rfl
theorem strings_Join_c45 : callable Try.prog 45 = true := by kernel_rfl
set_option maxHeartbeats 1000000 in
theorem strings_Join (helems : SlH) (elems : List ByteArray) (sep : ByteArray) (w : World) (Selems : Sl (Old w) encS 1 helems elems w) (hN : elems.length ≤ 1048577) (htot : (joinTo elems sep elems.length).length ≤ 140737488355328) :
    Calls Try.prog 33 #[(slV helems elems), (.string sep)] w (Ret fun v w' => v = (.string (joinB elems sep)) ∧ Ext w w') := by
 refine calls_W Try.func33 rfl Try.ntmps33 rfl ?_
 have H0 := Ctx.start w nob
 have H1 := H0.addSl _ Selems (fun b hb => ⟨hb, fun _ ho => (nomatch ho)⟩)
 have LSelems := Selems.len
 have hjl : 1 ≤ elems.length → (joinTo elems sep elems.length).length = sep.size * (elems.length - 1) + lensTo elems elems.length := fun h => joinTo_len h (Nat.le_refl _)
 refine W_seq (W_reg ?_)
 refine O_v rfl (R_assign (v := (.string ByteArray.empty)) rfl ?_)
 refine O_nil (Then_n (W_seq (W_seq (W_reg ?_))))
 refine O_v rfl (R_move (v := (slV helems elems)) rfl ?_)
 refine O_v rfl (R_len_slice (a := helems.a) (n := elems.length) (c := helems.c) Try.underlying65 rfl ?_)
 refine O_nil (Then_n (W_block (W_seq (W_reg ?_))))
 refine O_v rfl (R_cmp (a := ((elems.length : Nat) : Int)) (b := 0) (r := (decide (((elems.length : Nat) : Int) = 0))) rfl rfl rfl ?_)
 refine O_v rfl (R_assign (v := (.bool (decide (((elems.length : Nat) : Int) = 0)))) rfl ?_)
 refine O_nil (Then_n ?_)
 refine W_cond (t := (decide (((elems.length : Nat) : Int) = 0))) rfl (fun hc2 => ?_) (fun hc2 => ?_)
 ·have hc2 : (((elems.length : Nat) : Int) = 0) := (of_decide_eq_true hc2)
  refine W_seq (W_reg ?_)
  refine O_v rfl (R_assign (v := (.string ByteArray.empty)) rfl ?_)
  refine O_nil (Then_n (W_ret (Blk_r (Then_r ?_))))
  refine ret_1 (v := (.string ByteArray.empty)) Try.results33 rfl ?_
  exact ⟨(by rw [joinTo_zero (by omega)]), H1.gr⟩
 ·have hc2 : ¬ (((elems.length : Nat) : Int) = 0) := (of_decide_eq_false hc2)
  refine W_seq (W_reg ?_)
  refine O_v rfl (R_cmp (a := ((elems.length : Nat) : Int)) (b := 1) (r := (decide (((elems.length : Nat) : Int) = 1))) rfl rfl rfl ?_)
  refine O_v rfl (R_assign (v := (.bool (decide (((elems.length : Nat) : Int) = 1)))) rfl ?_)
  refine O_nil (Then_n ?_)
  refine W_cond (t := (decide (((elems.length : Nat) : Int) = 1))) rfl (fun hc3 => ?_) (fun hc3 => ?_)
  ·have hc3 : (((elems.length : Nat) : Int) = 1) := (of_decide_eq_true hc3)
   refine W_seq (W_reg ?_)
   refine O_v rfl (R_move (v := (slV helems elems)) rfl ?_)
   refine O_v rfl (R_index_pure (H1.sl 0 rfl) (n := elems.length) rfl (j := 0) (oo := (helems.o + 0 * 1)) Try.underlying65 Try.sizeOf9 rfl rfl (by omega) (by omega) rfl ?_)
   refine O_v rfl (R_load1 (v := (.string (nth elems 0))) Try.isAgg9 rfl ((Sl.elem (H1.sl 0 rfl) (i := 0) (by omega) rfl).chunks 0 1 0 (helems.o + 0 * 1) _ rfl rfl rfl) ?_)
   refine O_v rfl (R_assign (v := (.string (nth elems 0))) rfl ?_)
   refine O_nil (Then_n (W_ret (Blk_r (Then_r ?_))))
   refine ret_1 (v := (.string (nth elems 0))) Try.results33 rfl ?_
   exact ⟨(by rw [joinB_one (by omega)]), H1.gr⟩
  ·have hc3 : ¬ (((elems.length : Nat) : Int) = 1) := (of_decide_eq_false hc3)
   refine W_skip (Blk_n (Then_n (W_seq (W_reg ?_))))
   refine O_v rfl (R_assign (v := (.int .i64 0)) rfl ?_)
   refine O_nil (Then_n (W_seq (W_seq (W_reg ?_))))
   refine O_v rfl (R_move (v := (.string sep)) rfl ?_)
   refine O_v rfl (R_len_string Try.underlying9 rfl ?_)
   refine O_v rfl (R_cmp (a := ((sep.size : Nat) : Int)) (b := 0) (r := (decide (0 < ((sep.size : Nat) : Int)))) rfl rfl rfl ?_)
   refine O_nil (Then_n ?_)
   refine W_cond (t := (decide (0 < ((sep.size : Nat) : Int)))) rfl (fun hc4 => ?_) (fun hc4 => ?_)
   ·have hc4 : (0 < ((sep.size : Nat) : Int)) := (of_decide_eq_true hc4)
    refine W_seq (W_seq (W_reg ?_))
    refine O_v rfl (R_move (v := (.string sep)) rfl ?_)
    refine O_v rfl (R_len_string Try.underlying9 rfl ?_)
    refine O_v rfl (R_move (v := (slV helems elems)) rfl ?_)
    refine O_v rfl (R_len_slice (a := helems.a) (n := elems.length) (c := helems.c) Try.underlying65 rfl ?_)
    refine O_v rfl (R_arith (a := ((elems.length : Nat) : Int)) (b := 1) (r0 := ((elems.length : Nat) : Int) - 1) (r := ((elems.length - 1 : Nat) : Int)) rfl rfl rfl (wrapP _ (by omega) (by omega)) ?_)
    refine O_v rfl (R_quo (a := 9223372036854775807) (b := ((elems.length - 1 : Nat) : Int)) (r := ((9223372036854775807 : Int).tdiv ((elems.length - 1 : Nat) : Int))) rfl rfl (by omega) (tdivw (by omega)) ?_)
    refine O_v rfl (R_cmp (a := ((sep.size : Nat) : Int)) (b := ((9223372036854775807 : Int).tdiv ((elems.length - 1 : Nat) : Int))) (r := (decide (((9223372036854775807 : Int).tdiv ((elems.length - 1 : Nat) : Int)) ≤ ((sep.size : Nat) : Int)))) rfl rfl rfl ?_)
    refine O_nil (Then_n ?_)
    refine W_cond (t := (decide (((9223372036854775807 : Int).tdiv ((elems.length - 1 : Nat) : Int)) ≤ ((sep.size : Nat) : Int)))) rfl (fun hc5 => ?_) (fun hc5 => ?_)
    ·have hc5 : (((9223372036854775807 : Int).tdiv ((elems.length - 1 : Nat) : Int)) ≤ ((sep.size : Nat) : Int)) := (of_decide_eq_true hc5)
     exact (joinDead (by assumption) (by omega) (by omega) (by omega)).elim
    ·have hc5 : ¬ (((9223372036854775807 : Int).tdiv ((elems.length - 1 : Nat) : Int)) ≤ ((sep.size : Nat) : Int)) := (of_decide_eq_false hc5)
     refine W_skip (Then_n (W_reg ?_))
     refine O_v rfl (R_move (v := (.int .i64 0)) rfl ?_)
     refine O_v rfl (R_move (v := (.string sep)) rfl ?_)
     refine O_v rfl (R_len_string Try.underlying9 rfl ?_)
     refine O_v rfl (R_move (v := (slV helems elems)) rfl ?_)
     refine O_v rfl (R_len_slice (a := helems.a) (n := elems.length) (c := helems.c) Try.underlying65 rfl ?_)
     refine O_v rfl (R_arith (a := ((elems.length : Nat) : Int)) (b := 1) (r0 := ((elems.length : Nat) : Int) - 1) (r := ((elems.length - 1 : Nat) : Int)) rfl rfl rfl (wrapP _ (by omega) (by omega)) ?_)
     refine O_v rfl (R_arith (a := ((sep.size : Nat) : Int)) (b := ((elems.length - 1 : Nat) : Int)) (r0 := ((sep.size : Nat) : Int) * ((elems.length - 1 : Nat) : Int)) (r := ((sep.size * (elems.length - 1) : Nat) : Int)) rfl rfl rfl (mulw (by omega)) ?_)
     refine O_v rfl (R_arith (a := 0) (b := ((sep.size * (elems.length - 1) : Nat) : Int)) (r0 := 0 + ((sep.size * (elems.length - 1) : Nat) : Int)) (r := ((0 + sep.size * (elems.length - 1) : Nat) : Int)) rfl rfl rfl (w64 _ (by omega)) ?_)
     refine O_v rfl (R_assign (v := (.int .i64 ((0 + sep.size * (elems.length - 1) : Nat) : Int))) rfl ?_)
     refine O_nil (Then_n (W_seq (W_seq (W_reg ?_))))
     refine O_v rfl (R_move (v := (slV helems elems)) rfl ?_)
     refine O_v rfl (R_len_slice (a := helems.a) (n := elems.length) (c := helems.c) Try.underlying65 rfl ?_)
     refine O_v rfl (R_move (v := (.int .i64 0)) rfl ?_)
     refine O_nil (Then_n (W_block ?_))
     refine W_loop (fun m6 e7 w8 => ∃ (k : Nat), ∃ (n : Nat), m6 = elems.length - k ∧ (k ≤ elems.length) ∧ (n = sep.size * (elems.length - 1) + lensTo elems k) ∧ (lensTo elems k ≤ lensTo elems elems.length) ∧ ∃ eb9, e7 = envL [(0, (slV helems elems)), (1, (.string sep)), (4, (.string ByteArray.empty)), (5, (.int .i64 ((n : Nat) : Int))), (39, (slV helems elems)), (40, (.int .i64 ((elems.length : Nat) : Int))), (41, (.int .i64 ((k : Nat) : Int)))] eb9 ∧ Ctx w nob w8 [] [slI (Old w) encS 1 helems elems]) _ ⟨0, (0 + sep.size * (elems.length - 1)), rfl, (Nat.zero_le _), (by rw [show lensTo elems 0 = 0 from rfl]; omega), (lensTo_le (Nat.zero_le _) (Nat.le_refl _)), _, envL_self ⟨rfl, rfl, rfl, rfl, rfl, rfl, rfl, trivial⟩, H1⟩ ?_
     rintro m6 _ w8 ⟨k, n, rfl, hk, hn, hle, eb9, rfl, H10⟩
     refine W_seq (W_reg ?_)
     refine O_v rfl (R_cmp (a := ((k : Nat) : Int)) (b := ((elems.length : Nat) : Int)) (r := (decide (((k : Nat) : Int) < ((elems.length : Nat) : Int)))) rfl rfl rfl ?_)
     refine O_nil (Then_n (W_seq ?_))
     refine W_cond (t := (decide (((k : Nat) : Int) < ((elems.length : Nat) : Int)))) rfl (fun hc11 => ?_) (fun hc11 => ?_)
     ·have hc11 : (((k : Nat) : Int) < ((elems.length : Nat) : Int)) := (of_decide_eq_true hc11)
      refine W_skip (Then_n (W_seq (W_block (W_seq (W_reg ?_)))))
      refine O_v rfl (R_index_pure (H10.sl 0 rfl) (n := elems.length) rfl (j := ((k : Nat) : Int)) (oo := (helems.o + k * 1)) Try.underlying65 Try.sizeOf9 rfl rfl (by omega) (by omega) rfl ?_)
      refine O_v rfl (R_load1 (v := (.string (nth elems k))) Try.isAgg9 rfl ((Sl.elem (H10.sl 0 rfl) (i := k) (by omega) rfl).chunks 0 1 0 (helems.o + k * 1) _ rfl rfl rfl) ?_)
      refine O_v rfl (R_assign (v := (.string (nth elems k))) rfl ?_)
      refine O_nil (Then_n (W_seq (W_seq (W_reg ?_))))
      refine O_v rfl (R_move (v := (.string (nth elems k))) rfl ?_)
      refine O_v rfl (R_len_string Try.underlying9 rfl ?_)
      refine O_v rfl (R_move (v := (.int .i64 ((n : Nat) : Int))) rfl ?_)
      refine O_v rfl (R_arith (a := 9223372036854775807) (b := ((n : Nat) : Int)) (r0 := 9223372036854775807 - ((n : Nat) : Int)) (r := 9223372036854775807 - ((n : Nat) : Int)) rfl rfl rfl (w64 _ (by omega)) ?_)
      refine O_v rfl (R_cmp (a := (((nth elems k).size : Nat) : Int)) (b := (9223372036854775807 - ((n : Nat) : Int))) (r := (decide ((9223372036854775807 - ((n : Nat) : Int)) < (((nth elems k).size : Nat) : Int)))) rfl rfl rfl ?_)
      refine O_nil (Then_n ?_)
      refine W_cond (t := (decide ((9223372036854775807 - ((n : Nat) : Int)) < (((nth elems k).size : Nat) : Int)))) rfl (fun hc12 => ?_) (fun hc12 => ?_)
      ·have hc12 : ((9223372036854775807 - ((n : Nat) : Int)) < (((nth elems k).size : Nat) : Int)) := (of_decide_eq_true hc12)
       exfalso; have h1 := lensTo_succ (xs := elems) (k := k) (by omega); have h2 := lensTo_le (xs := elems) (j := k + 1) (k := elems.length) (by omega) (Nat.le_refl _); omega
      ·have hc12 : ¬ ((9223372036854775807 - ((n : Nat) : Int)) < (((nth elems k).size : Nat) : Int)) := (of_decide_eq_false hc12)
       refine W_skip (Then_n (W_reg ?_))
       refine O_v rfl (R_move (v := (.int .i64 ((n : Nat) : Int))) rfl ?_)
       refine O_v rfl (R_move (v := (.string (nth elems k))) rfl ?_)
       refine O_v rfl (R_len_string Try.underlying9 rfl ?_)
       refine O_v rfl (R_arith (a := ((n : Nat) : Int)) (b := (((nth elems k).size : Nat) : Int)) (r0 := ((n : Nat) : Int) + (((nth elems k).size : Nat) : Int)) (r := ((n + (nth elems k).size : Nat) : Int)) rfl rfl rfl (by have h1 := lensTo_succ (xs := elems) (k := k) (by omega); have h2 := lensTo_le (xs := elems) (j := k + 1) (k := elems.length) (by omega) (Nat.le_refl _); rw [← Int.natCast_add]; exact w64 _ (by omega)) ?_)
       refine O_v rfl (R_assign (v := (.int .i64 ((n + (nth elems k).size : Nat) : Int))) rfl ?_)
       refine O_nil (Blk_n (Then_n (W_reg ?_)))
       refine O_v rfl (R_arith (a := ((k : Nat) : Int)) (b := 1) (r0 := ((k : Nat) : Int) + 1) (r := ((k + 1 : Nat) : Int)) rfl rfl rfl (wrapN _ (by omega)) ?_)
       refine O_v rfl (R_move (v := (.int .i64 ((k + 1 : Nat) : Int))) rfl ?_)
       refine O_nil (Then_n ?_)
       refine ⟨_, ?_, (k + 1), (n + (nth elems k).size), rfl, (by omega), (by rw [lensTo_succ (by omega)]; omega), (lensTo_le (by omega) (Nat.le_refl _)), _, envL_self ⟨rfl, rfl, rfl, rfl, rfl, rfl, rfl, trivial⟩, H10⟩
       omega
     ·have hc11 : ¬ (((k : Nat) : Int) < ((elems.length : Nat) : Int)) := (of_decide_eq_false hc11)
      refine W_exit (Then_x (Then_x (Blk_x (Then_n (W_seq (W_reg ?_))))))
      refine O_v rfl (C_alloc H10 [[(.pointer none)], [(.slice none 0 0)]] Try.zeroValue81 ?_)
      intro b13 w14 hb15 hx16 H17
      refine O_nil (Then_n (W_seq (W_reg ?_)))
      refine O_v rfl (R_move (v := (.int .i64 ((n : Nat) : Int))) rfl ?_)
      refine O_v rfl (R_callL (vs := [(.pointer (some ⟨b13, 0, none⟩)), (.int .i64 ((n : Nat) : Int))]) strings_Join_c43 rfl rfl ((Any.Builder_Grow_fresh laysJ165 laysJX w.heap.size b13 n w14 (Ctx.boxNew H17 0 rfl) (H17.getOwn 0 rfl) H17.gr.size (by have h2 : k = elems.length := (by omega); subst h2; omega)).mono ?_))
      rintro _ w18 ⟨rfl, hB19, hb20⟩
      refine ⟨_, rfl, ?_⟩
      have H21 := H17.below hb20 (List.forall_mem_cons.2 ⟨fun _ h => h, fun _ h => (nomatch h)⟩)
      refine O_nil (Then_n (W_seq (W_reg ?_)))
      refine O_v rfl (R_move (v := (slV helems elems)) rfl ?_)
      refine O_v rfl (R_index_pure (H21.sl 0 rfl) (n := elems.length) rfl (j := 0) (oo := (helems.o + 0 * 1)) Try.underlying65 Try.sizeOf9 rfl rfl (by omega) (by omega) rfl ?_)
      refine O_v rfl (R_load1 (v := (.string (nth elems 0))) Try.isAgg9 rfl ((Sl.elem (H21.sl 0 rfl) (i := 0) (by omega) rfl).chunks 0 1 0 (helems.o + 0 * 1) _ rfl rfl rfl) ?_)
      refine O_v rfl (R_callL (vs := [(.pointer (some ⟨b13, 0, none⟩)), (.string (nth elems 0))]) strings_Join_c44 rfl rfl ((Any.Builder_WriteString laysJ166 laysJX w.heap.size b13 (Lib.byteCells ([] : List UInt8)) (nth elems 0) w18 (Or.inr hB19) (by rw [byteCells_len]; have := joinTo_le (xs := elems) (sep := sep) (j := 1) (by omega) (by omega); rw [joinTo_one (by omega), size_data] at this; simp only [List.length_nil]; omega) H21.gr.size).mono ?_))
      rintro _ w22 ⟨rfl, hB23, hb24⟩
      refine ⟨_, rfl, ?_⟩
      have H25 := H21.below hb24 (List.forall_mem_cons.2 ⟨fun _ h => h, fun _ h => (nomatch h)⟩)
      have hB26 : Lib.IsBuilder 81 5 w.heap.size b13 (Lib.byteCells (([] : List UInt8) ++ (nth elems 0).data.toList)) w22 := byteCells_app ([] : List UInt8) (nth elems 0) ▸ Or.inr hB23
      refine O_nil (Then_n (W_seq (W_seq (W_reg ?_))))
      refine O_v rfl (R_move (v := (slV helems elems)) rfl ?_)
      refine O_v rfl (R_sliceS (h := helems) (l := elems) (a := 1) (b := elems.length) (m := helems.c) (elems.drop 1) Try.underlying65 Try.sizeOf9 rfl rfl rfl rfl (by decide) (by omega) (by first | omega | exact Nat.le_refl _) (by have := Sl.cap (H25.sl 0 rfl); omega) (by first | omega | exact Nat.le_refl _) (by rw [List.take_length])  ?_)
      refine O_v rfl (R_len_slice (a := (hSub helems 1 1 helems.c).a) (n := (elems.drop 1).length) (c := (hSub helems 1 1 helems.c).c) Try.underlying65 rfl ?_)
      refine O_v rfl (R_move (v := (.int .i64 0)) rfl ?_)
      refine O_nil (Then_n (W_block ?_))
      refine W_loop (fun m27 e28 w29 => ∃ (j : Nat), m27 = elems.length - j ∧ (j ≤ elems.length - 1) ∧ (Lib.IsBuilder 81 5 w.heap.size b13 (Lib.byteCells (joinTo elems sep (j + 1))) w29) ∧ ∃ eb30, e28 = envL [(1, (.string sep)), (4, (.string ByteArray.empty)), (8, (.pointer (some ⟨b13, 0, none⟩))), (63, (slV (hSub helems 1 1 helems.c) (elems.drop 1))), (64, (.int .i64 (((elems.drop 1).length : Nat) : Int))), (65, (.int .i64 ((j : Nat) : Int)))] eb30 ∧ Ctx w nob w29 [] [slI (Old w) encS 1 helems elems]) _ ⟨0, rfl, (Nat.zero_le _), (by rw [joinTo_one (by omega)]; exact hB26), _, envL_self ⟨rfl, rfl, rfl, rfl, rfl, rfl, trivial⟩, H25⟩ ?_
      rintro m27 _ w29 ⟨j, rfl, hj, hB, eb30, rfl, H31⟩
      refine W_seq (W_reg ?_)
      refine O_v rfl (R_cmp (a := ((j : Nat) : Int)) (b := (((elems.drop 1).length : Nat) : Int)) (r := (decide (((j : Nat) : Int) < (((elems.drop 1).length : Nat) : Int)))) rfl rfl rfl ?_)
      refine O_nil (Then_n (W_seq ?_))
      refine W_cond (t := (decide (((j : Nat) : Int) < (((elems.drop 1).length : Nat) : Int)))) rfl (fun hc32 => ?_) (fun hc32 => ?_)
      ·have hc32 : (((j : Nat) : Int) < (((elems.drop 1).length : Nat) : Int)) := (of_decide_eq_true hc32)
       refine W_skip (Then_n (W_seq (W_block (W_seq (W_reg ?_)))))
       refine O_v rfl (R_index_pure (Sl.sub (H31.sl 0 rfl) 1 elems.length helems.c (by omega) (by first | omega | exact Nat.le_refl _) (by have := Sl.cap (H25.sl 0 rfl); omega) (by first | omega | exact Nat.le_refl _) (by rw [List.take_length])) (n := (elems.drop 1).length) rfl (j := ((j : Nat) : Int)) (oo := ((hSub helems 1 1 helems.c).o + j * 1)) Try.underlying65 Try.sizeOf9 rfl rfl (by omega) (by omega) rfl ?_)
       refine O_v rfl (R_load1 (v := (.string (nth (elems.drop 1) j))) Try.isAgg9 rfl ((Sl.elem (Sl.sub (H31.sl 0 rfl) 1 elems.length helems.c (by omega) (by first | omega | exact Nat.le_refl _) (by have := Sl.cap (H25.sl 0 rfl); omega) (by first | omega | exact Nat.le_refl _) (by rw [List.take_length])) (i := j) (by omega) rfl).chunks 0 1 0 ((hSub helems 1 1 helems.c).o + j * 1) _ rfl rfl rfl) ?_)
       refine O_v rfl (R_assign (v := (.string (nth (elems.drop 1) j))) rfl ?_)
       refine O_nil (Then_n (W_seq (W_reg ?_)))
       refine O_v rfl (R_move (v := (.string sep)) rfl ?_)
       refine O_v rfl (R_callL (vs := [(.pointer (some ⟨b13, 0, none⟩)), (.string sep)]) strings_Join_c44 rfl rfl ((Any.Builder_WriteString laysJ166 laysJX w.heap.size b13 (Lib.byteCells (joinTo elems sep (j + 1))) sep w29 hB (joinRoom1 htot (by have h := List.length_drop (i := 1) (l := elems); omega)) H31.gr.size).mono ?_))
       rintro _ w33 ⟨rfl, hB34, hb35⟩
       refine ⟨_, rfl, ?_⟩
       have H36 := H31.below hb35 (List.forall_mem_cons.2 ⟨fun _ h => h, fun _ h => (nomatch h)⟩)
       have hB37 : Lib.IsBuilder 81 5 w.heap.size b13 (Lib.byteCells ((joinTo elems sep (j + 1)) ++ sep.data.toList)) w33 := byteCells_app (joinTo elems sep (j + 1)) sep ▸ Or.inr hB34
       refine O_nil (Then_n (W_reg ?_))
       refine O_v rfl (R_move (v := (.string (nth (elems.drop 1) j))) rfl ?_)
       refine O_v rfl (R_callL (vs := [(.pointer (some ⟨b13, 0, none⟩)), (.string (nth (elems.drop 1) j))]) strings_Join_c44 rfl rfl ((Any.Builder_WriteString laysJ166 laysJX w.heap.size b13 (Lib.byteCells ((joinTo elems sep (j + 1)) ++ sep.data.toList)) (nth (elems.drop 1) j) w33 hB37 (joinRoom2 htot (by have h := List.length_drop (i := 1) (l := elems); omega)) H36.gr.size).mono ?_))
       rintro _ w38 ⟨rfl, hB39, hb40⟩
       refine ⟨_, rfl, ?_⟩
       have H41 := H36.below hb40 (List.forall_mem_cons.2 ⟨fun _ h => h, fun _ h => (nomatch h)⟩)
       have hB42 : Lib.IsBuilder 81 5 w.heap.size b13 (Lib.byteCells (((joinTo elems sep (j + 1)) ++ sep.data.toList) ++ (nth (elems.drop 1) j).data.toList)) w38 := byteCells_app ((joinTo elems sep (j + 1)) ++ sep.data.toList) (nth (elems.drop 1) j) ▸ Or.inr hB39
       refine O_nil (Blk_n (Then_n (W_reg ?_)))
       refine O_v rfl (R_arith (a := ((j : Nat) : Int)) (b := 1) (r0 := ((j : Nat) : Int) + 1) (r := ((j + 1 : Nat) : Int)) rfl rfl rfl (wrapN _ (by omega)) ?_)
       refine O_v rfl (R_move (v := (.int .i64 ((j + 1 : Nat) : Int))) rfl ?_)
       refine O_nil (Then_n ?_)
       refine ⟨_, ?_, (j + 1), rfl, (by simp only [List.length_drop] at *; omega), (by rw [joinTo_succ (by omega) (by simp only [List.length_drop] at *; omega)]; exact nth_drop1 (xs := elems) (j := j) ▸ hB42), _, envL_self ⟨rfl, rfl, rfl, rfl, rfl, rfl, trivial⟩, H41⟩
       simp only [List.length_drop] at *; omega
      ·have hc32 : ¬ (((j : Nat) : Int) < (((elems.drop 1).length : Nat) : Int)) := (of_decide_eq_false hc32)
       refine W_exit (Then_x (Then_x (Blk_x (Then_n (W_seq (W_reg ?_))))))
       refine O_v rfl (R_callL (vs := [(.pointer (some ⟨b13, 0, none⟩))]) strings_Join_c45 rfl rfl ((Any.Builder_String_any laysJ169 laysJX w.heap.size b13 (joinTo elems sep (j + 1)) w29 hB H31.gr.size).mono ?_))
       rintro _ w43 ⟨rfl, hb45⟩
       refine ⟨_, rfl, ?_⟩
       have H46 := H31.below hb45 (List.forall_mem_cons.2 ⟨fun _ h => h, fun _ h => (nomatch h)⟩)
       refine O_v rfl (R_assign (v := (.string (⟨(joinTo elems sep (j + 1)).toArray⟩ : ByteArray))) rfl ?_)
       refine O_nil (Then_n (W_ret ?_))
       refine ret_1 (v := (.string (⟨(joinTo elems sep (j + 1)).toArray⟩ : ByteArray))) Try.results33 rfl ?_
       exact ⟨(by rw [joinB_of (j := j) (by have h := List.length_drop (i := 1) (l := elems); omega)]), H46.gr⟩
   ·have hc4 : ¬ (0 < ((sep.size : Nat) : Int)) := (of_decide_eq_false hc4)
    refine W_skip (Then_n (W_seq (W_seq (W_reg ?_))))
    refine O_v rfl (R_move (v := (slV helems elems)) rfl ?_)
    refine O_v rfl (R_len_slice (a := helems.a) (n := elems.length) (c := helems.c) Try.underlying65 rfl ?_)
    refine O_v rfl (R_move (v := (.int .i64 0)) rfl ?_)
    refine O_nil (Then_n (W_block ?_))
    refine W_loop (fun m47 e48 w49 => ∃ (k : Nat), ∃ (n : Nat), m47 = elems.length - k ∧ (k ≤ elems.length) ∧ (n = sep.size * (elems.length - 1) + lensTo elems k) ∧ (lensTo elems k ≤ lensTo elems elems.length) ∧ ∃ eb50, e48 = envL [(0, (slV helems elems)), (1, (.string sep)), (4, (.string ByteArray.empty)), (5, (.int .i64 ((n : Nat) : Int))), (39, (slV helems elems)), (40, (.int .i64 ((elems.length : Nat) : Int))), (41, (.int .i64 ((k : Nat) : Int)))] eb50 ∧ Ctx w nob w49 [] [slI (Old w) encS 1 helems elems]) _ ⟨0, 0, rfl, (Nat.zero_le _), (by rw [show sep.size = 0 from by omega, show lensTo elems 0 = 0 from rfl]; omega), (lensTo_le (Nat.zero_le _) (Nat.le_refl _)), _, envL_self ⟨rfl, rfl, rfl, rfl, rfl, rfl, rfl, trivial⟩, H1⟩ ?_
    rintro m47 _ w49 ⟨k, n, rfl, hk, hn, hle, eb50, rfl, H51⟩
    refine W_seq (W_reg ?_)
    refine O_v rfl (R_cmp (a := ((k : Nat) : Int)) (b := ((elems.length : Nat) : Int)) (r := (decide (((k : Nat) : Int) < ((elems.length : Nat) : Int)))) rfl rfl rfl ?_)
    refine O_nil (Then_n (W_seq ?_))
    refine W_cond (t := (decide (((k : Nat) : Int) < ((elems.length : Nat) : Int)))) rfl (fun hc52 => ?_) (fun hc52 => ?_)
    ·have hc52 : (((k : Nat) : Int) < ((elems.length : Nat) : Int)) := (of_decide_eq_true hc52)
     refine W_skip (Then_n (W_seq (W_block (W_seq (W_reg ?_)))))
     refine O_v rfl (R_index_pure (H51.sl 0 rfl) (n := elems.length) rfl (j := ((k : Nat) : Int)) (oo := (helems.o + k * 1)) Try.underlying65 Try.sizeOf9 rfl rfl (by omega) (by omega) rfl ?_)
     refine O_v rfl (R_load1 (v := (.string (nth elems k))) Try.isAgg9 rfl ((Sl.elem (H51.sl 0 rfl) (i := k) (by omega) rfl).chunks 0 1 0 (helems.o + k * 1) _ rfl rfl rfl) ?_)
     refine O_v rfl (R_assign (v := (.string (nth elems k))) rfl ?_)
     refine O_nil (Then_n (W_seq (W_seq (W_reg ?_))))
     refine O_v rfl (R_move (v := (.string (nth elems k))) rfl ?_)
     refine O_v rfl (R_len_string Try.underlying9 rfl ?_)
     refine O_v rfl (R_move (v := (.int .i64 ((n : Nat) : Int))) rfl ?_)
     refine O_v rfl (R_arith (a := 9223372036854775807) (b := ((n : Nat) : Int)) (r0 := 9223372036854775807 - ((n : Nat) : Int)) (r := 9223372036854775807 - ((n : Nat) : Int)) rfl rfl rfl (w64 _ (by omega)) ?_)
     refine O_v rfl (R_cmp (a := (((nth elems k).size : Nat) : Int)) (b := (9223372036854775807 - ((n : Nat) : Int))) (r := (decide ((9223372036854775807 - ((n : Nat) : Int)) < (((nth elems k).size : Nat) : Int)))) rfl rfl rfl ?_)
     refine O_nil (Then_n ?_)
     refine W_cond (t := (decide ((9223372036854775807 - ((n : Nat) : Int)) < (((nth elems k).size : Nat) : Int)))) rfl (fun hc53 => ?_) (fun hc53 => ?_)
     ·have hc53 : ((9223372036854775807 - ((n : Nat) : Int)) < (((nth elems k).size : Nat) : Int)) := (of_decide_eq_true hc53)
      exfalso; have h1 := lensTo_succ (xs := elems) (k := k) (by omega); have h2 := lensTo_le (xs := elems) (j := k + 1) (k := elems.length) (by omega) (Nat.le_refl _); omega
     ·have hc53 : ¬ ((9223372036854775807 - ((n : Nat) : Int)) < (((nth elems k).size : Nat) : Int)) := (of_decide_eq_false hc53)
      refine W_skip (Then_n (W_reg ?_))
      refine O_v rfl (R_move (v := (.int .i64 ((n : Nat) : Int))) rfl ?_)
      refine O_v rfl (R_move (v := (.string (nth elems k))) rfl ?_)
      refine O_v rfl (R_len_string Try.underlying9 rfl ?_)
      refine O_v rfl (R_arith (a := ((n : Nat) : Int)) (b := (((nth elems k).size : Nat) : Int)) (r0 := ((n : Nat) : Int) + (((nth elems k).size : Nat) : Int)) (r := ((n + (nth elems k).size : Nat) : Int)) rfl rfl rfl (by have h1 := lensTo_succ (xs := elems) (k := k) (by omega); have h2 := lensTo_le (xs := elems) (j := k + 1) (k := elems.length) (by omega) (Nat.le_refl _); rw [← Int.natCast_add]; exact w64 _ (by omega)) ?_)
      refine O_v rfl (R_assign (v := (.int .i64 ((n + (nth elems k).size : Nat) : Int))) rfl ?_)
      refine O_nil (Blk_n (Then_n (W_reg ?_)))
      refine O_v rfl (R_arith (a := ((k : Nat) : Int)) (b := 1) (r0 := ((k : Nat) : Int) + 1) (r := ((k + 1 : Nat) : Int)) rfl rfl rfl (wrapN _ (by omega)) ?_)
      refine O_v rfl (R_move (v := (.int .i64 ((k + 1 : Nat) : Int))) rfl ?_)
      refine O_nil (Then_n ?_)
      refine ⟨_, ?_, (k + 1), (n + (nth elems k).size), rfl, (by omega), (by rw [lensTo_succ (by omega)]; omega), (lensTo_le (by omega) (Nat.le_refl _)), _, envL_self ⟨rfl, rfl, rfl, rfl, rfl, rfl, rfl, trivial⟩, H51⟩
      omega
    ·have hc52 : ¬ (((k : Nat) : Int) < ((elems.length : Nat) : Int)) := (of_decide_eq_false hc52)
     refine W_exit (Then_x (Then_x (Blk_x (Then_n (W_seq (W_reg ?_))))))
     refine O_v rfl (C_alloc H51 [[(.pointer none)], [(.slice none 0 0)]] Try.zeroValue81 ?_)
     intro b54 w55 hb56 hx57 H58
     refine O_nil (Then_n (W_seq (W_reg ?_)))
     refine O_v rfl (R_move (v := (.int .i64 ((n : Nat) : Int))) rfl ?_)
     refine O_v rfl (R_callL (vs := [(.pointer (some ⟨b54, 0, none⟩)), (.int .i64 ((n : Nat) : Int))]) strings_Join_c43 rfl rfl ((Any.Builder_Grow_fresh laysJ165 laysJX w.heap.size b54 n w55 (Ctx.boxNew H58 0 rfl) (H58.getOwn 0 rfl) H58.gr.size (by have h2 : k = elems.length := (by omega); subst h2; omega)).mono ?_))
     rintro _ w59 ⟨rfl, hB60, hb61⟩
     refine ⟨_, rfl, ?_⟩
     have H62 := H58.below hb61 (List.forall_mem_cons.2 ⟨fun _ h => h, fun _ h => (nomatch h)⟩)
     refine O_nil (Then_n (W_seq (W_reg ?_)))
     refine O_v rfl (R_move (v := (slV helems elems)) rfl ?_)
     refine O_v rfl (R_index_pure (H62.sl 0 rfl) (n := elems.length) rfl (j := 0) (oo := (helems.o + 0 * 1)) Try.underlying65 Try.sizeOf9 rfl rfl (by omega) (by omega) rfl ?_)
     refine O_v rfl (R_load1 (v := (.string (nth elems 0))) Try.isAgg9 rfl ((Sl.elem (H62.sl 0 rfl) (i := 0) (by omega) rfl).chunks 0 1 0 (helems.o + 0 * 1) _ rfl rfl rfl) ?_)
     refine O_v rfl (R_callL (vs := [(.pointer (some ⟨b54, 0, none⟩)), (.string (nth elems 0))]) strings_Join_c44 rfl rfl ((Any.Builder_WriteString laysJ166 laysJX w.heap.size b54 (Lib.byteCells ([] : List UInt8)) (nth elems 0) w59 (Or.inr hB60) (by rw [byteCells_len]; have := joinTo_le (xs := elems) (sep := sep) (j := 1) (by omega) (by omega); rw [joinTo_one (by omega), size_data] at this; simp only [List.length_nil]; omega) H62.gr.size).mono ?_))
     rintro _ w63 ⟨rfl, hB64, hb65⟩
     refine ⟨_, rfl, ?_⟩
     have H66 := H62.below hb65 (List.forall_mem_cons.2 ⟨fun _ h => h, fun _ h => (nomatch h)⟩)
     have hB67 : Lib.IsBuilder 81 5 w.heap.size b54 (Lib.byteCells (([] : List UInt8) ++ (nth elems 0).data.toList)) w63 := byteCells_app ([] : List UInt8) (nth elems 0) ▸ Or.inr hB64
     refine O_nil (Then_n (W_seq (W_seq (W_reg ?_))))
     refine O_v rfl (R_move (v := (slV helems elems)) rfl ?_)
     refine O_v rfl (R_sliceS (h := helems) (l := elems) (a := 1) (b := elems.length) (m := helems.c) (elems.drop 1) Try.underlying65 Try.sizeOf9 rfl rfl rfl rfl (by decide) (by omega) (by first | omega | exact Nat.le_refl _) (by have := Sl.cap (H66.sl 0 rfl); omega) (by first | omega | exact Nat.le_refl _) (by rw [List.take_length])  ?_)
     refine O_v rfl (R_len_slice (a := (hSub helems 1 1 helems.c).a) (n := (elems.drop 1).length) (c := (hSub helems 1 1 helems.c).c) Try.underlying65 rfl ?_)
     refine O_v rfl (R_move (v := (.int .i64 0)) rfl ?_)
     refine O_nil (Then_n (W_block ?_))
     refine W_loop (fun m68 e69 w70 => ∃ (j : Nat), m68 = elems.length - j ∧ (j ≤ elems.length - 1) ∧ (Lib.IsBuilder 81 5 w.heap.size b54 (Lib.byteCells (joinTo elems sep (j + 1))) w70) ∧ ∃ eb71, e69 = envL [(1, (.string sep)), (4, (.string ByteArray.empty)), (8, (.pointer (some ⟨b54, 0, none⟩))), (63, (slV (hSub helems 1 1 helems.c) (elems.drop 1))), (64, (.int .i64 (((elems.drop 1).length : Nat) : Int))), (65, (.int .i64 ((j : Nat) : Int)))] eb71 ∧ Ctx w nob w70 [] [slI (Old w) encS 1 helems elems]) _ ⟨0, rfl, (Nat.zero_le _), (by rw [joinTo_one (by omega)]; exact hB67), _, envL_self ⟨rfl, rfl, rfl, rfl, rfl, rfl, trivial⟩, H66⟩ ?_
     rintro m68 _ w70 ⟨j, rfl, hj, hB, eb71, rfl, H72⟩
     refine W_seq (W_reg ?_)
     refine O_v rfl (R_cmp (a := ((j : Nat) : Int)) (b := (((elems.drop 1).length : Nat) : Int)) (r := (decide (((j : Nat) : Int) < (((elems.drop 1).length : Nat) : Int)))) rfl rfl rfl ?_)
     refine O_nil (Then_n (W_seq ?_))
     refine W_cond (t := (decide (((j : Nat) : Int) < (((elems.drop 1).length : Nat) : Int)))) rfl (fun hc73 => ?_) (fun hc73 => ?_)
     ·have hc73 : (((j : Nat) : Int) < (((elems.drop 1).length : Nat) : Int)) := (of_decide_eq_true hc73)
      refine W_skip (Then_n (W_seq (W_block (W_seq (W_reg ?_)))))
      refine O_v rfl (R_index_pure (Sl.sub (H72.sl 0 rfl) 1 elems.length helems.c (by omega) (by first | omega | exact Nat.le_refl _) (by have := Sl.cap (H66.sl 0 rfl); omega) (by first | omega | exact Nat.le_refl _) (by rw [List.take_length])) (n := (elems.drop 1).length) rfl (j := ((j : Nat) : Int)) (oo := ((hSub helems 1 1 helems.c).o + j * 1)) Try.underlying65 Try.sizeOf9 rfl rfl (by omega) (by omega) rfl ?_)
      refine O_v rfl (R_load1 (v := (.string (nth (elems.drop 1) j))) Try.isAgg9 rfl ((Sl.elem (Sl.sub (H72.sl 0 rfl) 1 elems.length helems.c (by omega) (by first | omega | exact Nat.le_refl _) (by have := Sl.cap (H66.sl 0 rfl); omega) (by first | omega | exact Nat.le_refl _) (by rw [List.take_length])) (i := j) (by omega) rfl).chunks 0 1 0 ((hSub helems 1 1 helems.c).o + j * 1) _ rfl rfl rfl) ?_)
      refine O_v rfl (R_assign (v := (.string (nth (elems.drop 1) j))) rfl ?_)
      refine O_nil (Then_n (W_seq (W_reg ?_)))
      refine O_v rfl (R_move (v := (.string sep)) rfl ?_)
      refine O_v rfl (R_callL (vs := [(.pointer (some ⟨b54, 0, none⟩)), (.string sep)]) strings_Join_c44 rfl rfl ((Any.Builder_WriteString laysJ166 laysJX w.heap.size b54 (Lib.byteCells (joinTo elems sep (j + 1))) sep w70 hB (joinRoom1 htot (by have h := List.length_drop (i := 1) (l := elems); omega)) H72.gr.size).mono ?_))
      rintro _ w74 ⟨rfl, hB75, hb76⟩
      refine ⟨_, rfl, ?_⟩
      have H77 := H72.below hb76 (List.forall_mem_cons.2 ⟨fun _ h => h, fun _ h => (nomatch h)⟩)
      have hB78 : Lib.IsBuilder 81 5 w.heap.size b54 (Lib.byteCells ((joinTo elems sep (j + 1)) ++ sep.data.toList)) w74 := byteCells_app (joinTo elems sep (j + 1)) sep ▸ Or.inr hB75
      refine O_nil (Then_n (W_reg ?_))
      refine O_v rfl (R_move (v := (.string (nth (elems.drop 1) j))) rfl ?_)
      refine O_v rfl (R_callL (vs := [(.pointer (some ⟨b54, 0, none⟩)), (.string (nth (elems.drop 1) j))]) strings_Join_c44 rfl rfl ((Any.Builder_WriteString laysJ166 laysJX w.heap.size b54 (Lib.byteCells ((joinTo elems sep (j + 1)) ++ sep.data.toList)) (nth (elems.drop 1) j) w74 hB78 (joinRoom2 htot (by have h := List.length_drop (i := 1) (l := elems); omega)) H77.gr.size).mono ?_))
      rintro _ w79 ⟨rfl, hB80, hb81⟩
      refine ⟨_, rfl, ?_⟩
      have H82 := H77.below hb81 (List.forall_mem_cons.2 ⟨fun _ h => h, fun _ h => (nomatch h)⟩)
      have hB83 : Lib.IsBuilder 81 5 w.heap.size b54 (Lib.byteCells (((joinTo elems sep (j + 1)) ++ sep.data.toList) ++ (nth (elems.drop 1) j).data.toList)) w79 := byteCells_app ((joinTo elems sep (j + 1)) ++ sep.data.toList) (nth (elems.drop 1) j) ▸ Or.inr hB80
      refine O_nil (Blk_n (Then_n (W_reg ?_)))
      refine O_v rfl (R_arith (a := ((j : Nat) : Int)) (b := 1) (r0 := ((j : Nat) : Int) + 1) (r := ((j + 1 : Nat) : Int)) rfl rfl rfl (wrapN _ (by omega)) ?_)
      refine O_v rfl (R_move (v := (.int .i64 ((j + 1 : Nat) : Int))) rfl ?_)
      refine O_nil (Then_n ?_)
      refine ⟨_, ?_, (j + 1), rfl, (by simp only [List.length_drop] at *; omega), (by rw [joinTo_succ (by omega) (by simp only [List.length_drop] at *; omega)]; exact nth_drop1 (xs := elems) (j := j) ▸ hB83), _, envL_self ⟨rfl, rfl, rfl, rfl, rfl, rfl, trivial⟩, H82⟩
      simp only [List.length_drop] at *; omega
     ·have hc73 : ¬ (((j : Nat) : Int) < (((elems.drop 1).length : Nat) : Int)) := (of_decide_eq_false hc73)
      refine W_exit (Then_x (Then_x (Blk_x (Then_n (W_seq (W_reg ?_))))))
      refine O_v rfl (R_callL (vs := [(.pointer (some ⟨b54, 0, none⟩))]) strings_Join_c45 rfl rfl ((Any.Builder_String_any laysJ169 laysJX w.heap.size b54 (joinTo elems sep (j + 1)) w70 hB H72.gr.size).mono ?_))
      rintro _ w84 ⟨rfl, hb86⟩
      refine ⟨_, rfl, ?_⟩
      have H87 := H72.below hb86 (List.forall_mem_cons.2 ⟨fun _ h => h, fun _ h => (nomatch h)⟩)
      refine O_v rfl (R_assign (v := (.string (⟨(joinTo elems sep (j + 1)).toArray⟩ : ByteArray))) rfl ?_)
      refine O_nil (Then_n (W_ret ?_))
      refine ret_1 (v := (.string (⟨(joinTo elems sep (j + 1)).toArray⟩ : ByteArray))) Try.results33 rfl ?_
      exact ⟨(by rw [joinB_of (j := j) (by have h := List.length_drop (i := 1) (l := elems); omega)]), H87.gr⟩

end Go.Proofs.Ytiknfldhommmpaa
namespace Go.Proofs.Ytiknfldhommmpaa
open Go
set_option maxRecDepth 100000
set_option linter.unusedVariables false
set_option linter.unusedSimpArgs false
theorem differ_Path_c24 : callable Try.prog 24 = true := by kernel_rfl
theorem differ_Path_c25 : callable Try.prog 25 = true := by kernel_rfl
theorem differ_Path_c32 : callable Try.prog 32 = true := by kernel_rfl
theorem differ_Path_c33 : callable Try.prog 33 = true := by kernel_rfl
set_option maxHeartbeats 1000000 in
theorem differ_Path (hrows : SlH) (rows : List RowS) (node : Stamp) (w : World) (Srows : Sl (Old w) rowCh 8 hrows rows w) (hl : rows.length ≤ 1048576) (hnm : ∀ x ∈ rows, x.name.size ≤ 60) :
    Calls Try.prog 12 #[(slV hrows rows), (aggOf (stampCh node))] w (Ret fun v w' => v = (.string (pathOf rows node)) ∧ Ext w w') := by
 refine calls_W Try.func12 rfl Try.ntmps12 rfl ?_
 have H0 := Ctx.start w nob
 have H1 := H0.addSl _ Srows (fun b hb => ⟨hb, fun _ ho => (nomatch ho)⟩)
 have LSrows := Srows.len
 have htl := tableOf_len rows
 refine W_seq (W_reg ?_)
 refine O_v rfl (C_box H1 [[(.int .i64 node.T)], [(.int .i64 node.R)]] rfl ?_)
 intro b2 w3 hb4 hx5 H6
 refine O_v rfl (R_assign (v := (.string ByteArray.empty)) rfl ?_)
 refine O_nil (Then_n (W_seq (W_reg ?_)))
 refine O_v rfl (R_move (v := (slV hrows rows)) rfl ?_)
 refine O_v rfl (R_callL (vs := [(slV hrows rows)]) differ_Path_c24 rfl rfl ((differ_of hrows rows w3 (H6.slOld 0 rfl)).ret ?_))
 rintro _ w8 ⟨r7, rfl, hx9, hr10, hm11⟩
 have H12 := C_addMap H6 hx9 hr10 hm11
 refine O_v rfl (R_assign (v := (.map (some r7))) rfl ?_)
 refine O_nil (Then_n (W_seq (W_seq (W_reg ?_))))
 refine O_v rfl (R_move (v := (.map (some r7))) rfl ?_)
 refine O_v rfl (R_loadA (cs := [[(.int .i64 node.T)], [(.int .i64 node.R)]]) Try.isAgg24 Try.sizeOf24 rfl rfl ((boxR_at (H12.getOwn 1 rfl)).chunks 0 2 0 0 _ rfl rfl rfl) ?_)
 refine O_v rfl (R_callL (vs := [(.map (some r7)), (aggOf (stampCh node))]) differ_Path_c25 rfl rfl ((differ_place r7 (tableOf rows) node w8 (H12.getOwn 0 rfl) (by have := tableOf_len rows; omega)).ret ?_))
 rintro _ w13 ⟨rfl, hx14⟩
 have H15 := H12.ext hx14
 refine O_v rfl (R_move (v := (.tuple #[(aggOf (stampCh ((placeOf (tableOf rows) node).1))), (.bool ((placeOf (tableOf rows) node).2))])) rfl ?_)
 refine O_v rfl (R_extract (v := (aggOf (stampCh ((placeOf (tableOf rows) node).1)))) rfl rfl ?_)
 refine O_v rfl (R_extract (v := (.bool ((placeOf (tableOf rows) node).2))) rfl rfl ?_)
 refine O_v rfl (C_alloc H15 [[(.int .i64 0)], [(.int .i64 0)]] Try.zeroValue24 ?_)
 intro b16 w17 hb18 hx19 H20
 refine O_u (C_storeA H20 0 rfl 0 (sub := [[(.int .i64 (((placeOf (tableOf rows) node).1).T))], [(.int .i64 (((placeOf (tableOf rows) node).1).R))]]) [[(.int .i64 (((placeOf (tableOf rows) node).1).T))], [(.int .i64 (((placeOf (tableOf rows) node).1).R))]] Try.sizeOf24 rfl rfl rfl rfl ⟨[[(.int .i64 0)], [(.int .i64 0)]], [], rfl, rfl, rfl⟩ rfl ?_)
 intro w21 hg22 H23
 refine O_v rfl (R_assign (v := (.bool ((placeOf (tableOf rows) node).2))) rfl ?_)
 refine O_nil (Then_n (W_seq ?_))
 refine W_rg [(0, .q false), (1, .q false), (2, .q false), (3, .q false), (4, .q false), (5, .q false), (6, .q false)] (by kernel_rfl) ?_
 refine Lx_q (i := 0) rfl rfl _ (fun v24 hv25 => R_move (v := (.bool ((placeOf (tableOf rows) node).2))) rfl ⟨rfl, Gr.refl _ _⟩) ?_
 refine Lx_q (i := 1) rfl rfl _ (fun v26 hv27 => R_not rfl ⟨rfl, Gr.refl _ _⟩) ?_
 refine Lx_q (i := 2) rfl rfl _ (fun v28 hv29 => R_move (v := (.bool (!((placeOf (tableOf rows) node).2)))) rfl ⟨rfl, Gr.refl _ _⟩) ?_
 refine Lx_qg (i := 3) true (!((placeOf (tableOf rows) node).2)) rfl rfl rfl rfl rfl (!(!((placeOf (tableOf rows) node).2))) ga_f _ (fun hA v30 hv31 => R_loadA (cs := [[(.int .i64 (((placeOf (tableOf rows) node).1).T))], [(.int .i64 (((placeOf (tableOf rows) node).1).R))]]) Try.isAgg24 Try.sizeOf24 rfl rfl ((boxR_at ((H23.ext hv31).getOwn 0 rfl)).chunks 0 2 0 0 _ rfl rfl rfl) ⟨rfl, Gr.refl _ _⟩) ?_
 refine Lx_qg (i := 4) true (!((placeOf (tableOf rows) node).2)) rfl rfl rfl rfl rfl (!(!((placeOf (tableOf rows) node).2))) ga_f _ (fun hA v32 hv33 => R_buildL (vs := []) (v := aggOf [[(.int .i64 0)], [(.int .i64 0)]]) rfl (fun _ => by kernel_rfl) ⟨rfl, Gr.refl _ _⟩) ?_
 refine Lx_qg (i := 5) true (!((placeOf (tableOf rows) node).2)) rfl rfl rfl rfl rfl (!(!((placeOf (tableOf rows) node).2))) ga_f _ (fun hA v34 hv35 => R_nev (a := ((placeOf (tableOf rows) node).1)) (b := ({ T := 0, R := 0 } : Stamp)) eqv_Stamp24 rfl Try.eqGuardType24 (gv_t hA) (gv_t hA) ⟨rfl, Gr.refl _ _⟩) ?_
 refine Lx_q (i := 6) rfl rfl _ (fun v36 hv37 => R_pick (t := (!((placeOf (tableOf rows) node).2))) (v := (.bool ((!((placeOf (tableOf rows) node).2)) || (!(decide (((placeOf (tableOf rows) node).1) = ({ T := 0, R := 0 } : Stamp))))))) rfl pk_or ⟨rfl, Gr.refl _ _⟩) ?_
 refine Lx_nil (fun w38 hw39 => ?_)
 have H40 := H23.ext hw39
 refine Then_n ?_
 refine W_cond (t := ((!((placeOf (tableOf rows) node).2)) || (!(decide (((placeOf (tableOf rows) node).1) = ({ T := 0, R := 0 } : Stamp)))))) rfl (fun hc41 => ?_) (fun hc41 => ?_)
 ·have hc41 : (((placeOf (tableOf rows) node).2) = false ∨ ¬ (((placeOf (tableOf rows) node).1) = ({ T := 0, R := 0 } : Stamp))) := (Or.imp (fun h => (notT h)) (fun h => (of_decide_eq_false (notT h))) (orT hc41))
  refine W_seq (W_reg ?_)
  refine O_v rfl (R_assign (v := (.string ByteArray.empty)) rfl ?_)
  refine O_nil (Then_n (W_ret (Then_r ?_)))
  refine ret_1 (v := (.string ByteArray.empty)) Try.results12 rfl ?_
  exact ⟨(by rw [pathOf_none (by assumption)]), H40.gr⟩
 ·have hc41 : (((placeOf (tableOf rows) node).2) = true ∧ (((placeOf (tableOf rows) node).1) = ({ T := 0, R := 0 } : Stamp))) := (And.imp (fun h => (notF h)) (fun h => (of_decide_eq_true (notF h))) (orF hc41))
  refine W_skip (Then_n (W_seq (W_reg ?_)))
  refine O_v rfl (R_assign (v := (.slice none 0 0)) rfl ?_)
  refine O_nil (Then_n (W_seq (W_block ?_)))
  have H42 := H40.addNil 9 1 encS
  refine W_loop (fun m44 e45 w46 => ∃ (n : Nat), ∃ (nd : Stamp), ∃ (acc : List ByteArray), ∃ (h43 : SlH), m44 = n + 1 ∧ (n ≤ (tableOf rows).length + 1) ∧ (placeGo (tableOf rows) n nd = (⟨0, 0⟩, true)) ∧ (acc ++ namesGo (tableOf rows) n nd = namesGo (tableOf rows) ((tableOf rows).length + 1) node) ∧ (acc.length + n ≤ (tableOf rows).length + 1) ∧ (∀ x ∈ acc, x.size ≤ 60) ∧ ∃ eb47, e45 = envL [(3, (.pointer (some ⟨b2, 0, none⟩))), (4, (.string ByteArray.empty)), (5, (.map (some r7))), (8, (slV h43 acc))] eb47 ∧ Ctx w nob w46 [rowR 9 1 encS h43 acc, boxR b16 24 [[(.int .i64 (((placeOf (tableOf rows) node).1).T))], [(.int .i64 (((placeOf (tableOf rows) node).1).R))]], mapO r7 (fun x : Stamp => stampV x) rowV (tableOf rows), boxR b2 24 [[(.int .i64 nd.T)], [(.int .i64 nd.R)]]] [slI (Old w) rowCh 8 hrows rows]) _ ⟨((tableOf rows).length + 1), node, [], nilH, rfl, (Nat.le_refl _), (place_conj (by assumption)), rfl, (by simp), (fun _ h => (nomatch h)), _, envL_self ⟨rfl, rfl, rfl, rfl, trivial⟩, H42⟩ ?_
  rintro m44 _ w46 ⟨n, nd, acc, h43, rfl, hn, hp, ha, hal, hs, eb47, rfl, H48⟩
  refine W_seq (W_seq (W_reg ?_))
  refine O_v rfl (R_fieldAddr (off := 0) (oo := 0) Try.underlying24 rfl rfl Try.sizeOf2 rfl rfl ?_)
  refine O_v rfl (R_load1 (v := (.int .i64 nd.T)) Try.isAgg2 rfl ((boxR_at (H48.getOwn 3 rfl)).chunks 0 1 0 0 _ rfl rfl rfl) ?_)
  refine O_v rfl (R_cmp (a := nd.T) (b := 0) (r := (!(decide (nd.T = 0)))) rfl rfl rfl ?_)
  refine O_nil (Then_n ?_)
  refine W_cond (t := (!(decide (nd.T = 0)))) rfl (fun hc49 => ?_) (fun hc49 => ?_)
  ·have hc49 : ¬ (nd.T = 0) := (of_decide_eq_false (notT hc49))
   refine W_skip (Then_n (W_block (W_seq (W_reg ?_))))
   refine O_v rfl (R_move (v := (slV h43 acc)) rfl ?_)
   refine O_v rfl (R_move (v := (.map (some r7))) rfl ?_)
   refine O_v rfl (R_loadA (cs := [[(.int .i64 nd.T)], [(.int .i64 nd.R)]]) Try.isAgg24 Try.sizeOf24 rfl rfl ((boxR_at (H48.getOwn 3 rfl)).chunks 0 2 0 0 _ rfl rfl rfl) ?_)
   refine O_v rfl (R_lookup (kk := nd) (z := zeroRow) keyT_Stamp24 Try.underlying56 Try.zeroValue44 (H48.getOwn 2 rfl) rfl rfl ?_)
   refine O_v rfl (R_field1 (cs := [[(.int .i64 ((((kvGet (tableOf rows) nd).getD zeroRow).node).T))], [(.int .i64 ((((kvGet (tableOf rows) nd).getD zeroRow).node).R))], [(.int .i64 ((((kvGet (tableOf rows) nd).getD zeroRow).par).T))], [(.int .i64 ((((kvGet (tableOf rows) nd).getD zeroRow).par).R))], [(.int .i64 ((((kvGet (tableOf rows) nd).getD zeroRow).tm).T))], [(.int .i64 ((((kvGet (tableOf rows) nd).getD zeroRow).tm).R))], [(.string (((kvGet (tableOf rows) nd).getD zeroRow).name))], [(slV (((kvGet (tableOf rows) nd).getD zeroRow).hh) (((kvGet (tableOf rows) nd).getD zeroRow).heads))]]) (kk := 6) (v := (.string (((kvGet (tableOf rows) nd).getD zeroRow).name))) (off := 6) Try.underlying44 rfl rfl Try.isAgg9 rfl rfl rfl ?_)
   refine O_v rfl (C_buildSliceL H48 (enc := encS) (val := strV) ([((kvGet (tableOf rows) nd).getD zeroRow).name] : List ByteArray) Try.underlying65 Try.sizeOf9 Try.zeroValue9 rfl (by decide) (fun _ => rfl) (fun _ => rfl) rfl rfl (by decide) ?_)
   intro b50 w51 hb52 hx53 H54
   refine O_v rfl (C_append H54 1 rfl (bytes := 16) (l := acc) (ys := ([((kvGet (tableOf rows) nd).getD zeroRow).name] : List ByteArray)) Try.underlying65 rfl rfl rfl rfl rfl (by decide) rfl rfl (OwnS.sl (H54.getOwn 0 rfl) (fun _ => rfl)) (fun _ => rfl) (fun _ => rfl) (by simp only [List.length_append, List.length_cons, List.length_nil]; omega) (by decide) ?_)
   intro h55 w56 hg57 H58
   refine O_v rfl (R_assign (v := (slV h55 (acc ++ ([((kvGet (tableOf rows) nd).getD zeroRow).name] : List ByteArray)))) rfl ?_)
   refine O_nil (Then_n (W_reg ?_))
   refine O_v rfl (R_move (v := (.map (some r7))) rfl ?_)
   refine O_v rfl (R_loadA (cs := [[(.int .i64 nd.T)], [(.int .i64 nd.R)]]) Try.isAgg24 Try.sizeOf24 rfl rfl ((boxR_at (H58.getOwn 4 rfl)).chunks 0 2 0 0 _ rfl rfl rfl) ?_)
   refine O_v rfl (R_lookup (kk := nd) (z := zeroRow) keyT_Stamp24 Try.underlying56 Try.zeroValue44 (H58.getOwn 3 rfl) rfl rfl ?_)
   refine O_v rfl (R_field (cs := [[(.int .i64 ((((kvGet (tableOf rows) nd).getD zeroRow).node).T))], [(.int .i64 ((((kvGet (tableOf rows) nd).getD zeroRow).node).R))], [(.int .i64 ((((kvGet (tableOf rows) nd).getD zeroRow).par).T))], [(.int .i64 ((((kvGet (tableOf rows) nd).getD zeroRow).par).R))], [(.int .i64 ((((kvGet (tableOf rows) nd).getD zeroRow).tm).T))], [(.int .i64 ((((kvGet (tableOf rows) nd).getD zeroRow).tm).R))], [(.string (((kvGet (tableOf rows) nd).getD zeroRow).name))], [(slV (((kvGet (tableOf rows) nd).getD zeroRow).hh) (((kvGet (tableOf rows) nd).getD zeroRow).heads))]]) (sub := [[(.int .i64 ((((kvGet (tableOf rows) nd).getD zeroRow).par).T))], [(.int .i64 ((((kvGet (tableOf rows) nd).getD zeroRow).par).R))]]) (kk := 2) (m := 2) (off := 2) Try.underlying44 rfl rfl Try.isAgg24 Try.sizeOf24 rfl rfl rfl rfl ?_)
   refine O_u (C_storeA H58 4 rfl 0 (sub := [[(.int .i64 ((((kvGet (tableOf rows) nd).getD zeroRow).par).T))], [(.int .i64 ((((kvGet (tableOf rows) nd).getD zeroRow).par).R))]]) [[(.int .i64 ((((kvGet (tableOf rows) nd).getD zeroRow).par).T))], [(.int .i64 ((((kvGet (tableOf rows) nd).getD zeroRow).par).R))]] Try.sizeOf24 rfl rfl rfl rfl ⟨[[(.int .i64 nd.T)], [(.int .i64 nd.R)]], [], rfl, rfl, rfl⟩ rfl ?_)
   intro w59 hg60 H61
   refine O_nil (Blk_n (Then_n ?_))
   have H62 := H61.sub (B' := [rowR 9 1 encS h55 (acc ++ ([((kvGet (tableOf rows) nd).getD zeroRow).name] : List ByteArray)), boxR b16 24 [[(.int .i64 (((placeOf (tableOf rows) node).1).T))], [(.int .i64 (((placeOf (tableOf rows) node).1).R))]], mapO r7 (fun x : Stamp => stampV x) rowV (tableOf rows), boxR b2 24 [[(.int .i64 ((((kvGet (tableOf rows) nd).getD zeroRow).par).T))], [(.int .i64 ((((kvGet (tableOf rows) nd).getD zeroRow).par).R))]]]) (I' := [slI (Old w) rowCh 8 hrows rows]) (List.Sublist.cons _ (List.Sublist.cons_cons _ (List.Sublist.cons_cons _ (List.Sublist.cons_cons _ (List.Sublist.cons_cons _ List.Sublist.slnil))))) (List.forall_mem_cons.2 ⟨List.mem_of_getElem? (i := 0) rfl, fun _ h => (nomatch h)⟩)
   refine ⟨_, ?_, (n - 1), (((kvGet (tableOf rows) nd).getD zeroRow).par), (acc ++ ([((kvGet (tableOf rows) nd).getD zeroRow).name] : List ByteArray)), h55, rfl, (by omega), (place_step hp (by assumption)).2, (names_step hp (by assumption) ha), (by have := (place_step hp (by assumption)).1; simp only [List.length_append, List.length_cons, List.length_nil]; omega), (fun x hx => (List.mem_append.1 hx).elim (hs x) (fun h => by rw [List.mem_singleton.1 h]; exact table_name hnm nd)), _, envL_self ⟨rfl, rfl, rfl, rfl, trivial⟩, H62⟩
   have := (place_step hp (by assumption)).1; omega
  ·have hc49 : (nd.T = 0) := (of_decide_eq_true (notF hc49))
   refine W_exit (Then_x (Then_x (Blk_x (Then_n (W_seq (W_reg ?_))))))
   refine O_v rfl (R_move (v := (slV h43 acc)) rfl ?_)
   refine O_v rfl (R_callL (vs := [(slV h43 acc)]) differ_Path_c32 rfl rfl ((Reverse_str h43 acc w46 (H48.getOwn 0 rfl)).ret ?_))
   rintro _ w63 ⟨rfl, hg64, ho65⟩
   have H66 := H48.updRow 0 rfl hg64 ho65
   rw [slV_len (h := h43) (l := acc) (l' := acc.reverse) (by simp)]
   refine O_nil (Then_n (W_seq (W_reg ?_)))
   refine O_v rfl (R_move (v := (slV h43 acc.reverse)) rfl ?_)
   refine O_v rfl (R_callL (vs := [(slV h43 acc.reverse), (.string (⟨#[47]⟩ : ByteArray))]) differ_Path_c33 rfl rfl ((strings_Join h43 acc.reverse (⟨#[47]⟩ : ByteArray) w63 (H66.rowSl 0 rfl (fun _ => rfl)) (by simp only [List.length_reverse]; omega) (names_small (n := 1048577) (fun x hx => hs x (List.mem_reverse.1 hx)) (by simp only [List.length_reverse]; omega) (by omega))).ret ?_))
   rintro _ w67 ⟨rfl, hx68⟩
   have H69 := H66.ext hx68
   refine O_v rfl (R_assign (v := (.string (joinB acc.reverse (⟨#[47]⟩ : ByteArray)))) rfl ?_)
   refine O_nil (Then_n (W_ret ?_))
   refine ret_1 (v := (.string (joinB acc.reverse (⟨#[47]⟩ : ByteArray)))) Try.results12 rfl ?_
   exact ⟨(by rw [pathOf_some hp ha (by omega) (place_conj (by assumption))]), H69.gr⟩

end Go.Proofs.Ytiknfldhommmpaa
/- The examples that the statements of layer 14 begin with. -/
namespace Go.Proofs.Ytiknfldhommmpaa
open Go
set_option linter.unusedVariables false
set_option linter.unusedSimpArgs false
set_option linter.unusedSectionVars false
def oneRow : RowS := { node := ⟨1, 1⟩, par := ⟨0, 0⟩, tm := ⟨1, 1⟩, name := ⟨#[97]⟩, heads := [], hh := nilH }
theorem one_deep (w : World) : ∀ x ∈ [oneRow], Sl (Old w) headCh 34 x.hh x.heads w := fun x hx => by
  rw [List.mem_singleton.1 hx]; exact Sl.nil _ _ _ _
theorem one_snap : snapOk [oneRow] = true := by
  refine snapOk_iff.2 ⟨by decide, fun i hi => ?_, fun i hi => ?_⟩
  · have : i = 0 := by simp at hi; omega
    subst this
    exact ⟨by decide, .inl rfl⟩
  · have : i = 0 := by simp at hi; omega
    subst this
    exact ⟨1, by decide, by decide, show fixedSt _ = true by decide⟩
theorem nil_snap : snapOk [] = true := snapOk_iff.2 ⟨by decide, fun i hi => absurd hi (Nat.not_lt_zero _), fun i hi => absurd hi (Nat.not_lt_zero _)⟩
theorem one_heads : ∀ x ∈ [oneRow], x.heads.length ≤ 1048576 := fun x hx => by
  rw [List.mem_singleton.1 hx]; decide
theorem one_heads48 : ∀ x ∈ [oneRow], x.heads.length * 48 ≤ 140737488355328 := fun x hx => by
  rw [List.mem_singleton.1 hx]; decide
theorem alive1 {l : List OpS} {e : Int} (h : DiffRel [] [oneRow] ⟨5, 1⟩ (l.map OpS.core) e) : e = 0 ∧ l.length = 1 ∧ (nth l 0).kind = 1 ∧ (nth l 0).tm.T = 5 := by
  obtain ⟨L, hL, _, h2, h3⟩ := h.2.2 ⟨nil_snap, one_snap⟩ (by decide)
  have hf : [oneRow].filter (needs []) = [oneRow] := by rw [List.filter_cons_of_pos (by decide)]; rfl
  rw [hf, List.perm_singleton] at hL
  subst hL
  obtain ⟨h4, h5⟩ := h3 (by decide) ⟨by decide, by decide⟩
  have h6 : l.map OpS.core = [{ mvOp oneRow with tm := ⟨5, 1⟩ }] := h4
  obtain ⟨o, rfl, h7⟩ := List.map_eq_singleton_iff.1 h6
  refine ⟨h5, rfl, ?_, ?_⟩
  · exact congrArg OpC.kind h7
  · exact congrArg (fun x => (OpC.tm x).T) h7
theorem alive2 {l : List OpS} {e : Int} (h : DiffRel [oneRow] [] ⟨5, 1⟩ (l.map OpS.core) e) : e = 0 ∧ l.length = 1 ∧ (nth l 0).par = ⟨0, 1⟩ := by
  obtain ⟨L, hL, _, h2, h3⟩ := h.2.2 ⟨one_snap, nil_snap⟩ (by decide)
  have hf : ([] : List RowS).filter (needs [oneRow]) = [] := rfl
  rw [hf, List.perm_nil] at hL
  subst hL
  obtain ⟨h4, h5⟩ := h3 (by decide) ⟨by decide, by decide⟩
  have h6 : l.map OpS.core = [{ trOp oneRow with tm := ⟨5, 1⟩ }] := h4
  obtain ⟨o, rfl, h7⟩ := List.map_eq_singleton_iff.1 h6
  exact ⟨h5, rfl, congrArg OpC.par h7⟩
theorem alive3 : pathOf [oneRow] ⟨1, 1⟩ = ⟨#[97]⟩ := by decide
theorem alive4 : alikeOf [oneRow] [oneRow] = true := decide_eq_true rfl
theorem alive5 : alikeOf [oneRow] [] = false := by decide
theorem alive6 {l : List RowS} (h : l.map RowS.core = (aliveOf [oneRow]).map RowS.core) : l.length = 1 := by
  have := congrArg List.length h
  have h2 : (aliveOf [oneRow]).length = 1 := by decide
  simpa [h2] using this
theorem tree_heads {rows : List RowS} (h : treeOk rows = true) : ∀ x ∈ rows, x.heads.length ≤ 1048576 := by
  have h := of_decide_eq_true h
  intro x hx
  obtain ⟨i, hi, rfl⟩ := List.getElem_of_mem hx
  have h1 := (h.2 i hi).1
  rw [nth_eq hi] at h1
  unfold itemOk at h1
  have := of_decide_eq_true h1
  omega
theorem nameOk_size {s : ByteArray} (h : nameOk s = true) : s.size ≤ 60 := (of_decide_eq_true h).2.1
theorem tree_names {rows : List RowS} (h : treeOk rows = true) : ∀ x ∈ rows, x.name.size ≤ 60 := by
  have h := of_decide_eq_true h
  intro x hx
  obtain ⟨i, hi, rfl⟩ := List.getElem_of_mem hx
  have h1 := (h.2 i hi).1
  rw [nth_eq hi] at h1
  unfold itemOk at h1
  have := of_decide_eq_true h1
  exact nameOk_size (by simp_all)
theorem rows_true {a b l : List RowS} (h : l.map RowS.core = (aliveOf a).map RowS.core) (ha : treeOk a = true) (hb : treeOk b = true) (node : Stamp) :
    Value.bool ((sameRows l (aliveRef a) && decide (alikeOf a b = alikeRef a b)) && decide (pathOf a node = pathRef a node)) = Value.bool true := by
  obtain ⟨h1, h2, h3⟩ := rows_law ha hb node
  rw [h2, h3]
  simp [sameRows, h, h1]
end Go.Proofs.Ytiknfldhommmpaa
namespace Go.Proofs.Ytiknfldhommmpaa
open Go
set_option maxRecDepth 100000
set_option linter.unusedVariables false
set_option linter.unusedSimpArgs false
set_option maxHeartbeats 1000000 in
theorem law14_one  (w : World) :
    Calls Try.prog 17 #[] w (Ret fun v w' => ∃ h, v = slV h ([oneRow]) ∧ Ext w w' ∧ OwnS w.heap.size 44 8 rowCh h ([oneRow]) w') := by
 refine calls_W Try.func17 rfl Try.ntmps17 rfl ?_
 have H0 := Ctx.start w nob
 refine W_seq (W_reg ?_)
 refine O_v rfl (R_assign (v := (.slice none 0 0)) rfl ?_)
 refine O_nil (Then_n (W_seq (W_reg ?_)))
 refine O_v rfl (R_buildL (vs := [(0, (.int .i64 1)), (1, (.int .i64 1))]) (v := aggOf [[(.int .i64 1)], [(.int .i64 1)]]) rfl (fun _ => by kernel_rfl) ?_)
 refine O_v rfl (C_alloc H0 [[(.int .i64 0)], [(.int .i64 0)]] Try.zeroValue24 ?_)
 intro b1 w2 hb3 hx4 H5
 refine O_u (C_storeA H5 0 rfl 0 (sub := [[(.int .i64 1)], [(.int .i64 1)]]) [[(.int .i64 1)], [(.int .i64 1)]] Try.sizeOf24 rfl rfl rfl rfl ⟨[[(.int .i64 0)], [(.int .i64 0)]], [], rfl, rfl, rfl⟩ rfl ?_)
 intro w6 hg7 H8
 refine O_nil (Then_n (W_seq (W_reg ?_)))
 refine O_v rfl (R_loadA (cs := [[(.int .i64 1)], [(.int .i64 1)]]) Try.isAgg24 Try.sizeOf24 rfl rfl ((boxR_at (H8.getOwn 0 rfl)).chunks 0 2 0 0 _ rfl rfl rfl) ?_)
 refine O_v rfl (R_loadA (cs := [[(.int .i64 1)], [(.int .i64 1)]]) Try.isAgg24 Try.sizeOf24 rfl rfl ((boxR_at (H8.getOwn 0 rfl)).chunks 0 2 0 0 _ rfl rfl rfl) ?_)
 refine O_v rfl (R_buildL (vs := [(0, (aggOf [[(.int .i64 1)], [(.int .i64 1)]])), (2, (aggOf [[(.int .i64 1)], [(.int .i64 1)]])), (3, (.string (⟨#[97]⟩ : ByteArray)))]) (v := aggOf [[(.int .i64 1)], [(.int .i64 1)], [(.int .i64 0)], [(.int .i64 0)], [(.int .i64 1)], [(.int .i64 1)], [(.string (⟨#[97]⟩ : ByteArray))], [(.slice none 0 0)]]) rfl (fun _ => by kernel_rfl) ?_)
 refine O_v rfl (C_buildSliceL H8 (enc := rowCh) (val := rowV) ([({ node := ({ T := 1, R := 1 } : Stamp), par := ({ T := 0, R := 0 } : Stamp), tm := ({ T := 1, R := 1 } : Stamp), name := (⟨#[97]⟩ : ByteArray), heads := [], hh := nilH } : RowS)] : List RowS) Try.underlying22 Try.sizeOf44 Try.zeroValue44 rfl (by decide) (fun _ => rfl) (fun _ => rfl) rfl rfl (by decide) ?_)
 intro b9 w10 hb11 hx12 H13
 refine O_v rfl (R_assign (v := (slV ⟨some ⟨b9, 0, none⟩, b9, 0, 1⟩ ([({ node := ({ T := 1, R := 1 } : Stamp), par := ({ T := 0, R := 0 } : Stamp), tm := ({ T := 1, R := 1 } : Stamp), name := (⟨#[97]⟩ : ByteArray), heads := [], hh := nilH } : RowS)] : List RowS))) rfl ?_)
 refine O_nil (Then_n (W_ret ?_))
 refine ret_1 (v := (slV ⟨some ⟨b9, 0, none⟩, b9, 0, 1⟩ ([({ node := ({ T := 1, R := 1 } : Stamp), par := ({ T := 0, R := 0 } : Stamp), tm := ({ T := 1, R := 1 } : Stamp), name := (⟨#[97]⟩ : ByteArray), heads := [], hh := nilH } : RowS)] : List RowS))) Try.results17 rfl ?_
 exact ⟨⟨some ⟨b9, 0, none⟩, b9, 0, 1⟩, rfl, H13.gr, H13.retRow 0 rfl⟩

end Go.Proofs.Ytiknfldhommmpaa
namespace Go.Proofs.Ytiknfldhommmpaa
open Go
set_option maxRecDepth 100000
set_option linter.unusedVariables false
set_option linter.unusedSimpArgs false
theorem law14_alive_c8 : callable Try.prog 8 = true := by kernel_rfl
theorem law14_alive_c10 : callable Try.prog 10 = true := by kernel_rfl
theorem law14_alive_c12 : callable Try.prog 12 = true := by kernel_rfl
theorem law14_alive_c14 : callable Try.prog 14 = true := by kernel_rfl
theorem law14_alive_c17 : callable Try.prog 17 = true := by kernel_rfl
set_option maxHeartbeats 4000000 in
theorem law14_alive  (w : World) :
    Calls Try.prog 5 #[] w (Ret fun v w' => v = (.bool true) ∧ Ext w w') := by
 refine calls_W Try.func5 rfl Try.ntmps5 rfl ?_
 have H0 := Ctx.start w nob
 refine W_seq (W_reg ?_)
 refine O_v rfl (R_assign (v := (.bool false)) rfl ?_)
 refine O_nil (Then_n (W_seq (W_reg ?_)))
 refine O_v rfl (R_callL (vs := []) law14_alive_c17 rfl rfl ((law14_one  w ).ret ?_))
 rintro _ w2 ⟨h1, rfl, hx3, ho4⟩
 have H5 := H0.addRow hx3 ho4
 refine O_v rfl (R_buildL (vs := [(0, (.int .i64 5)), (1, (.int .i64 1))]) (v := aggOf [[(.int .i64 5)], [(.int .i64 1)]]) rfl (fun _ => by kernel_rfl) ?_)
 refine O_v rfl (R_callL (vs := [(.slice none 0 0), (slV h1 [oneRow]), (aggOf [[(.int .i64 5)], [(.int .i64 1)]])]) law14_alive_c14 rfl rfl ((differ_Diff nilH [] h1 [oneRow] ({ T := 5, R := 1 } : Stamp) w2 (Sl.nil _ _ _ _) (fun _ hx => (nomatch hx)) (H5.rowSl 0 rfl (fun _ => rfl)) (one_deep _) (fun _ hx => (nomatch hx)) one_heads48).ret ?_))
 rintro _ w9 ⟨h6, l7, S8, e16, rfl, hx10, ho11, hS12, hd13, hr14⟩
 have H15 := H5.addRowDeep (h := fun x : OpS => x.oh) (f := fun x : OpS => x.over) hx10 ho11 hS12 hd13
 obtain ⟨kE, kL, kK, kT⟩ := alive1 hr14
 refine O_v rfl (R_move (v := (.tuple #[(slV h6 l7), (.int .i64 e16)])) rfl ?_)
 refine O_v rfl (R_extract (v := (slV h6 l7)) rfl rfl ?_)
 refine O_v rfl (R_extract (v := (.int .i64 e16)) rfl rfl ?_)
 refine O_v rfl (R_assign (v := (slV h6 l7)) rfl ?_)
 refine O_v rfl (R_assign (v := (.int .i64 e16)) rfl ?_)
 refine O_nil (Then_n (W_seq (W_reg ?_)))
 refine O_v rfl (R_callL (vs := []) law14_alive_c17 rfl rfl ((law14_one  w9 ).ret ?_))
 rintro _ w18 ⟨h17, rfl, hx19, ho20⟩
 have H21 := H15.addRow hx19 ho20
 refine O_v rfl (R_buildL (vs := [(0, (.int .i64 5)), (1, (.int .i64 1))]) (v := aggOf [[(.int .i64 5)], [(.int .i64 1)]]) rfl (fun _ => by kernel_rfl) ?_)
 refine O_v rfl (R_callL (vs := [(slV h17 [oneRow]), (.slice none 0 0), (aggOf [[(.int .i64 5)], [(.int .i64 1)]])]) law14_alive_c14 rfl rfl ((differ_Diff h17 [oneRow] nilH [] ({ T := 5, R := 1 } : Stamp) w18 (H21.rowSl 0 rfl (fun _ => rfl)) (one_deep _) (Sl.nil _ _ _ _) (fun _ hx => (nomatch hx)) one_heads48 (fun _ hx => (nomatch hx))).ret ?_))
 rintro _ w25 ⟨h22, l23, S24, e32, rfl, hx26, ho27, hS28, hd29, hr30⟩
 have H31 := H21.addRowDeep (h := fun x : OpS => x.oh) (f := fun x : OpS => x.over) hx26 ho27 hS28 hd29
 obtain ⟨jE, jL, jP⟩ := alive2 hr30
 refine O_v rfl (R_move (v := (.tuple #[(slV h22 l23), (.int .i64 e32)])) rfl ?_)
 refine O_v rfl (R_extract (v := (slV h22 l23)) rfl rfl ?_)
 refine O_v rfl (R_extract (v := (.int .i64 e32)) rfl rfl ?_)
 refine O_v rfl (R_assign (v := (slV h22 l23)) rfl ?_)
 refine O_v rfl (R_assign (v := (.int .i64 e32)) rfl ?_)
 refine O_nil (Then_n (W_seq ?_))
 refine W_rg [(0, .q false), (1, .q false), (2, .q false), (3, .q false), (4, .q false), (5, .q false), (6, .q false), (7, .q false), (8, .q false), (9, .q false), (10, .q false), (11, .q false), (12, .q false), (13, .q false), (14, .q false), (15, .q false), (16, .q false), (17, .q false), (18, .q false), (19, .q false), (20, .q false), (21, .q false), (22, .q false), (23, .q false), (24, .q false), (25, .q false), (26, .q false), (27, .q false), (28, .q false), (29, .q false), (30, .q false), (31, .q false), (32, .q false), (33, .q false), (34, .q false), (35, .q false), (36, .q false), (37, .q false), (38, .q false), (39, .q false), (41, .q false), (40, .c false), (42, .q false), (43, .q false), (44, .q false), (45, .q false), (46, .c false), (47, .c false), (48, .q false), (49, .q false), (50, .q false), (51, .c false), (52, .q false), (53, .q false), (54, .q false), (55, .q false), (56, .c false), (57, .c false), (58, .q false), (59, .q false), (60, .q false), (61, .q false)] (by kernel_rfl) ?_
 refine Lx_q (i := 0) rfl rfl _ (fun v33 hv34 => R_move (v := (.int .i64 e16)) rfl ⟨rfl, Gr.refl _ _⟩) ?_
 refine Lx_q (i := 1) rfl rfl (.bool true) (fun v35 hv36 => R_cmp (a := e16) (b := 0) (r := (decide (e16 = 0))) rfl rfl rfl ⟨boolK (decide_eq_true kE), Gr.refl _ _⟩) ?_
 refine Lx_q (i := 2) rfl rfl _ (fun v37 hv38 => R_move (v := (.bool true)) rfl ⟨rfl, Gr.refl _ _⟩) ?_
 refine Lx_qT (i := 3) rfl rfl rfl rfl rfl _ (fun v39 hv40 => R_move (v := (slV h6 l7)) rfl ⟨rfl, Gr.refl _ _⟩) ?_
 refine Lx_qT (i := 4) rfl rfl rfl rfl rfl _ (fun v41 hv42 => R_len_slice (a := h6.a) (n := l7.length) (c := h6.c) Try.underlying31 rfl ⟨rfl, Gr.refl _ _⟩) ?_
 refine Lx_qT (i := 5) rfl rfl rfl rfl rfl (.bool true) (fun v43 hv44 => R_cmp (a := ((l7.length : Nat) : Int)) (b := 1) (r := (decide (((l7.length : Nat) : Int) = 1))) rfl rfl rfl ⟨boolK (decide_eq_true (by omega)), Gr.refl _ _⟩) ?_
 refine Lx_q (i := 6) rfl rfl _ (fun v45 hv46 => R_pick (t := true) (v := (.bool true)) rfl rfl ⟨rfl, Gr.refl _ _⟩) ?_
 refine Lx_q (i := 7) rfl rfl _ (fun v47 hv48 => R_move (v := (.bool true)) rfl ⟨rfl, Gr.refl _ _⟩) ?_
 refine Lx_qT (i := 8) rfl rfl rfl rfl rfl _ (fun v49 hv50 => R_move (v := (slV h6 l7)) rfl ⟨rfl, Gr.refl _ _⟩) ?_
 refine Lx_qT (i := 9) rfl rfl rfl rfl rfl _ (fun v51 hv52 => R_index_pure (OwnS.sl (H31.getOwn 2 rfl) (fun _ => rfl)) (n := l7.length) rfl (j := 0) (oo := (h6.o + 0 * 41)) Try.underlying31 Try.sizeOf39 rfl rfl (by omega) (by omega) rfl ⟨rfl, Gr.refl _ _⟩) ?_
 refine Lx_qT (i := 10) rfl rfl rfl rfl rfl _ (fun v53 hv54 => R_fieldAddr (off := 0) (oo := (h6.o + 0 * 41)) Try.underlying39 rfl rfl Try.sizeOf3 rfl rfl ⟨rfl, Gr.refl _ _⟩) ?_
 refine Lx_qT (i := 11) rfl rfl rfl rfl rfl _ (fun v55 hv56 => R_load1 (v := (.int .i64 ((nth l7 0).kind))) Try.isAgg3 rfl ((Sl.elem (OwnS.sl ((H31.ext hv56).getOwn 2 rfl) (fun _ => rfl)) (i := 0) (by omega) rfl).chunks 0 1 0 (h6.o + 0 * 41) _ rfl rfl rfl) ⟨rfl, Gr.refl _ _⟩) ?_
 refine Lx_qT (i := 12) rfl rfl rfl rfl rfl (.bool true) (fun v57 hv58 => R_cmp (a := (nth l7 0).kind) (b := 1) (r := (decide ((nth l7 0).kind = 1))) rfl rfl rfl ⟨boolK (decide_eq_true kK), Gr.refl _ _⟩) ?_
 refine Lx_q (i := 13) rfl rfl _ (fun v59 hv60 => R_pick (t := true) (v := (.bool true)) rfl rfl ⟨rfl, Gr.refl _ _⟩) ?_
 refine Lx_q (i := 14) rfl rfl _ (fun v61 hv62 => R_move (v := (.bool true)) rfl ⟨rfl, Gr.refl _ _⟩) ?_
 refine Lx_qT (i := 15) rfl rfl rfl rfl rfl _ (fun v63 hv64 => R_move (v := (slV h6 l7)) rfl ⟨rfl, Gr.refl _ _⟩) ?_
 refine Lx_qT (i := 16) rfl rfl rfl rfl rfl _ (fun v65 hv66 => R_index_pure (OwnS.sl (H31.getOwn 2 rfl) (fun _ => rfl)) (n := l7.length) rfl (j := 0) (oo := (h6.o + 0 * 41)) Try.underlying31 Try.sizeOf39 rfl rfl (by omega) (by omega) rfl ⟨rfl, Gr.refl _ _⟩) ?_
 refine Lx_qT (i := 17) rfl rfl rfl rfl rfl _ (fun v67 hv68 => R_fieldAddr (off := 1) (oo := ((h6.o + 0 * 41) + 1)) Try.underlying39 rfl rfl Try.sizeOf24 rfl rfl ⟨rfl, Gr.refl _ _⟩) ?_
 refine Lx_qT (i := 18) rfl rfl rfl rfl rfl _ (fun v69 hv70 => R_fieldAddr (off := 0) (oo := ((h6.o + 0 * 41) + 1)) Try.underlying24 rfl rfl Try.sizeOf2 rfl rfl ⟨rfl, Gr.refl _ _⟩) ?_
 refine Lx_qT (i := 19) rfl rfl rfl rfl rfl _ (fun v71 hv72 => R_load1 (v := (.int .i64 (((nth l7 0).tm).T))) Try.isAgg2 rfl ((Sl.elem (OwnS.sl ((H31.ext hv72).getOwn 2 rfl) (fun _ => rfl)) (i := 0) (by omega) rfl).chunks 1 1 1 ((h6.o + 0 * 41) + 1) _ rfl rfl rfl) ⟨rfl, Gr.refl _ _⟩) ?_
 refine Lx_qT (i := 20) rfl rfl rfl rfl rfl (.bool true) (fun v73 hv74 => R_cmp (a := ((nth l7 0).tm).T) (b := 5) (r := (decide (((nth l7 0).tm).T = 5))) rfl rfl rfl ⟨boolK (decide_eq_true kT), Gr.refl _ _⟩) ?_
 refine Lx_q (i := 21) rfl rfl _ (fun v75 hv76 => R_pick (t := true) (v := (.bool true)) rfl rfl ⟨rfl, Gr.refl _ _⟩) ?_
 refine Lx_q (i := 22) rfl rfl _ (fun v77 hv78 => R_move (v := (.bool true)) rfl ⟨rfl, Gr.refl _ _⟩) ?_
 refine Lx_qT (i := 23) rfl rfl rfl rfl rfl _ (fun v79 hv80 => R_move (v := (.int .i64 e32)) rfl ⟨rfl, Gr.refl _ _⟩) ?_
 refine Lx_qT (i := 24) rfl rfl rfl rfl rfl (.bool true) (fun v81 hv82 => R_cmp (a := e32) (b := 0) (r := (decide (e32 = 0))) rfl rfl rfl ⟨boolK (decide_eq_true jE), Gr.refl _ _⟩) ?_
 refine Lx_q (i := 25) rfl rfl _ (fun v83 hv84 => R_pick (t := true) (v := (.bool true)) rfl rfl ⟨rfl, Gr.refl _ _⟩) ?_
 refine Lx_q (i := 26) rfl rfl _ (fun v85 hv86 => R_move (v := (.bool true)) rfl ⟨rfl, Gr.refl _ _⟩) ?_
 refine Lx_qT (i := 27) rfl rfl rfl rfl rfl _ (fun v87 hv88 => R_move (v := (slV h22 l23)) rfl ⟨rfl, Gr.refl _ _⟩) ?_
 refine Lx_qT (i := 28) rfl rfl rfl rfl rfl _ (fun v89 hv90 => R_len_slice (a := h22.a) (n := l23.length) (c := h22.c) Try.underlying31 rfl ⟨rfl, Gr.refl _ _⟩) ?_
 refine Lx_qT (i := 29) rfl rfl rfl rfl rfl (.bool true) (fun v91 hv92 => R_cmp (a := ((l23.length : Nat) : Int)) (b := 1) (r := (decide (((l23.length : Nat) : Int) = 1))) rfl rfl rfl ⟨boolK (decide_eq_true (by omega)), Gr.refl _ _⟩) ?_
 refine Lx_q (i := 30) rfl rfl _ (fun v93 hv94 => R_pick (t := true) (v := (.bool true)) rfl rfl ⟨rfl, Gr.refl _ _⟩) ?_
 refine Lx_q (i := 31) rfl rfl _ (fun v95 hv96 => R_move (v := (.bool true)) rfl ⟨rfl, Gr.refl _ _⟩) ?_
 refine Lx_qT (i := 32) rfl rfl rfl rfl rfl _ (fun v97 hv98 => R_move (v := (slV h22 l23)) rfl ⟨rfl, Gr.refl _ _⟩) ?_
 refine Lx_qT (i := 33) rfl rfl rfl rfl rfl _ (fun v99 hv100 => R_index_pure (OwnS.sl (H31.getOwn 0 rfl) (fun _ => rfl)) (n := l23.length) rfl (j := 0) (oo := (h22.o + 0 * 41)) Try.underlying31 Try.sizeOf39 rfl rfl (by omega) (by omega) rfl ⟨rfl, Gr.refl _ _⟩) ?_
 refine Lx_qT (i := 34) rfl rfl rfl rfl rfl _ (fun v101 hv102 => R_fieldAddr (off := 5) (oo := ((h22.o + 0 * 41) + 5)) Try.underlying39 rfl rfl Try.sizeOf24 rfl rfl ⟨rfl, Gr.refl _ _⟩) ?_
 refine Lx_qT (i := 35) rfl rfl rfl rfl rfl _ (fun v103 hv104 => R_loadA (cs := [[(.int .i64 (((nth l23 0).par).T))], [(.int .i64 (((nth l23 0).par).R))]]) Try.isAgg24 Try.sizeOf24 rfl rfl ((Sl.elem (OwnS.sl ((H31.ext hv104).getOwn 0 rfl) (fun _ => rfl)) (i := 0) (by omega) rfl).chunks 5 2 5 ((h22.o + 0 * 41) + 5) _ rfl rfl rfl) ⟨rfl, Gr.refl _ _⟩) ?_
 refine Lx_qT (i := 36) rfl rfl rfl rfl rfl _ (fun v105 hv106 => R_buildL (vs := [(1, (.int .i64 1))]) (v := aggOf [[(.int .i64 0)], [(.int .i64 1)]]) rfl (fun _ => by kernel_rfl) ⟨rfl, Gr.refl _ _⟩) ?_
 refine Lx_qT (i := 37) rfl rfl rfl rfl rfl (.bool true) (fun v107 hv108 => R_eqv (a := ((nth l23 0).par)) (b := ({ T := 0, R := 1 } : Stamp)) eqv_Stamp24 rfl Try.eqGuardType24 rfl rfl ⟨boolK (decide_eq_true jP), Gr.refl _ _⟩) ?_
 refine Lx_q (i := 38) rfl rfl _ (fun v109 hv110 => R_pick (t := true) (v := (.bool true)) rfl rfl ⟨rfl, Gr.refl _ _⟩) ?_
 refine Lx_q (i := 39) rfl rfl _ (fun v111 hv112 => R_move (v := (.bool true)) rfl ⟨rfl, Gr.refl _ _⟩) ?_
 refine Lx_qT (i := 41) rfl rfl rfl rfl rfl _ (fun v113 hv114 => R_buildL (vs := [(0, (.int .i64 1)), (1, (.int .i64 1))]) (v := aggOf [[(.int .i64 1)], [(.int .i64 1)]]) rfl (fun _ => by kernel_rfl) ⟨rfl, Gr.refl _ _⟩) ?_
 refine Lx_cT (i := 40) rfl rfl rfl rfl rfl (fun w115 hw116 => ?_)
 have H117 := H31.ext hw116
 refine (R_callL (vs := []) law14_alive_c17 rfl rfl ((law14_one  w115 ).ret ?_))
 rintro _ w119 ⟨h118, rfl, hx120, ho121⟩
 have H122 := H117.addRow hx120 ho121
 refine ⟨GrF.ofExt hx120, ?_⟩
 refine Lx_qT (i := 42) rfl rfl rfl rfl rfl (.string (pathOf [oneRow] ({ T := 1, R := 1 } : Stamp))) (fun v123 hv124 => R_callL (vs := [(slV h118 [oneRow]), (aggOf [[(.int .i64 1)], [(.int .i64 1)]])]) law14_alive_c12 rfl rfl (differ_Path h118 [oneRow] ({ T := 1, R := 1 } : Stamp) v123 ((H122.ext hv124).rowSl 0 rfl (fun _ => rfl)) (by decide) (fun x hx => by rw [List.mem_singleton.1 hx]; decide))) ?_
 refine Lx_qT (i := 43) rfl rfl rfl rfl rfl (.bool true) (fun v125 hv126 => R_cmpS (a := pathOf [oneRow] ({ T := 1, R := 1 } : Stamp)) (b := (⟨#[97]⟩ : ByteArray)) (r := (decide (pathOf [oneRow] ({ T := 1, R := 1 } : Stamp) = (⟨#[97]⟩ : ByteArray)))) rfl rfl rfl ⟨boolK (decide_eq_true alive3), Gr.refl _ _⟩) ?_
 refine Lx_q (i := 44) rfl rfl _ (fun v127 hv128 => R_pick (t := true) (v := (.bool true)) rfl rfl ⟨rfl, Gr.refl _ _⟩) ?_
 refine Lx_q (i := 45) rfl rfl _ (fun v129 hv130 => R_move (v := (.bool true)) rfl ⟨rfl, Gr.refl _ _⟩) ?_
 refine Lx_cT (i := 46) rfl rfl rfl rfl rfl (fun w131 hw132 => ?_)
 have H133 := H122.ext hw132
 refine (R_callL (vs := []) law14_alive_c17 rfl rfl ((law14_one  w131 ).ret ?_))
 rintro _ w135 ⟨h134, rfl, hx136, ho137⟩
 have H138 := H133.addRow hx136 ho137
 refine ⟨GrF.ofExt hx136, ?_⟩
 refine Lx_cT (i := 47) rfl rfl rfl rfl rfl (fun w139 hw140 => ?_)
 have H141 := H138.ext hw140
 refine (R_callL (vs := []) law14_alive_c17 rfl rfl ((law14_one  w139 ).ret ?_))
 rintro _ w143 ⟨h142, rfl, hx144, ho145⟩
 have H146 := H141.addRow hx144 ho145
 refine ⟨GrF.ofExt hx144, ?_⟩
 refine Lx_qT (i := 48) rfl rfl rfl rfl rfl (.bool true) (fun v147 hv148 => R_callL (vs := [(slV h134 [oneRow]), (slV h142 [oneRow])]) law14_alive_c10 rfl rfl ((differ_Alike h134 [oneRow] h142 [oneRow] v147 ((H146.ext hv148).rowSl 1 rfl (fun _ => rfl)) (one_deep _) ((H146.ext hv148).rowSl 0 rfl (fun _ => rfl)) (one_deep _) (by decide) one_heads (by decide) one_heads).ret (fun _ _ h => ⟨h.1.trans (boolK alive4), h.2⟩))) ?_
 refine Lx_q (i := 49) rfl rfl _ (fun v149 hv150 => R_pick (t := true) (v := (.bool true)) rfl rfl ⟨rfl, Gr.refl _ _⟩) ?_
 refine Lx_q (i := 50) rfl rfl _ (fun v151 hv152 => R_move (v := (.bool true)) rfl ⟨rfl, Gr.refl _ _⟩) ?_
 refine Lx_cT (i := 51) rfl rfl rfl rfl rfl (fun w153 hw154 => ?_)
 have H155 := H146.ext hw154
 refine (R_callL (vs := []) law14_alive_c17 rfl rfl ((law14_one  w153 ).ret ?_))
 rintro _ w157 ⟨h156, rfl, hx158, ho159⟩
 have H160 := H155.addRow hx158 ho159
 refine ⟨GrF.ofExt hx158, ?_⟩
 refine Lx_qT (i := 52) rfl rfl rfl rfl rfl (.bool (alikeOf [oneRow] [])) (fun v161 hv162 => R_callL (vs := [(slV h156 [oneRow]), (.slice none 0 0)]) law14_alive_c10 rfl rfl (differ_Alike h156 [oneRow] nilH [] v161 ((H160.ext hv162).rowSl 0 rfl (fun _ => rfl)) (one_deep _) (Sl.nil _ _ _ _) (fun _ hx => (nomatch hx)) (by decide) one_heads (by decide) (fun _ hx => (nomatch hx)))) ?_
 refine Lx_qT (i := 53) rfl rfl rfl rfl rfl (.bool true) (fun v163 hv164 => R_not rfl ⟨boolK (by rw [alive5]; rfl), Gr.refl _ _⟩) ?_
 refine Lx_q (i := 54) rfl rfl _ (fun v165 hv166 => R_pick (t := true) (v := (.bool true)) rfl rfl ⟨rfl, Gr.refl _ _⟩) ?_
 refine Lx_q (i := 55) rfl rfl _ (fun v167 hv168 => R_move (v := (.bool true)) rfl ⟨rfl, Gr.refl _ _⟩) ?_
 refine Lx_cT (i := 56) rfl rfl rfl rfl rfl (fun w169 hw170 => ?_)
 have H171 := H160.ext hw170
 refine (R_callL (vs := []) law14_alive_c17 rfl rfl ((law14_one  w169 ).ret ?_))
 rintro _ w173 ⟨h172, rfl, hx174, ho175⟩
 have H176 := H171.addRow hx174 ho175
 refine ⟨GrF.ofExt hx174, ?_⟩
 refine Lx_cT (i := 57) rfl rfl rfl rfl rfl (fun w177 hw178 => ?_)
 have H179 := H176.ext hw178
 refine (R_callL (vs := [(slV h172 [oneRow])]) law14_alive_c8 rfl rfl ((differ_Alive h172 [oneRow] w177 (H179.rowSl 0 rfl (fun _ => rfl)) (one_deep _) (by decide) one_heads).ret ?_))
 rintro _ w183 ⟨h180, l181, S182, rfl, hx184, ho185, hS186, hd187, hr188⟩
 have H189 := H179.addRowDeep (h := fun x : RowS => x.hh) (f := fun x : RowS => x.heads) hx184 ho185 hS186 hd187
 refine ⟨GrF.ofExt hx184, ?_⟩
 refine Lx_qT (i := 58) rfl rfl rfl rfl rfl _ (fun v190 hv191 => R_len_slice (a := h180.a) (n := l181.length) (c := h180.c) Try.underlying22 rfl ⟨rfl, Gr.refl _ _⟩) ?_
 refine Lx_qT (i := 59) rfl rfl rfl rfl rfl (.bool true) (fun v192 hv193 => R_cmp (a := ((l181.length : Nat) : Int)) (b := 1) (r := (decide (((l181.length : Nat) : Int) = 1))) rfl rfl rfl ⟨boolK (decide_eq_true (by have := alive6 hr188; omega)), Gr.refl _ _⟩) ?_
 refine Lx_q (i := 60) rfl rfl _ (fun v194 hv195 => R_pick (t := true) (v := (.bool true)) rfl rfl ⟨rfl, Gr.refl _ _⟩) ?_
 refine Lx_q (i := 61) rfl rfl _ (fun v196 hv197 => R_assign (v := (.bool true)) rfl ⟨rfl, Gr.refl _ _⟩) ?_
 refine Lx_nil (fun w198 hw199 => ?_)
 have H200 := H189.ext hw199
 refine Then_n (W_ret ?_)
 refine ret_1 (v := (.bool true)) Try.results5 rfl ?_
 exact ⟨rfl, H200.gr⟩

end Go.Proofs.Ytiknfldhommmpaa
namespace Go.Proofs.Ytiknfldhommmpaa
open Go
set_option maxRecDepth 100000
set_option linter.unusedVariables false
set_option linter.unusedSimpArgs false
set_option maxHeartbeats 1000000 in
theorem ref03_Cmp (a : Stamp) (b : Stamp) (w : World) :
    Calls Try.prog 21 #[(aggOf (stampCh a)), (aggOf (stampCh b))] w (Ret fun v w' => v = (.int .i64 (cmpSt a b)) ∧ Ext w w') := by
 refine calls_W Try.func21 rfl Try.ntmps21 rfl ?_
 have H0 := Ctx.start w nob
 refine W_seq (W_reg ?_)
 refine O_v rfl (C_box H0 [[(.int .i64 a.T)], [(.int .i64 a.R)]] rfl ?_)
 intro b1 w2 hb3 hx4 H5
 refine O_v rfl (C_box H5 [[(.int .i64 b.T)], [(.int .i64 b.R)]] rfl ?_)
 intro b6 w7 hb8 hx9 H10
 refine O_v rfl (R_assign (v := (.int .i64 0)) rfl ?_)
 refine O_nil (Then_n (W_seq (W_seq ?_)))
 refine W_rg [(0, .q false), (1, .q false), (2, .q false), (3, .q false), (4, .q false), (5, .q false), (6, .q false), (7, .q false), (8, .q false), (9, .q false), (10, .q false), (11, .q false), (12, .q false), (13, .q false), (14, .q false), (15, .q false), (16, .q false), (17, .q false), (18, .q false)] (by kernel_rfl) ?_
 refine Lx_q (i := 0) rfl rfl _ (fun v11 hv12 => R_fieldAddr (off := 0) (oo := 0) Try.underlying24 rfl rfl Try.sizeOf2 rfl rfl ⟨rfl, Gr.refl _ _⟩) ?_
 refine Lx_q (i := 1) rfl rfl _ (fun v13 hv14 => R_load1 (v := (.int .i64 a.T)) Try.isAgg2 rfl ((boxR_at ((H10.ext hv14).getOwn 1 rfl)).chunks 0 1 0 0 _ rfl rfl rfl) ⟨rfl, Gr.refl _ _⟩) ?_
 refine Lx_q (i := 2) rfl rfl _ (fun v15 hv16 => R_fieldAddr (off := 0) (oo := 0) Try.underlying24 rfl rfl Try.sizeOf2 rfl rfl ⟨rfl, Gr.refl _ _⟩) ?_
 refine Lx_q (i := 3) rfl rfl _ (fun v17 hv18 => R_load1 (v := (.int .i64 b.T)) Try.isAgg2 rfl ((boxR_at ((H10.ext hv18).getOwn 0 rfl)).chunks 0 1 0 0 _ rfl rfl rfl) ⟨rfl, Gr.refl _ _⟩) ?_
 refine Lx_q (i := 4) rfl rfl _ (fun v19 hv20 => R_cmp (a := a.T) (b := b.T) (r := (decide (a.T < b.T))) rfl rfl rfl ⟨rfl, Gr.refl _ _⟩) ?_
 refine Lx_q (i := 5) rfl rfl _ (fun v21 hv22 => R_move (v := (.bool (decide (a.T < b.T)))) rfl ⟨rfl, Gr.refl _ _⟩) ?_
 refine Lx_qg (i := 6) true (decide (a.T < b.T)) rfl rfl rfl rfl rfl (!(decide (a.T < b.T))) ga_f _ (fun hA v23 hv24 => R_fieldAddr (off := 0) (oo := 0) Try.underlying24 rfl rfl Try.sizeOf2 rfl rfl ⟨rfl, Gr.refl _ _⟩) ?_
 refine Lx_qg (i := 7) true (decide (a.T < b.T)) rfl rfl rfl rfl rfl (!(decide (a.T < b.T))) ga_f _ (fun hA v25 hv26 => R_load1 (v := (.int .i64 a.T)) Try.isAgg2 (gv_t hA) ((boxR_at ((H10.ext hv26).getOwn 1 rfl)).chunks 0 1 0 0 _ rfl rfl rfl) ⟨rfl, Gr.refl _ _⟩) ?_
 refine Lx_qg (i := 8) true (decide (a.T < b.T)) rfl rfl rfl rfl rfl (!(decide (a.T < b.T))) ga_f _ (fun hA v27 hv28 => R_fieldAddr (off := 0) (oo := 0) Try.underlying24 rfl rfl Try.sizeOf2 rfl rfl ⟨rfl, Gr.refl _ _⟩) ?_
 refine Lx_qg (i := 9) true (decide (a.T < b.T)) rfl rfl rfl rfl rfl (!(decide (a.T < b.T))) ga_f _ (fun hA v29 hv30 => R_load1 (v := (.int .i64 b.T)) Try.isAgg2 (gv_t hA) ((boxR_at ((H10.ext hv30).getOwn 0 rfl)).chunks 0 1 0 0 _ rfl rfl rfl) ⟨rfl, Gr.refl _ _⟩) ?_
 refine Lx_qg (i := 10) true (decide (a.T < b.T)) rfl rfl rfl rfl rfl (!(decide (a.T < b.T))) ga_f _ (fun hA v31 hv32 => R_cmp (a := a.T) (b := b.T) (r := (decide (a.T = b.T))) (gv_t hA) (gv_t hA) rfl ⟨rfl, Gr.refl _ _⟩) ?_
 refine Lx_qg (i := 11) true (decide (a.T < b.T)) rfl rfl rfl rfl rfl (!(decide (a.T < b.T))) ga_f _ (fun hA v33 hv34 => R_move (v := (.bool (decide (a.T = b.T)))) (gv_t hA) ⟨rfl, Gr.refl _ _⟩) ?_
 refine Lx_qg (i := 12) (!(decide (a.T < b.T))) (decide (a.T = b.T)) rfl rfl rfl rfl rfl ((!(decide (a.T < b.T))) && (decide (a.T = b.T))) gb_t _ (fun hA v35 hv36 => R_fieldAddr (off := 1) (oo := 1) Try.underlying24 rfl rfl Try.sizeOf3 rfl rfl ⟨rfl, Gr.refl _ _⟩) ?_
 refine Lx_qg (i := 13) (!(decide (a.T < b.T))) (decide (a.T = b.T)) rfl rfl rfl rfl rfl ((!(decide (a.T < b.T))) && (decide (a.T = b.T))) gb_t _ (fun hA v37 hv38 => R_load1 (v := (.int .i64 a.R)) Try.isAgg3 (gv_t hA) ((boxR_at ((H10.ext hv38).getOwn 1 rfl)).chunks 1 1 1 1 _ rfl rfl rfl) ⟨rfl, Gr.refl _ _⟩) ?_
 refine Lx_qg (i := 14) (!(decide (a.T < b.T))) (decide (a.T = b.T)) rfl rfl rfl rfl rfl ((!(decide (a.T < b.T))) && (decide (a.T = b.T))) gb_t _ (fun hA v39 hv40 => R_fieldAddr (off := 1) (oo := 1) Try.underlying24 rfl rfl Try.sizeOf3 rfl rfl ⟨rfl, Gr.refl _ _⟩) ?_
 refine Lx_qg (i := 15) (!(decide (a.T < b.T))) (decide (a.T = b.T)) rfl rfl rfl rfl rfl ((!(decide (a.T < b.T))) && (decide (a.T = b.T))) gb_t _ (fun hA v41 hv42 => R_load1 (v := (.int .i64 b.R)) Try.isAgg3 (gv_t hA) ((boxR_at ((H10.ext hv42).getOwn 0 rfl)).chunks 1 1 1 1 _ rfl rfl rfl) ⟨rfl, Gr.refl _ _⟩) ?_
 refine Lx_qg (i := 16) (!(decide (a.T < b.T))) (decide (a.T = b.T)) rfl rfl rfl rfl rfl ((!(decide (a.T < b.T))) && (decide (a.T = b.T))) gb_t _ (fun hA v43 hv44 => R_cmp (a := a.R) (b := b.R) (r := (decide (a.R < b.R))) (gv_t hA) (gv_t hA) rfl ⟨rfl, Gr.refl _ _⟩) ?_
 refine Lx_qg (i := 17) true (decide (a.T < b.T)) rfl rfl rfl rfl rfl (!(decide (a.T < b.T))) ga_f _ (fun hA v45 hv46 => R_pick (t := (decide (a.T = b.T))) (v := (.bool ((decide (a.T = b.T)) && (decide (a.R < b.R))))) (gv_t hA) (pk_andA hA) ⟨rfl, Gr.refl _ _⟩) ?_
 refine Lx_q (i := 18) rfl rfl _ (fun v47 hv48 => R_pick (t := (decide (a.T < b.T))) (v := (.bool ((decide (a.T < b.T)) || ((decide (a.T = b.T)) && (decide (a.R < b.R)))))) rfl pk_or ⟨rfl, Gr.refl _ _⟩) ?_
 refine Lx_nil (fun w49 hw50 => ?_)
 have H51 := H10.ext hw50
 refine Then_n ?_
 refine W_cond (t := ((decide (a.T < b.T)) || ((decide (a.T = b.T)) && (decide (a.R < b.R))))) rfl (fun hc52 => ?_) (fun hc52 => ?_)
 ·have hc52 : ((a.T < b.T) ∨ ((a.T = b.T) ∧ (a.R < b.R))) := (Or.imp (fun h => (of_decide_eq_true h)) (fun h => (And.imp (fun h => (of_decide_eq_true h)) (fun h => (of_decide_eq_true h)) (andT h))) (orT hc52))
  refine W_seq (W_reg ?_)
  refine O_v rfl (R_assign (v := (.int .i64 (-1))) rfl ?_)
  refine O_nil (Then_n (W_ret (Then_r ?_)))
  refine ret_1 (v := (.int .i64 (-1))) Try.results21 rfl ?_
  exact ⟨(by rw [cmpSt_lt (by omega)]), H51.gr⟩
 ·have hc52 : (¬ (a.T < b.T) ∧ (¬ (a.T = b.T) ∨ ¬ (a.R < b.R))) := (And.imp (fun h => (of_decide_eq_false h)) (fun h => (Or.imp (fun h => (of_decide_eq_false h)) (fun h => (of_decide_eq_false h)) (andF h))) (orF hc52))
  refine W_skip (Then_n (W_seq (W_seq ?_)))
  refine W_rg [(0, .q false), (1, .q false), (2, .q false), (3, .q false), (4, .q false), (5, .q false), (6, .q false), (7, .q false), (8, .q false), (9, .q false), (10, .q false), (11, .q false)] (by kernel_rfl) ?_
  refine Lx_q (i := 0) rfl rfl _ (fun v53 hv54 => R_fieldAddr (off := 0) (oo := 0) Try.underlying24 rfl rfl Try.sizeOf2 rfl rfl ⟨rfl, Gr.refl _ _⟩) ?_
  refine Lx_q (i := 1) rfl rfl _ (fun v55 hv56 => R_load1 (v := (.int .i64 a.T)) Try.isAgg2 rfl ((boxR_at ((H51.ext hv56).getOwn 1 rfl)).chunks 0 1 0 0 _ rfl rfl rfl) ⟨rfl, Gr.refl _ _⟩) ?_
  refine Lx_q (i := 2) rfl rfl _ (fun v57 hv58 => R_fieldAddr (off := 0) (oo := 0) Try.underlying24 rfl rfl Try.sizeOf2 rfl rfl ⟨rfl, Gr.refl _ _⟩) ?_
  refine Lx_q (i := 3) rfl rfl _ (fun v59 hv60 => R_load1 (v := (.int .i64 b.T)) Try.isAgg2 rfl ((boxR_at ((H51.ext hv60).getOwn 0 rfl)).chunks 0 1 0 0 _ rfl rfl rfl) ⟨rfl, Gr.refl _ _⟩) ?_
  refine Lx_q (i := 4) rfl rfl _ (fun v61 hv62 => R_cmp (a := a.T) (b := b.T) (r := (decide (a.T = b.T))) rfl rfl rfl ⟨rfl, Gr.refl _ _⟩) ?_
  refine Lx_q (i := 5) rfl rfl _ (fun v63 hv64 => R_move (v := (.bool (decide (a.T = b.T)))) rfl ⟨rfl, Gr.refl _ _⟩) ?_
  refine Lx_qg (i := 6) true (decide (a.T = b.T)) rfl rfl rfl rfl rfl (decide (a.T = b.T)) ga_t _ (fun hA v65 hv66 => R_fieldAddr (off := 1) (oo := 1) Try.underlying24 rfl rfl Try.sizeOf3 rfl rfl ⟨rfl, Gr.refl _ _⟩) ?_
  refine Lx_qg (i := 7) true (decide (a.T = b.T)) rfl rfl rfl rfl rfl (decide (a.T = b.T)) ga_t _ (fun hA v67 hv68 => R_load1 (v := (.int .i64 a.R)) Try.isAgg3 (gv_t hA) ((boxR_at ((H51.ext hv68).getOwn 1 rfl)).chunks 1 1 1 1 _ rfl rfl rfl) ⟨rfl, Gr.refl _ _⟩) ?_
  refine Lx_qg (i := 8) true (decide (a.T = b.T)) rfl rfl rfl rfl rfl (decide (a.T = b.T)) ga_t _ (fun hA v69 hv70 => R_fieldAddr (off := 1) (oo := 1) Try.underlying24 rfl rfl Try.sizeOf3 rfl rfl ⟨rfl, Gr.refl _ _⟩) ?_
  refine Lx_qg (i := 9) true (decide (a.T = b.T)) rfl rfl rfl rfl rfl (decide (a.T = b.T)) ga_t _ (fun hA v71 hv72 => R_load1 (v := (.int .i64 b.R)) Try.isAgg3 (gv_t hA) ((boxR_at ((H51.ext hv72).getOwn 0 rfl)).chunks 1 1 1 1 _ rfl rfl rfl) ⟨rfl, Gr.refl _ _⟩) ?_
  refine Lx_qg (i := 10) true (decide (a.T = b.T)) rfl rfl rfl rfl rfl (decide (a.T = b.T)) ga_t _ (fun hA v73 hv74 => R_cmp (a := a.R) (b := b.R) (r := (decide (a.R = b.R))) (gv_t hA) (gv_t hA) rfl ⟨rfl, Gr.refl _ _⟩) ?_
  refine Lx_q (i := 11) rfl rfl _ (fun v75 hv76 => R_pick (t := (decide (a.T = b.T))) (v := (.bool ((decide (a.T = b.T)) && (decide (a.R = b.R))))) rfl pk_and ⟨rfl, Gr.refl _ _⟩) ?_
  refine Lx_nil (fun w77 hw78 => ?_)
  have H79 := H51.ext hw78
  refine Then_n ?_
  refine W_cond (t := ((decide (a.T = b.T)) && (decide (a.R = b.R)))) rfl (fun hc80 => ?_) (fun hc80 => ?_)
  ·have hc80 : ((a.T = b.T) ∧ (a.R = b.R)) := (And.imp (fun h => (of_decide_eq_true h)) (fun h => (of_decide_eq_true h)) (andT hc80))
   refine W_seq (W_reg ?_)
   refine O_v rfl (R_assign (v := (.int .i64 0)) rfl ?_)
   refine O_nil (Then_n (W_ret (Then_r ?_)))
   refine ret_1 (v := (.int .i64 0)) Try.results21 rfl ?_
   exact ⟨(by rw [cmpSt_eq (by omega) (by omega)]), H79.gr⟩
  ·have hc80 : (¬ (a.T = b.T) ∨ ¬ (a.R = b.R)) := (Or.imp (fun h => (of_decide_eq_false h)) (fun h => (of_decide_eq_false h)) (andF hc80))
   refine W_skip (Then_n (W_seq (W_reg ?_)))
   refine O_v rfl (R_assign (v := (.int .i64 1)) rfl ?_)
   refine O_nil (Then_n (W_ret ?_))
   refine ret_1 (v := (.int .i64 1)) Try.results21 rfl ?_
   exact ⟨(by rw [cmpSt_gt (by omega) (by omega)]), H79.gr⟩

end Go.Proofs.Ytiknfldhommmpaa
namespace Go.Proofs.Ytiknfldhommmpaa
open Go
set_option maxRecDepth 100000
set_option linter.unusedVariables false
set_option linter.unusedSimpArgs false
set_option maxHeartbeats 1000000 in
theorem ref03_Name (s : ByteArray) (w : World) (hl : s.size ≤ 9223372036854775807) :
    Calls Try.prog 39 #[(.string s)] w (Ret fun v w' => v = (.bool (nameOk s)) ∧ Ext w w') := by
 refine calls_W Try.func39 rfl Try.ntmps39 rfl ?_
 have H0 := Ctx.start w nob
 refine W_seq (W_reg ?_)
 refine O_v rfl (R_assign (v := (.bool false)) rfl ?_)
 refine O_nil (Then_n (W_seq (W_seq (W_reg ?_))))
 refine O_v rfl (R_assign (v := (.int .i64 0)) rfl ?_)
 refine O_nil (Then_n (W_block ?_))
 refine W_loop (fun m1 e2 w3 => ∃ (k : Nat), m1 = s.size - k ∧ (k ≤ s.size) ∧ (∀ j, j < k → badByte (sbyte s j) = false) ∧ ∃ eb4, e2 = envL [(0, (.string s)), (3, (.int .i64 ((k : Nat) : Int)))] eb4 ∧ Ctx w nob w3 [] []) _ ⟨0, rfl, (by omega), (all_zero _), _, envL_self ⟨rfl, rfl, trivial⟩, H0⟩ ?_
 rintro m1 _ w3 ⟨k, rfl, hk, hn, eb4, rfl, H5⟩
 refine W_seq (W_seq (W_reg ?_))
 refine O_v rfl (R_move (v := (.int .i64 ((k : Nat) : Int))) rfl ?_)
 refine O_v rfl (R_move (v := (.string s)) rfl ?_)
 refine O_v rfl (R_len_string Try.underlying9 rfl ?_)
 refine O_v rfl (R_cmp (a := ((k : Nat) : Int)) (b := ((s.size : Nat) : Int)) (r := (decide (((k : Nat) : Int) < ((s.size : Nat) : Int)))) rfl rfl rfl ?_)
 refine O_nil (Then_n ?_)
 refine W_cond (t := (decide (((k : Nat) : Int) < ((s.size : Nat) : Int)))) rfl (fun hc6 => ?_) (fun hc6 => ?_)
 ·have hc6 : (((k : Nat) : Int) < ((s.size : Nat) : Int)) := (of_decide_eq_true hc6)
  refine W_skip (Then_n (W_seq (W_block (W_seq ?_))))
  refine W_rg [(0, .q false), (1, .q false), (2, .q false), (3, .q false), (4, .q false), (5, .q false), (6, .q false), (7, .q false), (8, .q false), (9, .q false), (10, .q false), (11, .q false), (12, .q false), (13, .q false), (14, .q false), (15, .q false)] (by kernel_rfl) ?_
  refine Lx_q (i := 0) rfl rfl _ (fun v7 hv8 => R_move (v := (.string s)) rfl ⟨rfl, Gr.refl _ _⟩) ?_
  refine Lx_q (i := 1) rfl rfl _ (fun v9 hv10 => R_move (v := (.int .i64 ((k : Nat) : Int))) rfl ⟨rfl, Gr.refl _ _⟩) ?_
  refine Lx_q (i := 2) rfl rfl _ (fun v11 hv12 => R_index_s (s := s) (k := k) Try.underlying9 rfl rfl rfl (by omega) ⟨rfl, Gr.refl _ _⟩) ?_
  refine Lx_q (i := 3) rfl rfl _ (fun v13 hv14 => R_cmp (a := ((sbyte s k).toNat : Int)) (b := 0) (r := (decide (((sbyte s k).toNat : Int) = 0))) rfl rfl rfl ⟨rfl, Gr.refl _ _⟩) ?_
  refine Lx_q (i := 4) rfl rfl _ (fun v15 hv16 => R_move (v := (.bool (decide (((sbyte s k).toNat : Int) = 0)))) rfl ⟨rfl, Gr.refl _ _⟩) ?_
  refine Lx_qg (i := 5) true (decide (((sbyte s k).toNat : Int) = 0)) rfl rfl rfl rfl rfl (!(decide (((sbyte s k).toNat : Int) = 0))) ga_f _ (fun hA v17 hv18 => R_move (v := (.string s)) rfl ⟨rfl, Gr.refl _ _⟩) ?_
  refine Lx_qg (i := 6) true (decide (((sbyte s k).toNat : Int) = 0)) rfl rfl rfl rfl rfl (!(decide (((sbyte s k).toNat : Int) = 0))) ga_f _ (fun hA v19 hv20 => R_move (v := (.int .i64 ((k : Nat) : Int))) rfl ⟨rfl, Gr.refl _ _⟩) ?_
  refine Lx_qg (i := 7) true (decide (((sbyte s k).toNat : Int) = 0)) rfl rfl rfl rfl rfl (!(decide (((sbyte s k).toNat : Int) = 0))) ga_f _ (fun hA v21 hv22 => by
        have hP : ¬ (((sbyte s k).toNat : Int) = 0) := (of_decide_eq_false (notT hA))
        exact R_index_s (s := s) (k := k) Try.underlying9 (gv_t hA) (gv_t hA) rfl (by omega) ⟨rfl, Gr.refl _ _⟩) ?_
  refine Lx_qg (i := 8) true (decide (((sbyte s k).toNat : Int) = 0)) rfl rfl rfl rfl rfl (!(decide (((sbyte s k).toNat : Int) = 0))) ga_f _ (fun hA v23 hv24 => R_cmp (a := ((sbyte s k).toNat : Int)) (b := 47) (r := (decide (((sbyte s k).toNat : Int) = 47))) (gv_t hA) rfl rfl ⟨rfl, Gr.refl _ _⟩) ?_
  refine Lx_q (i := 9) rfl rfl _ (fun v25 hv26 => R_pick (t := (decide (((sbyte s k).toNat : Int) = 0))) (v := (.bool ((decide (((sbyte s k).toNat : Int) = 0)) || (decide (((sbyte s k).toNat : Int) = 47))))) rfl pk_or ⟨rfl, Gr.refl _ _⟩) ?_
  refine Lx_q (i := 10) rfl rfl _ (fun v27 hv28 => R_move (v := (.bool ((decide (((sbyte s k).toNat : Int) = 0)) || (decide (((sbyte s k).toNat : Int) = 47))))) rfl ⟨rfl, Gr.refl _ _⟩) ?_
  refine Lx_qg (i := 11) true ((decide (((sbyte s k).toNat : Int) = 0)) || (decide (((sbyte s k).toNat : Int) = 47))) rfl rfl rfl rfl rfl (!((decide (((sbyte s k).toNat : Int) = 0)) || (decide (((sbyte s k).toNat : Int) = 47)))) ga_f _ (fun hA v29 hv30 => R_move (v := (.string s)) rfl ⟨rfl, Gr.refl _ _⟩) ?_
  refine Lx_qg (i := 12) true ((decide (((sbyte s k).toNat : Int) = 0)) || (decide (((sbyte s k).toNat : Int) = 47))) rfl rfl rfl rfl rfl (!((decide (((sbyte s k).toNat : Int) = 0)) || (decide (((sbyte s k).toNat : Int) = 47)))) ga_f _ (fun hA v31 hv32 => R_move (v := (.int .i64 ((k : Nat) : Int))) rfl ⟨rfl, Gr.refl _ _⟩) ?_
  refine Lx_qg (i := 13) true ((decide (((sbyte s k).toNat : Int) = 0)) || (decide (((sbyte s k).toNat : Int) = 47))) rfl rfl rfl rfl rfl (!((decide (((sbyte s k).toNat : Int) = 0)) || (decide (((sbyte s k).toNat : Int) = 47)))) ga_f _ (fun hA v33 hv34 => by
        have hP : (¬ (((sbyte s k).toNat : Int) = 0) ∧ ¬ (((sbyte s k).toNat : Int) = 47)) := (And.imp (fun h => (of_decide_eq_false h)) (fun h => (of_decide_eq_false h)) (orF (notT hA)))
        exact R_index_s (s := s) (k := k) Try.underlying9 (gv_t hA) (gv_t hA) rfl (by omega) ⟨rfl, Gr.refl _ _⟩) ?_
  refine Lx_qg (i := 14) true ((decide (((sbyte s k).toNat : Int) = 0)) || (decide (((sbyte s k).toNat : Int) = 47))) rfl rfl rfl rfl rfl (!((decide (((sbyte s k).toNat : Int) = 0)) || (decide (((sbyte s k).toNat : Int) = 47)))) ga_f _ (fun hA v35 hv36 => R_cmp (a := ((sbyte s k).toNat : Int)) (b := 10) (r := (decide (((sbyte s k).toNat : Int) = 10))) (gv_t hA) rfl rfl ⟨rfl, Gr.refl _ _⟩) ?_
  refine Lx_q (i := 15) rfl rfl _ (fun v37 hv38 => R_pick (t := ((decide (((sbyte s k).toNat : Int) = 0)) || (decide (((sbyte s k).toNat : Int) = 47)))) (v := (.bool (((decide (((sbyte s k).toNat : Int) = 0)) || (decide (((sbyte s k).toNat : Int) = 47))) || (decide (((sbyte s k).toNat : Int) = 10))))) rfl pk_or ⟨rfl, Gr.refl _ _⟩) ?_
  refine Lx_nil (fun w39 hw40 => ?_)
  have H41 := H5.ext hw40
  refine Then_n ?_
  refine W_cond (t := (((decide (((sbyte s k).toNat : Int) = 0)) || (decide (((sbyte s k).toNat : Int) = 47))) || (decide (((sbyte s k).toNat : Int) = 10)))) rfl (fun hc42 => ?_) (fun hc42 => ?_)
  ·have hc42 : (((((sbyte s k).toNat : Int) = 0) ∨ (((sbyte s k).toNat : Int) = 47)) ∨ (((sbyte s k).toNat : Int) = 10)) := (Or.imp (fun h => (Or.imp (fun h => (of_decide_eq_true h)) (fun h => (of_decide_eq_true h)) (orT h))) (fun h => (of_decide_eq_true h)) (orT hc42))
   refine W_seq (W_reg ?_)
   refine O_v rfl (R_assign (v := (.bool false)) rfl ?_)
   refine O_nil (Then_n (W_ret (Blk_r (Then_r (Then_r (Blk_r (Then_r ?_)))))))
   refine ret_1 (v := (.bool false)) Try.results39 rfl ?_
   exact ⟨(nameOk_bad (k := k) (by omega) (by assumption)), H41.gr⟩
  ·have hc42 : ((¬ (((sbyte s k).toNat : Int) = 0) ∧ ¬ (((sbyte s k).toNat : Int) = 47)) ∧ ¬ (((sbyte s k).toNat : Int) = 10)) := (And.imp (fun h => (And.imp (fun h => (of_decide_eq_false h)) (fun h => (of_decide_eq_false h)) (orF h))) (fun h => (of_decide_eq_false h)) (orF hc42))
   refine W_skip (Blk_n (Then_n (W_reg ?_)))
   refine O_v rfl (R_move (v := (.int .i64 ((k : Nat) : Int))) rfl ?_)
   refine O_v rfl (R_arith (a := ((k : Nat) : Int)) (b := 1) (r0 := ((k : Nat) : Int) + 1) (r := ((k + 1 : Nat) : Int)) rfl rfl rfl (wrapN _ (by omega)) ?_)
   refine O_v rfl (R_assign (v := (.int .i64 ((k + 1 : Nat) : Int))) rfl ?_)
   refine O_nil (Then_n ?_)
   refine ⟨_, ?_, (k + 1), rfl, (by omega), (all_succ hn (badByte_f (by assumption))), _, envL_self ⟨rfl, rfl, trivial⟩, H41⟩
   omega
 ·have hc6 : ¬ (((k : Nat) : Int) < ((s.size : Nat) : Int)) := (of_decide_eq_false hc6)
  refine W_exit (Then_x (Then_x (Blk_x (Then_n (W_seq ?_)))))
  refine W_rg [(0, .q false), (1, .q false), (2, .q false), (3, .q false), (4, .q false), (5, .q false), (6, .q false), (7, .q false), (8, .q false), (9, .q false), (10, .q false), (11, .q false), (12, .q false), (13, .q false), (14, .q false), (15, .q false)] (by kernel_rfl) ?_
  refine Lx_q (i := 0) rfl rfl _ (fun v43 hv44 => R_move (v := (.string s)) rfl ⟨rfl, Gr.refl _ _⟩) ?_
  refine Lx_q (i := 1) rfl rfl _ (fun v45 hv46 => R_cmpS (a := s) (b := ByteArray.empty) (r := (!(decide (s = ByteArray.empty)))) rfl rfl rfl ⟨rfl, Gr.refl _ _⟩) ?_
  refine Lx_q (i := 2) rfl rfl _ (fun v47 hv48 => R_move (v := (.bool (!(decide (s = ByteArray.empty))))) rfl ⟨rfl, Gr.refl _ _⟩) ?_
  refine Lx_qg (i := 3) true (!(decide (s = ByteArray.empty))) rfl rfl rfl rfl rfl (!(decide (s = ByteArray.empty))) ga_t _ (fun hA v49 hv50 => R_move (v := (.string s)) rfl ⟨rfl, Gr.refl _ _⟩) ?_
  refine Lx_qg (i := 4) true (!(decide (s = ByteArray.empty))) rfl rfl rfl rfl rfl (!(decide (s = ByteArray.empty))) ga_t _ (fun hA v51 hv52 => R_len_string Try.underlying9 (gv_t hA) ⟨rfl, Gr.refl _ _⟩) ?_
  refine Lx_qg (i := 5) true (!(decide (s = ByteArray.empty))) rfl rfl rfl rfl rfl (!(decide (s = ByteArray.empty))) ga_t _ (fun hA v53 hv54 => R_cmp (a := ((s.size : Nat) : Int)) (b := 60) (r := (decide (((s.size : Nat) : Int) ≤ 60))) (gv_t hA) rfl rfl ⟨rfl, Gr.refl _ _⟩) ?_
  refine Lx_q (i := 6) rfl rfl _ (fun v55 hv56 => R_pick (t := (!(decide (s = ByteArray.empty)))) (v := (.bool ((!(decide (s = ByteArray.empty))) && (decide (((s.size : Nat) : Int) ≤ 60))))) rfl pk_and ⟨rfl, Gr.refl _ _⟩) ?_
  refine Lx_q (i := 7) rfl rfl _ (fun v57 hv58 => R_move (v := (.bool ((!(decide (s = ByteArray.empty))) && (decide (((s.size : Nat) : Int) ≤ 60))))) rfl ⟨rfl, Gr.refl _ _⟩) ?_
  refine Lx_qg (i := 8) true ((!(decide (s = ByteArray.empty))) && (decide (((s.size : Nat) : Int) ≤ 60))) rfl rfl rfl rfl rfl ((!(decide (s = ByteArray.empty))) && (decide (((s.size : Nat) : Int) ≤ 60))) ga_t _ (fun hA v59 hv60 => R_move (v := (.string s)) rfl ⟨rfl, Gr.refl _ _⟩) ?_
  refine Lx_qg (i := 9) true ((!(decide (s = ByteArray.empty))) && (decide (((s.size : Nat) : Int) ≤ 60))) rfl rfl rfl rfl rfl ((!(decide (s = ByteArray.empty))) && (decide (((s.size : Nat) : Int) ≤ 60))) ga_t _ (fun hA v61 hv62 => R_cmpS (a := s) (b := (⟨#[46]⟩ : ByteArray)) (r := (!(decide (s = (⟨#[46]⟩ : ByteArray))))) (gv_t hA) rfl rfl ⟨rfl, Gr.refl _ _⟩) ?_
  refine Lx_q (i := 10) rfl rfl _ (fun v63 hv64 => R_pick (t := ((!(decide (s = ByteArray.empty))) && (decide (((s.size : Nat) : Int) ≤ 60)))) (v := (.bool (((!(decide (s = ByteArray.empty))) && (decide (((s.size : Nat) : Int) ≤ 60))) && (!(decide (s = (⟨#[46]⟩ : ByteArray))))))) rfl pk_and ⟨rfl, Gr.refl _ _⟩) ?_
  refine Lx_q (i := 11) rfl rfl _ (fun v65 hv66 => R_move (v := (.bool (((!(decide (s = ByteArray.empty))) && (decide (((s.size : Nat) : Int) ≤ 60))) && (!(decide (s = (⟨#[46]⟩ : ByteArray))))))) rfl ⟨rfl, Gr.refl _ _⟩) ?_
  refine Lx_qg (i := 12) true (((!(decide (s = ByteArray.empty))) && (decide (((s.size : Nat) : Int) ≤ 60))) && (!(decide (s = (⟨#[46]⟩ : ByteArray))))) rfl rfl rfl rfl rfl (((!(decide (s = ByteArray.empty))) && (decide (((s.size : Nat) : Int) ≤ 60))) && (!(decide (s = (⟨#[46]⟩ : ByteArray))))) ga_t _ (fun hA v67 hv68 => R_move (v := (.string s)) rfl ⟨rfl, Gr.refl _ _⟩) ?_
  refine Lx_qg (i := 13) true (((!(decide (s = ByteArray.empty))) && (decide (((s.size : Nat) : Int) ≤ 60))) && (!(decide (s = (⟨#[46]⟩ : ByteArray))))) rfl rfl rfl rfl rfl (((!(decide (s = ByteArray.empty))) && (decide (((s.size : Nat) : Int) ≤ 60))) && (!(decide (s = (⟨#[46]⟩ : ByteArray))))) ga_t _ (fun hA v69 hv70 => R_cmpS (a := s) (b := (⟨#[46, 46]⟩ : ByteArray)) (r := (!(decide (s = (⟨#[46, 46]⟩ : ByteArray))))) (gv_t hA) rfl rfl ⟨rfl, Gr.refl _ _⟩) ?_
  refine Lx_q (i := 14) rfl rfl _ (fun v71 hv72 => R_pick (t := (((!(decide (s = ByteArray.empty))) && (decide (((s.size : Nat) : Int) ≤ 60))) && (!(decide (s = (⟨#[46]⟩ : ByteArray)))))) (v := (.bool ((((!(decide (s = ByteArray.empty))) && (decide (((s.size : Nat) : Int) ≤ 60))) && (!(decide (s = (⟨#[46]⟩ : ByteArray))))) && (!(decide (s = (⟨#[46, 46]⟩ : ByteArray))))))) rfl pk_and ⟨rfl, Gr.refl _ _⟩) ?_
  refine Lx_q (i := 15) rfl rfl _ (fun v73 hv74 => R_assign (v := (.bool ((((!(decide (s = ByteArray.empty))) && (decide (((s.size : Nat) : Int) ≤ 60))) && (!(decide (s = (⟨#[46]⟩ : ByteArray))))) && (!(decide (s = (⟨#[46, 46]⟩ : ByteArray))))))) rfl ⟨rfl, Gr.refl _ _⟩) ?_
  refine Lx_nil (fun w75 hw76 => ?_)
  have H77 := H5.ext hw76
  refine Then_n (W_ret ?_)
  refine ret_1 (v := (.bool ((((!(decide (s = ByteArray.empty))) && (decide (((s.size : Nat) : Int) ≤ 60))) && (!(decide (s = (⟨#[46]⟩ : ByteArray))))) && (!(decide (s = (⟨#[46, 46]⟩ : ByteArray))))))) Try.results39 rfl ?_
  exact ⟨(nameOk_good (by rwa [show s.size = k from by omega])), H77.gr⟩

end Go.Proofs.Ytiknfldhommmpaa
namespace Go.Proofs.Ytiknfldhommmpaa
open Go
set_option maxRecDepth 100000
set_option linter.unusedVariables false
set_option linter.unusedSimpArgs false
set_option maxHeartbeats 1000000 in
theorem ref03_Right (s : Stamp) (w : World) :
    Calls Try.prog 38 #[(aggOf (stampCh s))] w (Ret fun v w' => v = (.bool (stRight s)) ∧ Ext w w') := by
 refine calls_W Try.func38 rfl Try.ntmps38 rfl ?_
 have H0 := Ctx.start w nob
 refine W_seq (W_reg ?_)
 refine O_v rfl (C_box H0 [[(.int .i64 s.T)], [(.int .i64 s.R)]] rfl ?_)
 intro b1 w2 hb3 hx4 H5
 refine O_v rfl (R_assign (v := (.bool false)) rfl ?_)
 refine O_nil (Then_n (W_seq ?_))
 refine W_rg [(0, .q false), (1, .q false), (2, .q false), (3, .q false), (4, .q false), (5, .q false), (6, .q false), (7, .q false), (8, .q false), (9, .q false), (10, .q false), (11, .q false), (12, .q false), (13, .q false), (14, .q false), (15, .q false), (16, .q false), (17, .q false), (18, .q false)] (by kernel_rfl) ?_
 refine Lx_q (i := 0) rfl rfl _ (fun v6 hv7 => R_fieldAddr (off := 0) (oo := 0) Try.underlying24 rfl rfl Try.sizeOf2 rfl rfl ⟨rfl, Gr.refl _ _⟩) ?_
 refine Lx_q (i := 1) rfl rfl _ (fun v8 hv9 => R_load1 (v := (.int .i64 s.T)) Try.isAgg2 rfl ((boxR_at ((H5.ext hv9).getOwn 0 rfl)).chunks 0 1 0 0 _ rfl rfl rfl) ⟨rfl, Gr.refl _ _⟩) ?_
 refine Lx_q (i := 2) rfl rfl _ (fun v10 hv11 => R_cmp (a := s.T) (b := 0) (r := (decide (0 < s.T))) rfl rfl rfl ⟨rfl, Gr.refl _ _⟩) ?_
 refine Lx_q (i := 3) rfl rfl _ (fun v12 hv13 => R_move (v := (.bool (decide (0 < s.T)))) rfl ⟨rfl, Gr.refl _ _⟩) ?_
 refine Lx_qg (i := 4) true (decide (0 < s.T)) rfl rfl rfl rfl rfl (decide (0 < s.T)) ga_t _ (fun hA v14 hv15 => R_fieldAddr (off := 0) (oo := 0) Try.underlying24 rfl rfl Try.sizeOf2 rfl rfl ⟨rfl, Gr.refl _ _⟩) ?_
 refine Lx_qg (i := 5) true (decide (0 < s.T)) rfl rfl rfl rfl rfl (decide (0 < s.T)) ga_t _ (fun hA v16 hv17 => R_load1 (v := (.int .i64 s.T)) Try.isAgg2 (gv_t hA) ((boxR_at ((H5.ext hv17).getOwn 0 rfl)).chunks 0 1 0 0 _ rfl rfl rfl) ⟨rfl, Gr.refl _ _⟩) ?_
 refine Lx_qg (i := 6) true (decide (0 < s.T)) rfl rfl rfl rfl rfl (decide (0 < s.T)) ga_t _ (fun hA v18 hv19 => R_cmp (a := s.T) (b := 1099511627776) (r := (decide (s.T ≤ 1099511627776))) (gv_t hA) rfl rfl ⟨rfl, Gr.refl _ _⟩) ?_
 refine Lx_q (i := 7) rfl rfl _ (fun v20 hv21 => R_pick (t := (decide (0 < s.T))) (v := (.bool ((decide (0 < s.T)) && (decide (s.T ≤ 1099511627776))))) rfl pk_and ⟨rfl, Gr.refl _ _⟩) ?_
 refine Lx_q (i := 8) rfl rfl _ (fun v22 hv23 => R_move (v := (.bool ((decide (0 < s.T)) && (decide (s.T ≤ 1099511627776))))) rfl ⟨rfl, Gr.refl _ _⟩) ?_
 refine Lx_qg (i := 9) true ((decide (0 < s.T)) && (decide (s.T ≤ 1099511627776))) rfl rfl rfl rfl rfl ((decide (0 < s.T)) && (decide (s.T ≤ 1099511627776))) ga_t _ (fun hA v24 hv25 => R_fieldAddr (off := 1) (oo := 1) Try.underlying24 rfl rfl Try.sizeOf3 rfl rfl ⟨rfl, Gr.refl _ _⟩) ?_
 refine Lx_qg (i := 10) true ((decide (0 < s.T)) && (decide (s.T ≤ 1099511627776))) rfl rfl rfl rfl rfl ((decide (0 < s.T)) && (decide (s.T ≤ 1099511627776))) ga_t _ (fun hA v26 hv27 => R_load1 (v := (.int .i64 s.R)) Try.isAgg3 (gv_t hA) ((boxR_at ((H5.ext hv27).getOwn 0 rfl)).chunks 1 1 1 1 _ rfl rfl rfl) ⟨rfl, Gr.refl _ _⟩) ?_
 refine Lx_qg (i := 11) true ((decide (0 < s.T)) && (decide (s.T ≤ 1099511627776))) rfl rfl rfl rfl rfl ((decide (0 < s.T)) && (decide (s.T ≤ 1099511627776))) ga_t _ (fun hA v28 hv29 => R_cmp (a := s.R) (b := 0) (r := (decide (0 < s.R))) (gv_t hA) rfl rfl ⟨rfl, Gr.refl _ _⟩) ?_
 refine Lx_q (i := 12) rfl rfl _ (fun v30 hv31 => R_pick (t := ((decide (0 < s.T)) && (decide (s.T ≤ 1099511627776)))) (v := (.bool (((decide (0 < s.T)) && (decide (s.T ≤ 1099511627776))) && (decide (0 < s.R))))) rfl pk_and ⟨rfl, Gr.refl _ _⟩) ?_
 refine Lx_q (i := 13) rfl rfl _ (fun v32 hv33 => R_move (v := (.bool (((decide (0 < s.T)) && (decide (s.T ≤ 1099511627776))) && (decide (0 < s.R))))) rfl ⟨rfl, Gr.refl _ _⟩) ?_
 refine Lx_qg (i := 14) true (((decide (0 < s.T)) && (decide (s.T ≤ 1099511627776))) && (decide (0 < s.R))) rfl rfl rfl rfl rfl (((decide (0 < s.T)) && (decide (s.T ≤ 1099511627776))) && (decide (0 < s.R))) ga_t _ (fun hA v34 hv35 => R_fieldAddr (off := 1) (oo := 1) Try.underlying24 rfl rfl Try.sizeOf3 rfl rfl ⟨rfl, Gr.refl _ _⟩) ?_
 refine Lx_qg (i := 15) true (((decide (0 < s.T)) && (decide (s.T ≤ 1099511627776))) && (decide (0 < s.R))) rfl rfl rfl rfl rfl (((decide (0 < s.T)) && (decide (s.T ≤ 1099511627776))) && (decide (0 < s.R))) ga_t _ (fun hA v36 hv37 => R_load1 (v := (.int .i64 s.R)) Try.isAgg3 (gv_t hA) ((boxR_at ((H5.ext hv37).getOwn 0 rfl)).chunks 1 1 1 1 _ rfl rfl rfl) ⟨rfl, Gr.refl _ _⟩) ?_
 refine Lx_qg (i := 16) true (((decide (0 < s.T)) && (decide (s.T ≤ 1099511627776))) && (decide (0 < s.R))) rfl rfl rfl rfl rfl (((decide (0 < s.T)) && (decide (s.T ≤ 1099511627776))) && (decide (0 < s.R))) ga_t _ (fun hA v38 hv39 => R_cmp (a := s.R) (b := 65536) (r := (decide (s.R ≤ 65536))) (gv_t hA) rfl rfl ⟨rfl, Gr.refl _ _⟩) ?_
 refine Lx_q (i := 17) rfl rfl _ (fun v40 hv41 => R_pick (t := (((decide (0 < s.T)) && (decide (s.T ≤ 1099511627776))) && (decide (0 < s.R)))) (v := (.bool ((((decide (0 < s.T)) && (decide (s.T ≤ 1099511627776))) && (decide (0 < s.R))) && (decide (s.R ≤ 65536))))) rfl pk_and ⟨rfl, Gr.refl _ _⟩) ?_
 refine Lx_q (i := 18) rfl rfl _ (fun v42 hv43 => R_assign (v := (.bool ((((decide (0 < s.T)) && (decide (s.T ≤ 1099511627776))) && (decide (0 < s.R))) && (decide (s.R ≤ 65536))))) rfl ⟨rfl, Gr.refl _ _⟩) ?_
 refine Lx_nil (fun w44 hw45 => ?_)
 have H46 := H5.ext hw45
 refine Then_n (W_ret ?_)
 refine ret_1 (v := (.bool ((((decide (0 < s.T)) && (decide (s.T ≤ 1099511627776))) && (decide (0 < s.R))) && (decide (s.R ≤ 65536))))) Try.results38 rfl ?_
 exact ⟨(boolE (by simp only [stRight, Bool.and_eq_true, Bool.or_eq_true, Bool.not_eq_true, decide_eq_true_eq]; omega)), H46.gr⟩

end Go.Proofs.Ytiknfldhommmpaa
/- The document's answer on operations. -/
namespace Go.Proofs.Ytiknfldhommmpaa
open Go
set_option linter.unusedVariables false
set_option linter.unusedSimpArgs false
theorem rgood_f1 {o : OpS} (h : (stRight o.tm = false ∨ stRight o.node = false) ∨ (0 : Int) < cmpSt o.node o.tm) : Value.bool false = Value.bool (goodOp o) := boolF fun hh => by
  obtain ⟨h1, h2, h3⟩ := hh
  rcases h with (h | h) | h
  · rw [h1] at h; cases h
  · rw [h2] at h; cases h
  · rcases h3 with ⟨_, h3⟩ | ⟨_, h3⟩
    · have := (of_decide_eq_true h3).1; omega
    · have := (of_decide_eq_true h3).1; omega
theorem fixedSt_iff {s : Stamp} : fixedSt s = ((decide (s.T = 0) && decide (s.R = 0)) || (decide (s.T = 0) && decide (s.R = 1))) := by
  unfold fixedSt
  rw [Bool.eq_iff_iff]
  simp only [decide_eq_true_eq, Bool.or_eq_true, Bool.and_eq_true]
  omega
theorem rgood_m {o : OpS} (h : (stRight o.tm = true ∧ stRight o.node = true) ∧ ¬ (0 : Int) < cmpSt o.node o.tm) (hk : o.kind = 1) :
    Value.bool ((((((stRight o.par || (decide (o.par.T = 0) && decide (o.par.R = 0))) || (decide (o.par.T = 0) && decide (o.par.R = 1))) && nameOk o.name) && decide (o.data = zeroId)) && decide (((o.over.length : Nat) : Int) = 0))) = Value.bool (goodOp o) := by
  rw [Bool.or_assoc, ← fixedSt_iff]
  refine boolE ⟨fun hm => ⟨h.1.1, h.1.2, .inl ⟨hk, ?_⟩⟩, fun hg => ?_⟩
  · refine decide_eq_true ⟨by omega, ?_⟩
    simp only [Bool.and_eq_true, Bool.or_eq_true, decide_eq_true_eq] at hm
    exact ⟨hm.1.1.1, hm.1.1.2, hm.1.2, by have := hm.2; omega⟩
  · rcases hg.2.2 with ⟨_, hm⟩ | ⟨h2, _⟩
    · obtain ⟨_, h1, h2, h3, h4⟩ := of_decide_eq_true hm
      simp only [Bool.and_eq_true, Bool.or_eq_true, decide_eq_true_eq]
      exact ⟨⟨⟨h1, h2⟩, h3⟩, by omega⟩
    · omega
theorem cmpSt_self (s : Stamp) : cmpSt s s = 0 := cmpSt_eq (by omega) ⟨rfl, rfl⟩
theorem cmpSt_zero {a b : Stamp} : cmpSt a b = 0 ↔ a = b := by
  constructor
  · intro h
    unfold cmpSt at h
    split at h
    · cases h
    · split at h
      · rename_i h2; cases a; cases b; simp_all
      · cases h
  · rintro rfl; exact cmpSt_self a
theorem rgood_f2 {o : OpS} (h1 : ¬ o.kind = 1) (h : (((((¬ o.kind = 2 ∨ o.node = o.tm) ∨ ¬ o.par.T = 0) ∨ ¬ o.par.R = 0) ∨ ¬ o.name = ByteArray.empty) ∨ o.data = zeroId) ∨ (64 : Int) < ((o.over.length : Nat) : Int)) : Value.bool false = Value.bool (goodOp o) := boolF fun hh => by
  rcases hh.2.2 with ⟨hk, _⟩ | ⟨hk, he⟩
  · exact h1 hk
  · obtain ⟨e1, e2, e3, e4, e5, _⟩ := of_decide_eq_true he
    rcases h with (((((h | h) | h) | h) | h) | h) | h
    · exact h hk
    · rw [h, cmpSt_self] at e1; omega
    · rw [e2] at h; exact h rfl
    · rw [e2] at h; exact h rfl
    · exact h e3
    · exact e4 h
    · omega
theorem rover_t {tm : Stamp} {over : List Stamp} {k : Nat} (h : (stRight (nth over k) = true ∧ cmpSt (nth over k) tm = -1) ∧ (¬ (0 : Int) < ((k : Nat) : Int) ∨ cmpSt (nth over (k - 1)) (nth over k) = -1)) : opOverAt tm over k :=
  ⟨h.1.1, by have := h.1.2; omega, by rcases h.2 with h | h <;> omega⟩
theorem m1_of_neg {a b : Stamp} (h : cmpSt a b < 0) : cmpSt a b = -1 := cmpSt_m1.2 (cmpSt_neg.1 h)
theorem rgood_f3 {o : OpS} {k : Nat} (h1 : ¬ o.kind = 1) (hk : k < o.over.length) (h : (stRight (nth o.over k) = false ∨ ¬ cmpSt (nth o.over k) o.tm = -1) ∨ ((0 : Int) < ((k : Nat) : Int) ∧ ¬ cmpSt (nth o.over (k - 1)) (nth o.over k) = -1)) : Value.bool false = Value.bool (goodOp o) := boolF fun hh => by
  rcases hh.2.2 with ⟨hk, _⟩ | ⟨_, he⟩
  · exact h1 hk
  · obtain ⟨_, _, _, _, _, e6⟩ := of_decide_eq_true he
    obtain ⟨a1, a2, a3⟩ := e6 k hk
    rcases h with (h | h) | h
    · rw [a1] at h; cases h
    · exact h (m1_of_neg a2)
    · rcases a3 with a3 | a3
      · omega
      · exact h.2 (m1_of_neg a3)
theorem rgood_t {o : OpS} (h0 : (stRight o.tm = true ∧ stRight o.node = true) ∧ ¬ (0 : Int) < cmpSt o.node o.tm)
    (h : (((((o.kind = 2 ∧ ¬ o.node = o.tm) ∧ o.par.T = 0) ∧ o.par.R = 0) ∧ o.name = ByteArray.empty) ∧ ¬ o.data = zeroId) ∧ ¬ (64 : Int) < ((o.over.length : Nat) : Int)) (hn : ∀ i, i < o.over.length → opOverAt o.tm o.over i) : Value.bool true = Value.bool (goodOp o) := by
  refine boolT ⟨h0.1.1, h0.1.2, .inr ⟨h.1.1.1.1.1.1, decide_eq_true ⟨?_, ?_, h.1.1.2, h.1.2, by omega, hn⟩⟩⟩
  · have h1 : ¬ cmpSt o.node o.tm = 0 := fun e => h.1.1.1.1.1.2 (cmpSt_zero.1 e)
    omega
  · have h1 := h.1.1.1.1.2; have h2 := h.1.1.1.2
    cases hp : o.par with
    | mk T R => rw [hp] at h1 h2; simp at h1 h2; rw [h1, h2]
end Go.Proofs.Ytiknfldhommmpaa
