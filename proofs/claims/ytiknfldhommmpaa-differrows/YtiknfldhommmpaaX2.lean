/- Proved: for every input, pollardlaw14.DifferRows returns true and leaves its arguments as they were. No condition. -/
import Derived.Test.YtiknfldhommmpaaProg
import Derived.Shelf.Strings.IndexAnyAll
import Derived.Test.YtiknfldhommmpaaX1
namespace Go.Proofs.Ytiknfldhommmpaa
open Go
set_option maxRecDepth 100000
set_option linter.unusedVariables false
set_option linter.unusedSimpArgs false
theorem differ_Path_c24 : callable Try.prog 24 = true := by kernel_rfl
theorem differ_Path_c25 : callable Try.prog 25 = true := by kernel_rfl
theorem differ_Path_c32 : callable Try.prog 32 = true := by kernel_rfl
theorem differ_Path_c33 : callable Try.prog 33 = true := by kernel_rfl
set_option maxHeartbeats 1000000 in
theorem differ_Path (hrows : SlH) (rows : List RowS) (node : Stamp) (w : World) (Srows : Sl (Old w) rowCh 8 hrows rows w) (hl : rows.length ≤ 1048576) (hnm : ∀ x ∈ rows, x.name.size ≤ 60) :
    Calls Try.prog 12 #[(slV hrows rows), (aggOf (stampCh node))] w (Ret fun v w' => v = (.string (pathOf rows node)) ∧ Ext w w') := by
 refine calls_W Try.func12 rfl Try.ntmps12 rfl ?_
 have H0 := Ctx.start w nob
 have H1 := H0.addSl _ Srows (fun b hb => ⟨hb, fun _ ho => (nomatch ho)⟩)
 have LSrows := Srows.len
 have htl := tableOf_len rows
 refine W_seq (W_reg ?_)
 refine O_v rfl (C_box H1 [[(.int .i64 node.T)], [(.int .i64 node.R)]] rfl ?_)
 intro b2 w3 hb4 hx5 H6
 refine O_v rfl (R_assign (v := (.string ByteArray.empty)) rfl ?_)
 refine O_nil (Then_n (W_seq (W_reg ?_)))
 refine O_v rfl (R_move (v := (slV hrows rows)) rfl ?_)
 refine O_v rfl (R_callL (vs := [(slV hrows rows)]) differ_Path_c24 rfl rfl ((differ_of hrows rows w3 (H6.slOld 0 rfl)).ret ?_))
 rintro _ w8 ⟨r7, rfl, hx9, hr10, hm11⟩
 have H12 := C_addMap H6 hx9 hr10 hm11
 refine O_v rfl (R_assign (v := (.map (some r7))) rfl ?_)
 refine O_nil (Then_n (W_seq (W_seq (W_reg ?_))))
 refine O_v rfl (R_move (v := (.map (some r7))) rfl ?_)
 refine O_v rfl (R_loadA (cs := [[(.int .i64 node.T)], [(.int .i64 node.R)]]) Try.isAgg24 Try.sizeOf24 rfl rfl ((boxR_at (H12.getOwn 1 rfl)).chunks 0 2 0 0 _ rfl rfl rfl) ?_)
 refine O_v rfl (R_callL (vs := [(.map (some r7)), (aggOf (stampCh node))]) differ_Path_c25 rfl rfl ((differ_place r7 (tableOf rows) node w8 (H12.getOwn 0 rfl) (by have := tableOf_len rows; omega)).ret ?_))
 rintro _ w13 ⟨rfl, hx14⟩
 have H15 := H12.ext hx14
 refine O_v rfl (R_move (v := (.tuple #[(aggOf (stampCh ((placeOf (tableOf rows) node).1))), (.bool ((placeOf (tableOf rows) node).2))])) rfl ?_)
 refine O_v rfl (R_extract (v := (aggOf (stampCh ((placeOf (tableOf rows) node).1)))) rfl rfl ?_)
 refine O_v rfl (R_extract (v := (.bool ((placeOf (tableOf rows) node).2))) rfl rfl ?_)
 refine O_v rfl (C_alloc H15 [[(.int .i64 0)], [(.int .i64 0)]] Try.zeroValue24 ?_)
 intro b16 w17 hb18 hx19 H20
 refine O_u (C_storeA H20 0 rfl 0 (sub := [[(.int .i64 (((placeOf (tableOf rows) node).1).T))], [(.int .i64 (((placeOf (tableOf rows) node).1).R))]]) [[(.int .i64 (((placeOf (tableOf rows) node).1).T))], [(.int .i64 (((placeOf (tableOf rows) node).1).R))]] Try.sizeOf24 rfl rfl rfl rfl ⟨[[(.int .i64 0)], [(.int .i64 0)]], [], rfl, rfl, rfl⟩ rfl ?_)
 intro w21 hg22 H23
 refine O_v rfl (R_assign (v := (.bool ((placeOf (tableOf rows) node).2))) rfl ?_)
 refine O_nil (Then_n (W_seq ?_))
 refine W_rg [(0, .q false), (1, .q false), (2, .q false), (3, .q false), (4, .q false), (5, .q false), (6, .q false)] (by kernel_rfl) ?_
 refine Lx_q (i := 0) rfl rfl _ (fun v24 hv25 => R_move (v := (.bool ((placeOf (tableOf rows) node).2))) rfl ⟨rfl, Gr.refl _ _⟩) ?_
 refine Lx_q (i := 1) rfl rfl _ (fun v26 hv27 => R_not rfl ⟨rfl, Gr.refl _ _⟩) ?_
 refine Lx_q (i := 2) rfl rfl _ (fun v28 hv29 => R_move (v := (.bool (!((placeOf (tableOf rows) node).2)))) rfl ⟨rfl, Gr.refl _ _⟩) ?_
 refine Lx_qg (i := 3) true (!((placeOf (tableOf rows) node).2)) rfl rfl rfl rfl rfl (!(!((placeOf (tableOf rows) node).2))) ga_f _ (fun hA v30 hv31 => R_loadA (cs := [[(.int .i64 (((placeOf (tableOf rows) node).1).T))], [(.int .i64 (((placeOf (tableOf rows) node).1).R))]]) Try.isAgg24 Try.sizeOf24 rfl rfl ((boxR_at ((H23.ext hv31).getOwn 0 rfl)).chunks 0 2 0 0 _ rfl rfl rfl) ⟨rfl, Gr.refl _ _⟩) ?_
 refine Lx_qg (i := 4) true (!((placeOf (tableOf rows) node).2)) rfl rfl rfl rfl rfl (!(!((placeOf (tableOf rows) node).2))) ga_f _ (fun hA v32 hv33 => R_buildL (vs := []) (v := aggOf [[(.int .i64 0)], [(.int .i64 0)]]) rfl (fun _ => by kernel_rfl) ⟨rfl, Gr.refl _ _⟩) ?_
 refine Lx_qg (i := 5) true (!((placeOf (tableOf rows) node).2)) rfl rfl rfl rfl rfl (!(!((placeOf (tableOf rows) node).2))) ga_f _ (fun hA v34 hv35 => R_nev (a := ((placeOf (tableOf rows) node).1)) (b := ({ T := 0, R := 0 } : Stamp)) eqv_Stamp24 rfl Try.eqGuardType24 (gv_t hA) (gv_t hA) ⟨rfl, Gr.refl _ _⟩) ?_
 refine Lx_q (i := 6) rfl rfl _ (fun v36 hv37 => R_pick (t := (!((placeOf (tableOf rows) node).2))) (v := (.bool ((!((placeOf (tableOf rows) node).2)) || (!(decide (((placeOf (tableOf rows) node).1) = ({ T := 0, R := 0 } : Stamp))))))) rfl pk_or ⟨rfl, Gr.refl _ _⟩) ?_
 refine Lx_nil (fun w38 hw39 => ?_)
 have H40 := H23.ext hw39
 refine Then_n ?_
 refine W_cond (t := ((!((placeOf (tableOf rows) node).2)) || (!(decide (((placeOf (tableOf rows) node).1) = ({ T := 0, R := 0 } : Stamp)))))) rfl (fun hc41 => ?_) (fun hc41 => ?_)
 ·have hc41 : (((placeOf (tableOf rows) node).2) = false ∨ ¬ (((placeOf (tableOf rows) node).1) = ({ T := 0, R := 0 } : Stamp))) := (Or.imp (fun h => (notT h)) (fun h => (of_decide_eq_false (notT h))) (orT hc41))
  refine W_seq (W_reg ?_)
  refine O_v rfl (R_assign (v := (.string ByteArray.empty)) rfl ?_)
  refine O_nil (Then_n (W_ret (Then_r ?_)))
  refine ret_1 (v := (.string ByteArray.empty)) Try.results12 rfl ?_
  exact ⟨(by rw [pathOf_none (by assumption)]), H40.gr⟩
 ·have hc41 : (((placeOf (tableOf rows) node).2) = true ∧ (((placeOf (tableOf rows) node).1) = ({ T := 0, R := 0 } : Stamp))) := (And.imp (fun h => (notF h)) (fun h => (of_decide_eq_true (notF h))) (orF hc41))
  refine W_skip (Then_n (W_seq (W_reg ?_)))
  refine O_v rfl (R_assign (v := (.slice none 0 0)) rfl ?_)
  refine O_nil (Then_n (W_seq (W_block ?_)))
  have H42 := H40.addNil 9 1 encS
  refine W_loop (fun m44 e45 w46 => ∃ (n : Nat), ∃ (nd : Stamp), ∃ (acc : List ByteArray), ∃ (h43 : SlH), m44 = n + 1 ∧ (n ≤ (tableOf rows).length + 1) ∧ (placeGo (tableOf rows) n nd = (⟨0, 0⟩, true)) ∧ (acc ++ namesGo (tableOf rows) n nd = namesGo (tableOf rows) ((tableOf rows).length + 1) node) ∧ (acc.length + n ≤ (tableOf rows).length + 1) ∧ (∀ x ∈ acc, x.size ≤ 60) ∧ ∃ eb47, e45 = envL [(3, (.pointer (some ⟨b2, 0, none⟩))), (4, (.string ByteArray.empty)), (5, (.map (some r7))), (8, (slV h43 acc))] eb47 ∧ Ctx w nob w46 [rowR 9 1 encS h43 acc, boxR b16 24 [[(.int .i64 (((placeOf (tableOf rows) node).1).T))], [(.int .i64 (((placeOf (tableOf rows) node).1).R))]], mapO r7 (fun x : Stamp => stampV x) rowV (tableOf rows), boxR b2 24 [[(.int .i64 nd.T)], [(.int .i64 nd.R)]]] [slI (Old w) rowCh 8 hrows rows]) _ ⟨((tableOf rows).length + 1), node, [], nilH, rfl, (Nat.le_refl _), (place_conj (by assumption)), rfl, (by simp), (fun _ h => (nomatch h)), _, envL_self ⟨rfl, rfl, rfl, rfl, trivial⟩, H42⟩ ?_
  rintro m44 _ w46 ⟨n, nd, acc, h43, rfl, hn, hp, ha, hal, hs, eb47, rfl, H48⟩
  refine W_seq (W_seq (W_reg ?_))
  refine O_v rfl (R_fieldAddr (off := 0) (oo := 0) Try.underlying24 rfl rfl Try.sizeOf2 rfl rfl ?_)
  refine O_v rfl (R_load1 (v := (.int .i64 nd.T)) Try.isAgg2 rfl ((boxR_at (H48.getOwn 3 rfl)).chunks 0 1 0 0 _ rfl rfl rfl) ?_)
  refine O_v rfl (R_cmp (a := nd.T) (b := 0) (r := (!(decide (nd.T = 0)))) rfl rfl rfl ?_)
  refine O_nil (Then_n ?_)
  refine W_cond (t := (!(decide (nd.T = 0)))) rfl (fun hc49 => ?_) (fun hc49 => ?_)
  ·have hc49 : ¬ (nd.T = 0) := (of_decide_eq_false (notT hc49))
   refine W_skip (Then_n (W_block (W_seq (W_reg ?_))))
   refine O_v rfl (R_move (v := (slV h43 acc)) rfl ?_)
   refine O_v rfl (R_move (v := (.map (some r7))) rfl ?_)
   refine O_v rfl (R_loadA (cs := [[(.int .i64 nd.T)], [(.int .i64 nd.R)]]) Try.isAgg24 Try.sizeOf24 rfl rfl ((boxR_at (H48.getOwn 3 rfl)).chunks 0 2 0 0 _ rfl rfl rfl) ?_)
   refine O_v rfl (R_lookup (kk := nd) (z := zeroRow) keyT_Stamp24 Try.underlying56 Try.zeroValue44 (H48.getOwn 2 rfl) rfl rfl ?_)
   refine O_v rfl (R_field1 (cs := [[(.int .i64 ((((kvGet (tableOf rows) nd).getD zeroRow).node).T))], [(.int .i64 ((((kvGet (tableOf rows) nd).getD zeroRow).node).R))], [(.int .i64 ((((kvGet (tableOf rows) nd).getD zeroRow).par).T))], [(.int .i64 ((((kvGet (tableOf rows) nd).getD zeroRow).par).R))], [(.int .i64 ((((kvGet (tableOf rows) nd).getD zeroRow).tm).T))], [(.int .i64 ((((kvGet (tableOf rows) nd).getD zeroRow).tm).R))], [(.string (((kvGet (tableOf rows) nd).getD zeroRow).name))], [(slV (((kvGet (tableOf rows) nd).getD zeroRow).hh) (((kvGet (tableOf rows) nd).getD zeroRow).heads))]]) (kk := 6) (v := (.string (((kvGet (tableOf rows) nd).getD zeroRow).name))) (off := 6) Try.underlying44 rfl rfl Try.isAgg9 rfl rfl rfl ?_)
   refine O_v rfl (C_buildSliceL H48 (enc := encS) (val := strV) ([((kvGet (tableOf rows) nd).getD zeroRow).name] : List ByteArray) Try.underlying65 Try.sizeOf9 Try.zeroValue9 rfl (by decide) (fun _ => rfl) (fun _ => rfl) rfl rfl (by decide) ?_)
   intro b50 w51 hb52 hx53 H54
   refine O_v rfl (C_append H54 1 rfl (bytes := 16) (l := acc) (ys := ([((kvGet (tableOf rows) nd).getD zeroRow).name] : List ByteArray)) Try.underlying65 rfl rfl rfl rfl rfl (by decide) rfl rfl (OwnS.sl (H54.getOwn 0 rfl) (fun _ => rfl)) (fun _ => rfl) (fun _ => rfl) (by simp only [List.length_append, List.length_cons, List.length_nil]; omega) (by decide) ?_)
   intro h55 w56 hg57 H58
   refine O_v rfl (R_assign (v := (slV h55 (acc ++ ([((kvGet (tableOf rows) nd).getD zeroRow).name] : List ByteArray)))) rfl ?_)
   refine O_nil (Then_n (W_reg ?_))
   refine O_v rfl (R_move (v := (.map (some r7))) rfl ?_)
   refine O_v rfl (R_loadA (cs := [[(.int .i64 nd.T)], [(.int .i64 nd.R)]]) Try.isAgg24 Try.sizeOf24 rfl rfl ((boxR_at (H58.getOwn 4 rfl)).chunks 0 2 0 0 _ rfl rfl rfl) ?_)
   refine O_v rfl (R_lookup (kk := nd) (z := zeroRow) keyT_Stamp24 Try.underlying56 Try.zeroValue44 (H58.getOwn 3 rfl) rfl rfl ?_)
   refine O_v rfl (R_field (cs := [[(.int .i64 ((((kvGet (tableOf rows) nd).getD zeroRow).node).T))], [(.int .i64 ((((kvGet (tableOf rows) nd).getD zeroRow).node).R))], [(.int .i64 ((((kvGet (tableOf rows) nd).getD zeroRow).par).T))], [(.int .i64 ((((kvGet (tableOf rows) nd).getD zeroRow).par).R))], [(.int .i64 ((((kvGet (tableOf rows) nd).getD zeroRow).tm).T))], [(.int .i64 ((((kvGet (tableOf rows) nd).getD zeroRow).tm).R))], [(.string (((kvGet (tableOf rows) nd).getD zeroRow).name))], [(slV (((kvGet (tableOf rows) nd).getD zeroRow).hh) (((kvGet (tableOf rows) nd).getD zeroRow).heads))]]) (sub := [[(.int .i64 ((((kvGet (tableOf rows) nd).getD zeroRow).par).T))], [(.int .i64 ((((kvGet (tableOf rows) nd).getD zeroRow).par).R))]]) (kk := 2) (m := 2) (off := 2) Try.underlying44 rfl rfl Try.isAgg24 Try.sizeOf24 rfl rfl rfl rfl ?_)
   refine O_u (C_storeA H58 4 rfl 0 (sub := [[(.int .i64 ((((kvGet (tableOf rows) nd).getD zeroRow).par).T))], [(.int .i64 ((((kvGet (tableOf rows) nd).getD zeroRow).par).R))]]) [[(.int .i64 ((((kvGet (tableOf rows) nd).getD zeroRow).par).T))], [(.int .i64 ((((kvGet (tableOf rows) nd).getD zeroRow).par).R))]] Try.sizeOf24 rfl rfl rfl rfl ⟨[[(.int .i64 nd.T)], [(.int .i64 nd.R)]], [], rfl, rfl, rfl⟩ rfl ?_)
   intro w59 hg60 H61
   refine O_nil (Blk_n (Then_n ?_))
   have H62 := H61.sub (B' := [rowR 9 1 encS h55 (acc ++ ([((kvGet (tableOf rows) nd).getD zeroRow).name] : List ByteArray)), boxR b16 24 [[(.int .i64 (((placeOf (tableOf rows) node).1).T))], [(.int .i64 (((placeOf (tableOf rows) node).1).R))]], mapO r7 (fun x : Stamp => stampV x) rowV (tableOf rows), boxR b2 24 [[(.int .i64 ((((kvGet (tableOf rows) nd).getD zeroRow).par).T))], [(.int .i64 ((((kvGet (tableOf rows) nd).getD zeroRow).par).R))]]]) (I' := [slI (Old w) rowCh 8 hrows rows]) (List.Sublist.cons _ (List.Sublist.cons_cons _ (List.Sublist.cons_cons _ (List.Sublist.cons_cons _ (List.Sublist.cons_cons _ List.Sublist.slnil))))) (List.forall_mem_cons.2 ⟨List.mem_of_getElem? (i := 0) rfl, fun _ h => (nomatch h)⟩)
   refine ⟨_, ?_, (n - 1), (((kvGet (tableOf rows) nd).getD zeroRow).par), (acc ++ ([((kvGet (tableOf rows) nd).getD zeroRow).name] : List ByteArray)), h55, rfl, (by omega), (place_step hp (by assumption)).2, (names_step hp (by assumption) ha), (by have := (place_step hp (by assumption)).1; simp only [List.length_append, List.length_cons, List.length_nil]; omega), (fun x hx => (List.mem_append.1 hx).elim (hs x) (fun h => by rw [List.mem_singleton.1 h]; exact table_name hnm nd)), _, envL_self ⟨rfl, rfl, rfl, rfl, trivial⟩, H62⟩
   have := (place_step hp (by assumption)).1; omega
  ·have hc49 : (nd.T = 0) := (of_decide_eq_true (notF hc49))
   refine W_exit (Then_x (Then_x (Blk_x (Then_n (W_seq (W_reg ?_))))))
   refine O_v rfl (R_move (v := (slV h43 acc)) rfl ?_)
   refine O_v rfl (R_callL (vs := [(slV h43 acc)]) differ_Path_c32 rfl rfl ((Reverse_str h43 acc w46 (H48.getOwn 0 rfl)).ret ?_))
   rintro _ w63 ⟨rfl, hg64, ho65⟩
   have H66 := H48.updRow 0 rfl hg64 ho65
   rw [slV_len (h := h43) (l := acc) (l' := acc.reverse) (by simp)]
   refine O_nil (Then_n (W_seq (W_reg ?_)))
   refine O_v rfl (R_move (v := (slV h43 acc.reverse)) rfl ?_)
   refine O_v rfl (R_callL (vs := [(slV h43 acc.reverse), (.string (⟨#[47]⟩ : ByteArray))]) differ_Path_c33 rfl rfl ((strings_Join h43 acc.reverse (⟨#[47]⟩ : ByteArray) w63 (H66.rowSl 0 rfl (fun _ => rfl)) (by simp only [List.length_reverse]; omega) (names_small (n := 1048577) (fun x hx => hs x (List.mem_reverse.1 hx)) (by simp only [List.length_reverse]; omega) (by omega))).ret ?_))
   rintro _ w67 ⟨rfl, hx68⟩
   have H69 := H66.ext hx68
   refine O_v rfl (R_assign (v := (.string (joinB acc.reverse (⟨#[47]⟩ : ByteArray)))) rfl ?_)
   refine O_nil (Then_n (W_ret ?_))
   refine ret_1 (v := (.string (joinB acc.reverse (⟨#[47]⟩ : ByteArray)))) Try.results12 rfl ?_
   exact ⟨(by rw [pathOf_some hp ha (by omega) (place_conj (by assumption))]), H69.gr⟩

end Go.Proofs.Ytiknfldhommmpaa
namespace Go.Proofs.Ytiknfldhommmpaa
open Go
set_option maxRecDepth 100000
set_option linter.unusedVariables false
set_option linter.unusedSimpArgs false
set_option maxHeartbeats 1000000 in
theorem stamp_Right (s : Stamp) (w : World) :
    Calls Try.prog 35 #[(aggOf (stampCh s))] w (Ret fun v w' => v = (.bool (stRight s)) ∧ Ext w w') := by
 refine calls_W Try.func35 rfl Try.ntmps35 rfl ?_
 have H0 := Ctx.start w nob
 refine W_seq (W_reg ?_)
 refine O_v rfl (C_box H0 [[(.int .i64 s.T)], [(.int .i64 s.R)]] rfl ?_)
 intro b1 w2 hb3 hx4 H5
 refine O_v rfl (R_assign (v := (.bool false)) rfl ?_)
 refine O_nil (Then_n (W_seq ?_))
 refine W_rg [(0, .q false), (1, .q false), (2, .q false), (3, .q false), (4, .q false), (5, .q false), (6, .q false), (7, .q false), (8, .q false), (9, .q false), (10, .q false), (11, .q false), (12, .q false), (13, .q false), (14, .q false), (15, .q false), (16, .q false), (17, .q false), (18, .q false)] (by kernel_rfl) ?_
 refine Lx_q (i := 0) rfl rfl _ (fun v6 hv7 => R_fieldAddr (off := 0) (oo := 0) Try.underlying24 rfl rfl Try.sizeOf2 rfl rfl ⟨rfl, Gr.refl _ _⟩) ?_
 refine Lx_q (i := 1) rfl rfl _ (fun v8 hv9 => R_load1 (v := (.int .i64 s.T)) Try.isAgg2 rfl ((boxR_at ((H5.ext hv9).getOwn 0 rfl)).chunks 0 1 0 0 _ rfl rfl rfl) ⟨rfl, Gr.refl _ _⟩) ?_
 refine Lx_q (i := 2) rfl rfl _ (fun v10 hv11 => R_cmp (a := s.T) (b := 1) (r := (decide (1 ≤ s.T))) rfl rfl rfl ⟨rfl, Gr.refl _ _⟩) ?_
 refine Lx_q (i := 3) rfl rfl _ (fun v12 hv13 => R_move (v := (.bool (decide (1 ≤ s.T)))) rfl ⟨rfl, Gr.refl _ _⟩) ?_
 refine Lx_qg (i := 4) true (decide (1 ≤ s.T)) rfl rfl rfl rfl rfl (decide (1 ≤ s.T)) ga_t _ (fun hA v14 hv15 => R_fieldAddr (off := 0) (oo := 0) Try.underlying24 rfl rfl Try.sizeOf2 rfl rfl ⟨rfl, Gr.refl _ _⟩) ?_
 refine Lx_qg (i := 5) true (decide (1 ≤ s.T)) rfl rfl rfl rfl rfl (decide (1 ≤ s.T)) ga_t _ (fun hA v16 hv17 => R_load1 (v := (.int .i64 s.T)) Try.isAgg2 (gv_t hA) ((boxR_at ((H5.ext hv17).getOwn 0 rfl)).chunks 0 1 0 0 _ rfl rfl rfl) ⟨rfl, Gr.refl _ _⟩) ?_
 refine Lx_qg (i := 6) true (decide (1 ≤ s.T)) rfl rfl rfl rfl rfl (decide (1 ≤ s.T)) ga_t _ (fun hA v18 hv19 => R_cmp (a := s.T) (b := 1099511627776) (r := (decide (s.T ≤ 1099511627776))) (gv_t hA) rfl rfl ⟨rfl, Gr.refl _ _⟩) ?_
 refine Lx_q (i := 7) rfl rfl _ (fun v20 hv21 => R_pick (t := (decide (1 ≤ s.T))) (v := (.bool ((decide (1 ≤ s.T)) && (decide (s.T ≤ 1099511627776))))) rfl pk_and ⟨rfl, Gr.refl _ _⟩) ?_
 refine Lx_q (i := 8) rfl rfl _ (fun v22 hv23 => R_move (v := (.bool ((decide (1 ≤ s.T)) && (decide (s.T ≤ 1099511627776))))) rfl ⟨rfl, Gr.refl _ _⟩) ?_
 refine Lx_qg (i := 9) true ((decide (1 ≤ s.T)) && (decide (s.T ≤ 1099511627776))) rfl rfl rfl rfl rfl ((decide (1 ≤ s.T)) && (decide (s.T ≤ 1099511627776))) ga_t _ (fun hA v24 hv25 => R_fieldAddr (off := 1) (oo := 1) Try.underlying24 rfl rfl Try.sizeOf3 rfl rfl ⟨rfl, Gr.refl _ _⟩) ?_
 refine Lx_qg (i := 10) true ((decide (1 ≤ s.T)) && (decide (s.T ≤ 1099511627776))) rfl rfl rfl rfl rfl ((decide (1 ≤ s.T)) && (decide (s.T ≤ 1099511627776))) ga_t _ (fun hA v26 hv27 => R_load1 (v := (.int .i64 s.R)) Try.isAgg3 (gv_t hA) ((boxR_at ((H5.ext hv27).getOwn 0 rfl)).chunks 1 1 1 1 _ rfl rfl rfl) ⟨rfl, Gr.refl _ _⟩) ?_
 refine Lx_qg (i := 11) true ((decide (1 ≤ s.T)) && (decide (s.T ≤ 1099511627776))) rfl rfl rfl rfl rfl ((decide (1 ≤ s.T)) && (decide (s.T ≤ 1099511627776))) ga_t _ (fun hA v28 hv29 => R_cmp (a := s.R) (b := 1) (r := (decide (1 ≤ s.R))) (gv_t hA) rfl rfl ⟨rfl, Gr.refl _ _⟩) ?_
 refine Lx_q (i := 12) rfl rfl _ (fun v30 hv31 => R_pick (t := ((decide (1 ≤ s.T)) && (decide (s.T ≤ 1099511627776)))) (v := (.bool (((decide (1 ≤ s.T)) && (decide (s.T ≤ 1099511627776))) && (decide (1 ≤ s.R))))) rfl pk_and ⟨rfl, Gr.refl _ _⟩) ?_
 refine Lx_q (i := 13) rfl rfl _ (fun v32 hv33 => R_move (v := (.bool (((decide (1 ≤ s.T)) && (decide (s.T ≤ 1099511627776))) && (decide (1 ≤ s.R))))) rfl ⟨rfl, Gr.refl _ _⟩) ?_
 refine Lx_qg (i := 14) true (((decide (1 ≤ s.T)) && (decide (s.T ≤ 1099511627776))) && (decide (1 ≤ s.R))) rfl rfl rfl rfl rfl (((decide (1 ≤ s.T)) && (decide (s.T ≤ 1099511627776))) && (decide (1 ≤ s.R))) ga_t _ (fun hA v34 hv35 => R_fieldAddr (off := 1) (oo := 1) Try.underlying24 rfl rfl Try.sizeOf3 rfl rfl ⟨rfl, Gr.refl _ _⟩) ?_
 refine Lx_qg (i := 15) true (((decide (1 ≤ s.T)) && (decide (s.T ≤ 1099511627776))) && (decide (1 ≤ s.R))) rfl rfl rfl rfl rfl (((decide (1 ≤ s.T)) && (decide (s.T ≤ 1099511627776))) && (decide (1 ≤ s.R))) ga_t _ (fun hA v36 hv37 => R_load1 (v := (.int .i64 s.R)) Try.isAgg3 (gv_t hA) ((boxR_at ((H5.ext hv37).getOwn 0 rfl)).chunks 1 1 1 1 _ rfl rfl rfl) ⟨rfl, Gr.refl _ _⟩) ?_
 refine Lx_qg (i := 16) true (((decide (1 ≤ s.T)) && (decide (s.T ≤ 1099511627776))) && (decide (1 ≤ s.R))) rfl rfl rfl rfl rfl (((decide (1 ≤ s.T)) && (decide (s.T ≤ 1099511627776))) && (decide (1 ≤ s.R))) ga_t _ (fun hA v38 hv39 => R_cmp (a := s.R) (b := 65536) (r := (decide (s.R ≤ 65536))) (gv_t hA) rfl rfl ⟨rfl, Gr.refl _ _⟩) ?_
 refine Lx_q (i := 17) rfl rfl _ (fun v40 hv41 => R_pick (t := (((decide (1 ≤ s.T)) && (decide (s.T ≤ 1099511627776))) && (decide (1 ≤ s.R)))) (v := (.bool ((((decide (1 ≤ s.T)) && (decide (s.T ≤ 1099511627776))) && (decide (1 ≤ s.R))) && (decide (s.R ≤ 65536))))) rfl pk_and ⟨rfl, Gr.refl _ _⟩) ?_
 refine Lx_q (i := 18) rfl rfl _ (fun v42 hv43 => R_assign (v := (.bool ((((decide (1 ≤ s.T)) && (decide (s.T ≤ 1099511627776))) && (decide (1 ≤ s.R))) && (decide (s.R ≤ 65536))))) rfl ⟨rfl, Gr.refl _ _⟩) ?_
 refine Lx_nil (fun w44 hw45 => ?_)
 have H46 := H5.ext hw45
 refine Then_n (W_ret ?_)
 refine ret_1 (v := (.bool ((((decide (1 ≤ s.T)) && (decide (s.T ≤ 1099511627776))) && (decide (1 ≤ s.R))) && (decide (s.R ≤ 65536))))) Try.results35 rfl ?_
 exact ⟨(boolE (by simp only [stRight, Bool.and_eq_true, Bool.or_eq_true, Bool.not_eq_true, decide_eq_true_eq]; omega)), H46.gr⟩

end Go.Proofs.Ytiknfldhommmpaa
namespace Go.Proofs.Ytiknfldhommmpaa
open Go
set_option maxRecDepth 100000
set_option linter.unusedVariables false
set_option linter.unusedSimpArgs false
set_option maxHeartbeats 1000000 in
theorem isNaN_i64 (x : Int) (w : World) :
    Calls Try.prog 72 #[(.int .i64 x)] w (Ret fun v w' => v = (.bool false) ∧ Ext w w') := by
 refine calls_W Try.func72 rfl Try.ntmps72 rfl ?_
 have H0 := Ctx.start w nob
 refine W_seq (W_reg ?_)
 refine O_v rfl (R_assign (v := (.bool false)) rfl ?_)
 refine O_nil (Then_n (W_seq (W_reg ?_)))
 refine O_v rfl (R_move (v := (.int .i64 x)) rfl ?_)
 refine O_v rfl (R_move (v := (.int .i64 x)) rfl ?_)
 refine O_v rfl (R_cmp (a := x) (b := x) (r := (!(decide (x = x)))) rfl rfl rfl ?_)
 refine O_v rfl (R_assign (v := (.bool (!(decide (x = x))))) rfl ?_)
 refine O_nil (Then_n (W_ret ?_))
 refine ret_1 (v := (.bool (!(decide (x = x))))) Try.results72 rfl ?_
 exact ⟨(by simp), H0.gr⟩

end Go.Proofs.Ytiknfldhommmpaa
namespace Go.Proofs.Ytiknfldhommmpaa
open Go
set_option maxRecDepth 100000
set_option linter.unusedVariables false
set_option linter.unusedSimpArgs false
theorem Compare_i64_c72 : callable Try.prog 72 = true := by kernel_rfl
set_option maxHeartbeats 1000000 in
theorem Compare_i64 (x : Int) (y : Int) (w : World) :
    Calls Try.prog 61 #[(.int .i64 x), (.int .i64 y)] w (Ret fun v w' => v = (.int .i64 (cmpInt x y)) ∧ Ext w w') := by
 refine calls_W Try.func61 rfl Try.ntmps61 rfl ?_
 have H0 := Ctx.start w nob
 refine W_seq (W_reg ?_)
 refine O_v rfl (R_assign (v := (.int .i64 0)) rfl ?_)
 refine O_nil (Then_n (W_seq (W_reg ?_)))
 refine O_v rfl (R_move (v := (.int .i64 x)) rfl ?_)
 refine O_v rfl (R_callL (vs := [(.int .i64 x)]) Compare_i64_c72 rfl rfl ((isNaN_i64 x w ).ret ?_))
 rintro _ w1 ⟨rfl, hx2⟩
 have H3 := H0.ext hx2
 refine O_v rfl (R_assign (v := (.bool false)) rfl ?_)
 refine O_nil (Then_n (W_seq (W_reg ?_)))
 refine O_v rfl (R_move (v := (.int .i64 y)) rfl ?_)
 refine O_v rfl (R_callL (vs := [(.int .i64 y)]) Compare_i64_c72 rfl rfl ((isNaN_i64 y w1 ).ret ?_))
 rintro _ w4 ⟨rfl, hx5⟩
 have H6 := H3.ext hx5
 refine O_v rfl (R_assign (v := (.bool false)) rfl ?_)
 refine O_nil (Then_n (W_seq (W_seq (W_reg ?_))))
 refine O_v rfl (R_move (v := (.bool false)) rfl ?_)
 refine O_nil (Then_n ?_)
 refine W_cond_f rfl ?_
 refine W_skip (Then_n (W_seq (W_seq (W_reg ?_))))
 refine O_v rfl (R_move (v := (.bool false)) rfl ?_)
 refine O_nil (Then_n ?_)
 refine W_cond_f rfl ?_
 refine W_skip (Then_n (W_seq (W_seq (W_reg ?_))))
 refine O_v rfl (R_move (v := (.int .i64 x)) rfl ?_)
 refine O_v rfl (R_move (v := (.int .i64 y)) rfl ?_)
 refine O_v rfl (R_cmp (a := x) (b := y) (r := (decide (x < y))) rfl rfl rfl ?_)
 refine O_nil (Then_n ?_)
 refine W_cond (t := (decide (x < y))) rfl (fun hc7 => ?_) (fun hc7 => ?_)
 ·have hc7 : (x < y) := (of_decide_eq_true hc7)
  refine W_seq (W_reg ?_)
  refine O_v rfl (R_assign (v := (.int .i64 (-1))) rfl ?_)
  refine O_nil (Then_n (W_ret (Then_r ?_)))
  refine ret_1 (v := (.int .i64 (-1))) Try.results61 rfl ?_
  exact ⟨(by rw [cmpInt_lt (by assumption)]), H6.gr⟩
 ·have hc7 : ¬ (x < y) := (of_decide_eq_false hc7)
  refine W_skip (Then_n (W_seq (W_seq (W_reg ?_))))
  refine O_v rfl (R_move (v := (.int .i64 x)) rfl ?_)
  refine O_v rfl (R_move (v := (.int .i64 y)) rfl ?_)
  refine O_v rfl (R_cmp (a := x) (b := y) (r := (decide (y < x))) rfl rfl rfl ?_)
  refine O_nil (Then_n ?_)
  refine W_cond (t := (decide (y < x))) rfl (fun hc8 => ?_) (fun hc8 => ?_)
  ·have hc8 : (y < x) := (of_decide_eq_true hc8)
   refine W_seq (W_reg ?_)
   refine O_v rfl (R_assign (v := (.int .i64 1)) rfl ?_)
   refine O_nil (Then_n (W_ret (Then_r ?_)))
   refine ret_1 (v := (.int .i64 1)) Try.results61 rfl ?_
   exact ⟨(by rw [cmpInt_gt (by assumption) (by assumption)]), H6.gr⟩
  ·have hc8 : ¬ (y < x) := (of_decide_eq_false hc8)
   refine W_skip (Then_n (W_seq (W_reg ?_)))
   refine O_v rfl (R_assign (v := (.int .i64 0)) rfl ?_)
   refine O_nil (Then_n (W_ret ?_))
   refine ret_1 (v := (.int .i64 0)) Try.results61 rfl ?_
   exact ⟨(by rw [cmpInt_eq (by assumption) (by assumption)]), H6.gr⟩

end Go.Proofs.Ytiknfldhommmpaa
namespace Go.Proofs.Ytiknfldhommmpaa
open Go
set_option maxRecDepth 100000
set_option linter.unusedVariables false
set_option linter.unusedSimpArgs false
set_option maxHeartbeats 1000000 in
theorem isNaN_int (x : Int) (w : World) :
    Calls Try.prog 63 #[(.int .i64 x)] w (Ret fun v w' => v = (.bool false) ∧ Ext w w') := by
 refine calls_W Try.func63 rfl Try.ntmps63 rfl ?_
 have H0 := Ctx.start w nob
 refine W_seq (W_reg ?_)
 refine O_v rfl (R_assign (v := (.bool false)) rfl ?_)
 refine O_nil (Then_n (W_seq (W_reg ?_)))
 refine O_v rfl (R_move (v := (.int .i64 x)) rfl ?_)
 refine O_v rfl (R_move (v := (.int .i64 x)) rfl ?_)
 refine O_v rfl (R_cmp (a := x) (b := x) (r := (!(decide (x = x)))) rfl rfl rfl ?_)
 refine O_v rfl (R_assign (v := (.bool (!(decide (x = x))))) rfl ?_)
 refine O_nil (Then_n (W_ret ?_))
 refine ret_1 (v := (.bool (!(decide (x = x))))) Try.results63 rfl ?_
 exact ⟨(by simp), H0.gr⟩

end Go.Proofs.Ytiknfldhommmpaa
namespace Go.Proofs.Ytiknfldhommmpaa
open Go
set_option maxRecDepth 100000
set_option linter.unusedVariables false
set_option linter.unusedSimpArgs false
theorem Compare_int_c63 : callable Try.prog 63 = true := by kernel_rfl
set_option maxHeartbeats 1000000 in
theorem Compare_int (x : Int) (y : Int) (w : World) :
    Calls Try.prog 51 #[(.int .i64 x), (.int .i64 y)] w (Ret fun v w' => v = (.int .i64 (cmpInt x y)) ∧ Ext w w') := by
 refine calls_W Try.func51 rfl Try.ntmps51 rfl ?_
 have H0 := Ctx.start w nob
 refine W_seq (W_reg ?_)
 refine O_v rfl (R_assign (v := (.int .i64 0)) rfl ?_)
 refine O_nil (Then_n (W_seq (W_reg ?_)))
 refine O_v rfl (R_move (v := (.int .i64 x)) rfl ?_)
 refine O_v rfl (R_callL (vs := [(.int .i64 x)]) Compare_int_c63 rfl rfl ((isNaN_int x w ).ret ?_))
 rintro _ w1 ⟨rfl, hx2⟩
 have H3 := H0.ext hx2
 refine O_v rfl (R_assign (v := (.bool false)) rfl ?_)
 refine O_nil (Then_n (W_seq (W_reg ?_)))
 refine O_v rfl (R_move (v := (.int .i64 y)) rfl ?_)
 refine O_v rfl (R_callL (vs := [(.int .i64 y)]) Compare_int_c63 rfl rfl ((isNaN_int y w1 ).ret ?_))
 rintro _ w4 ⟨rfl, hx5⟩
 have H6 := H3.ext hx5
 refine O_v rfl (R_assign (v := (.bool false)) rfl ?_)
 refine O_nil (Then_n (W_seq (W_seq (W_reg ?_))))
 refine O_v rfl (R_move (v := (.bool false)) rfl ?_)
 refine O_nil (Then_n ?_)
 refine W_cond_f rfl ?_
 refine W_skip (Then_n (W_seq (W_seq (W_reg ?_))))
 refine O_v rfl (R_move (v := (.bool false)) rfl ?_)
 refine O_nil (Then_n ?_)
 refine W_cond_f rfl ?_
 refine W_skip (Then_n (W_seq (W_seq (W_reg ?_))))
 refine O_v rfl (R_move (v := (.int .i64 x)) rfl ?_)
 refine O_v rfl (R_move (v := (.int .i64 y)) rfl ?_)
 refine O_v rfl (R_cmp (a := x) (b := y) (r := (decide (x < y))) rfl rfl rfl ?_)
 refine O_nil (Then_n ?_)
 refine W_cond (t := (decide (x < y))) rfl (fun hc7 => ?_) (fun hc7 => ?_)
 ·have hc7 : (x < y) := (of_decide_eq_true hc7)
  refine W_seq (W_reg ?_)
  refine O_v rfl (R_assign (v := (.int .i64 (-1))) rfl ?_)
  refine O_nil (Then_n (W_ret (Then_r ?_)))
  refine ret_1 (v := (.int .i64 (-1))) Try.results51 rfl ?_
  exact ⟨(by rw [cmpInt_lt (by assumption)]), H6.gr⟩
 ·have hc7 : ¬ (x < y) := (of_decide_eq_false hc7)
  refine W_skip (Then_n (W_seq (W_seq (W_reg ?_))))
  refine O_v rfl (R_move (v := (.int .i64 x)) rfl ?_)
  refine O_v rfl (R_move (v := (.int .i64 y)) rfl ?_)
  refine O_v rfl (R_cmp (a := x) (b := y) (r := (decide (y < x))) rfl rfl rfl ?_)
  refine O_nil (Then_n ?_)
  refine W_cond (t := (decide (y < x))) rfl (fun hc8 => ?_) (fun hc8 => ?_)
  ·have hc8 : (y < x) := (of_decide_eq_true hc8)
   refine W_seq (W_reg ?_)
   refine O_v rfl (R_assign (v := (.int .i64 1)) rfl ?_)
   refine O_nil (Then_n (W_ret (Then_r ?_)))
   refine ret_1 (v := (.int .i64 1)) Try.results51 rfl ?_
   exact ⟨(by rw [cmpInt_gt (by assumption) (by assumption)]), H6.gr⟩
  ·have hc8 : ¬ (y < x) := (of_decide_eq_false hc8)
   refine W_skip (Then_n (W_seq (W_reg ?_)))
   refine O_v rfl (R_assign (v := (.int .i64 0)) rfl ?_)
   refine O_nil (Then_n (W_ret ?_))
   refine ret_1 (v := (.int .i64 0)) Try.results51 rfl ?_
   exact ⟨(by rw [cmpInt_eq (by assumption) (by assumption)]), H6.gr⟩

end Go.Proofs.Ytiknfldhommmpaa
namespace Go.Proofs.Ytiknfldhommmpaa
open Go
set_option maxRecDepth 100000
set_option linter.unusedVariables false
set_option linter.unusedSimpArgs false
set_option maxHeartbeats 1000000 in
theorem cmp_Or (hvals : SlH) (vals : List Int) (w : World) (Svals : Sl (Old w) encI 1 hvals vals w) :
    Calls Try.prog 60 #[(slV hvals vals)] w (Ret fun v w' => v = (.int .i64 (orInt vals)) ∧ Ext w w') := by
 refine calls_W Try.func60 rfl Try.ntmps60 rfl ?_
 have H0 := Ctx.start w nob
 have H1 := H0.addSl _ Svals (fun b hb => ⟨hb, fun _ ho => (nomatch ho)⟩)
 have LSvals := Svals.len
 refine W_seq (W_reg ?_)
 refine O_v rfl (R_assign (v := (.int .i64 0)) rfl ?_)
 refine O_nil (Then_n (W_seq (W_reg ?_)))
 refine O_v rfl (R_assign (v := (.int .i64 0)) rfl ?_)
 refine O_nil (Then_n (W_seq (W_seq (W_reg ?_))))
 refine O_v rfl (R_move (v := (slV hvals vals)) rfl ?_)
 refine O_v rfl (R_len_slice (a := hvals.a) (n := vals.length) (c := hvals.c) Try.underlying112 rfl ?_)
 refine O_v rfl (R_move (v := (.int .i64 0)) rfl ?_)
 refine O_nil (Then_n (W_block ?_))
 refine W_loop (fun m2 e3 w4 => ∃ (k : Nat), m2 = vals.length - k ∧ (k ≤ vals.length) ∧ (∀ i, i < k → nth vals i = 0) ∧ ∃ eb5, e3 = envL [(3, (.int .i64 0)), (6, (slV hvals vals)), (7, (.int .i64 ((vals.length : Nat) : Int))), (8, (.int .i64 ((k : Nat) : Int)))] eb5 ∧ Ctx w nob w4 [] [slI (Old w) encI 1 hvals vals]) _ ⟨0, rfl, (by omega), (all_zero _), _, envL_self ⟨rfl, rfl, rfl, rfl, trivial⟩, H1⟩ ?_
 rintro m2 _ w4 ⟨k, rfl, hk, hn, eb5, rfl, H6⟩
 refine W_seq (W_reg ?_)
 refine O_v rfl (R_cmp (a := ((k : Nat) : Int)) (b := ((vals.length : Nat) : Int)) (r := (decide (((k : Nat) : Int) < ((vals.length : Nat) : Int)))) rfl rfl rfl ?_)
 refine O_nil (Then_n (W_seq ?_))
 refine W_cond (t := (decide (((k : Nat) : Int) < ((vals.length : Nat) : Int)))) rfl (fun hc7 => ?_) (fun hc7 => ?_)
 ·have hc7 : (((k : Nat) : Int) < ((vals.length : Nat) : Int)) := (of_decide_eq_true hc7)
  refine W_skip (Then_n (W_seq (W_block (W_seq (W_reg ?_)))))
  refine O_v rfl (R_index_pure (H6.sl 0 rfl) (n := vals.length) rfl (j := ((k : Nat) : Int)) (oo := (hvals.o + k * 1)) Try.underlying112 Try.sizeOf3 rfl rfl (by omega) (by omega) rfl ?_)
  refine O_v rfl (R_load1 (v := (.int .i64 (nth vals k))) Try.isAgg3 rfl ((Sl.elem (H6.sl 0 rfl) (i := k) (by omega) rfl).chunks 0 1 0 (hvals.o + k * 1) _ rfl rfl rfl) ?_)
  refine O_v rfl (R_assign (v := (.int .i64 (nth vals k))) rfl ?_)
  refine O_nil (Then_n (W_seq (W_reg ?_)))
  refine O_v rfl (R_move (v := (.int .i64 (nth vals k))) rfl ?_)
  refine O_v rfl (R_move (v := (.int .i64 0)) rfl ?_)
  refine O_v rfl (R_cmp (a := (nth vals k)) (b := 0) (r := (!(decide ((nth vals k) = 0)))) rfl rfl rfl ?_)
  refine O_nil (Then_n ?_)
  refine W_cond (t := (!(decide ((nth vals k) = 0)))) rfl (fun hc8 => ?_) (fun hc8 => ?_)
  ·have hc8 : ¬ ((nth vals k) = 0) := (of_decide_eq_false (notT hc8))
   refine W_seq (W_reg ?_)
   refine O_v rfl (R_move (v := (.int .i64 (nth vals k))) rfl ?_)
   refine O_v rfl (R_assign (v := (.int .i64 (nth vals k))) rfl ?_)
   refine O_nil (Then_n (W_ret (Blk_r (Then_r (Then_r (Blk_r (Then_r ?_)))))))
   refine ret_1 (v := (.int .i64 (nth vals k))) Try.results60 rfl ?_
   exact ⟨(by rw [orInt_at hn (by omega) (by assumption)]), H6.gr⟩
  ·have hc8 : ((nth vals k) = 0) := (of_decide_eq_true (notF hc8))
   refine W_skip (Blk_n (Then_n (W_reg ?_)))
   refine O_v rfl (R_arith (a := ((k : Nat) : Int)) (b := 1) (r0 := ((k : Nat) : Int) + 1) (r := ((k + 1 : Nat) : Int)) rfl rfl rfl (wrapN _ (by omega)) ?_)
   refine O_v rfl (R_move (v := (.int .i64 ((k + 1 : Nat) : Int))) rfl ?_)
   refine O_nil (Then_n ?_)
   refine ⟨_, ?_, (k + 1), rfl, (by omega), (all_succ hn (by assumption)), _, envL_self ⟨rfl, rfl, rfl, rfl, trivial⟩, H6⟩
   omega
 ·have hc7 : ¬ (((k : Nat) : Int) < ((vals.length : Nat) : Int)) := (of_decide_eq_false hc7)
  refine W_exit (Then_x (Then_x (Blk_x (Then_n (W_seq (W_reg ?_))))))
  refine O_v rfl (R_move (v := (.int .i64 0)) rfl ?_)
  refine O_v rfl (R_assign (v := (.int .i64 0)) rfl ?_)
  refine O_nil (Then_n (W_ret ?_))
  refine ret_1 (v := (.int .i64 0)) Try.results60 rfl ?_
  exact ⟨(by rw [orInt_none (by rwa [show vals.length = k from by omega])]), H6.gr⟩

end Go.Proofs.Ytiknfldhommmpaa
namespace Go.Proofs.Ytiknfldhommmpaa
open Go
set_option maxRecDepth 100000
set_option linter.unusedVariables false
set_option linter.unusedSimpArgs false
theorem stamp_Cmp_c51 : callable Try.prog 51 = true := by kernel_rfl
theorem stamp_Cmp_c60 : callable Try.prog 60 = true := by kernel_rfl
theorem stamp_Cmp_c61 : callable Try.prog 61 = true := by kernel_rfl
set_option maxHeartbeats 1000000 in
theorem stamp_Cmp (a : Stamp) (b : Stamp) (w : World) :
    Calls Try.prog 47 #[(aggOf (stampCh a)), (aggOf (stampCh b))] w (Ret fun v w' => v = (.int .i64 (cmpSt a b)) ∧ Ext w w') := by
 refine calls_W Try.func47 rfl Try.ntmps47 rfl ?_
 have H0 := Ctx.start w nob
 refine W_seq (W_reg ?_)
 refine O_v rfl (C_box H0 [[(.int .i64 a.T)], [(.int .i64 a.R)]] rfl ?_)
 intro b1 w2 hb3 hx4 H5
 refine O_v rfl (C_box H5 [[(.int .i64 b.T)], [(.int .i64 b.R)]] rfl ?_)
 intro b6 w7 hb8 hx9 H10
 refine O_v rfl (R_assign (v := (.int .i64 0)) rfl ?_)
 refine O_nil (Then_n (W_seq ?_))
 refine W_rgd TryMixed [(0, .q false), (1, .q false), (2, .q false), (3, .q false), (4, .q false), (5, .q false), (6, .q false), (7, .q false), (8, .q false), (9, .q false), (10, .c false), (11, .q false), (12, .q false)] (by kernel_rfl) ?_
 refine Lx_q (i := 0) rfl rfl _ (fun v11 hv12 => R_fieldAddr (off := 0) (oo := 0) Try.underlying24 rfl rfl Try.sizeOf2 rfl rfl ⟨rfl, Gr.refl _ _⟩) ?_
 refine Lx_q (i := 1) rfl rfl _ (fun v13 hv14 => R_load1 (v := (.int .i64 a.T)) Try.isAgg2 rfl ((boxR_at ((H10.ext hv14).getOwn 1 rfl)).chunks 0 1 0 0 _ rfl rfl rfl) ⟨rfl, Gr.refl _ _⟩) ?_
 refine Lx_q (i := 2) rfl rfl _ (fun v15 hv16 => R_fieldAddr (off := 0) (oo := 0) Try.underlying24 rfl rfl Try.sizeOf2 rfl rfl ⟨rfl, Gr.refl _ _⟩) ?_
 refine Lx_q (i := 3) rfl rfl _ (fun v17 hv18 => R_load1 (v := (.int .i64 b.T)) Try.isAgg2 rfl ((boxR_at ((H10.ext hv18).getOwn 0 rfl)).chunks 0 1 0 0 _ rfl rfl rfl) ⟨rfl, Gr.refl _ _⟩) ?_
 refine Lx_q (i := 4) rfl rfl (.int .i64 (cmpInt a.T b.T)) (fun v19 hv20 => R_callL (vs := [(.int .i64 a.T), (.int .i64 b.T)]) stamp_Cmp_c61 rfl rfl (Compare_i64 a.T b.T v19 )) ?_
 refine Lx_q (i := 5) rfl rfl _ (fun v21 hv22 => R_fieldAddr (off := 1) (oo := 1) Try.underlying24 rfl rfl Try.sizeOf3 rfl rfl ⟨rfl, Gr.refl _ _⟩) ?_
 refine Lx_q (i := 6) rfl rfl _ (fun v23 hv24 => R_load1 (v := (.int .i64 a.R)) Try.isAgg3 rfl ((boxR_at ((H10.ext hv24).getOwn 1 rfl)).chunks 1 1 1 1 _ rfl rfl rfl) ⟨rfl, Gr.refl _ _⟩) ?_
 refine Lx_q (i := 7) rfl rfl _ (fun v25 hv26 => R_fieldAddr (off := 1) (oo := 1) Try.underlying24 rfl rfl Try.sizeOf3 rfl rfl ⟨rfl, Gr.refl _ _⟩) ?_
 refine Lx_q (i := 8) rfl rfl _ (fun v27 hv28 => R_load1 (v := (.int .i64 b.R)) Try.isAgg3 rfl ((boxR_at ((H10.ext hv28).getOwn 0 rfl)).chunks 1 1 1 1 _ rfl rfl rfl) ⟨rfl, Gr.refl _ _⟩) ?_
 refine Lx_q (i := 9) rfl rfl (.int .i64 (cmpInt a.R b.R)) (fun v29 hv30 => R_callL (vs := [(.int .i64 a.R), (.int .i64 b.R)]) stamp_Cmp_c51 rfl rfl (Compare_int a.R b.R v29 )) ?_
 refine Lx_c (i := 10) rfl rfl (fun w31 hw32 => ?_)
 have H33 := H10.ext hw32
 refine (C_buildSliceL H33 (enc := encI) (val := intV) ([cmpInt a.T b.T, cmpInt a.R b.R] : List Int) Try.underlying112 Try.sizeOf3 Try.zeroValue3 rfl (by decide) (fun _ => rfl) (fun _ => rfl) rfl rfl (by decide) ?_)
 intro b34 w35 hb36 hx37 H38
 refine ⟨GrF.ofExt hx37, ?_⟩
 refine Lx_q (i := 11) rfl rfl (.int .i64 (orInt ([cmpInt a.T b.T, cmpInt a.R b.R] : List Int))) (fun v39 hv40 => R_callL (vs := [(slV ⟨some ⟨b34, 0, none⟩, b34, 0, 2⟩ ([cmpInt a.T b.T, cmpInt a.R b.R] : List Int))]) stamp_Cmp_c60 rfl rfl (cmp_Or ⟨some ⟨b34, 0, none⟩, b34, 0, 2⟩ ([cmpInt a.T b.T, cmpInt a.R b.R] : List Int) v39 ((H38.ext hv40).rowSl 0 rfl (fun _ => rfl)))) ?_
 refine Lx_q (i := 12) rfl rfl _ (fun v41 hv42 => R_assign (v := (.int .i64 (orInt ([cmpInt a.T b.T, cmpInt a.R b.R] : List Int)))) rfl ⟨rfl, Gr.refl _ _⟩) ?_
 refine Lx_nil (fun w43 hw44 => ?_)
 have H45 := H38.ext hw44
 refine Then_n (W_ret ?_)
 refine ret_1 (v := (.int .i64 (orInt ([cmpInt a.T b.T, cmpInt a.R b.R] : List Int)))) Try.results47 rfl ?_
 exact ⟨(by rw [← orInt_cmp]), H45.gr⟩

end Go.Proofs.Ytiknfldhommmpaa
/- The plain side: numbers, texts and objects as bytes. -/
namespace Go.Proofs.Ytiknfldhommmpaa
open Go
set_option linter.unusedVariables false
set_option linter.unusedSimpArgs false
set_option linter.unusedSectionVars false
def numGo (u : Nat) : List UInt8 := if h : 127 < u then (UInt8.ofNat u ||| 128) :: numGo (u / 128) else [UInt8.ofNat u]
termination_by u
decreasing_by omega
def numClamp (n : Int) : Nat := (min (max n 0) 4611686018427387904).toNat
def numB (n : Int) : List UInt8 := numGo (numClamp n)
theorem numClamp_le (n : Int) : numClamp n ≤ 4611686018427387904 := by unfold numClamp; omega
theorem numGo_big {u : Nat} (h : 127 < u) : numGo u = (UInt8.ofNat u ||| 128) :: numGo (u / 128) := by rw [numGo]; rw [dif_pos h]
theorem numGo_small {u : Nat} (h : ¬ 127 < u) : numGo u = [UInt8.ofNat u] := by rw [numGo]; rw [dif_neg h]
theorem numGo_len : ∀ (k u : Nat), u < 128 ^ (k + 1) → 1 ≤ (numGo u).length ∧ (numGo u).length ≤ k + 1
  | 0, u, h => by rw [numGo_small (by omega)]; simp
  | k + 1, u, h => by
    by_cases hu : 127 < u
    · rw [numGo_big hu]
      have := numGo_len k (u / 128) (by rw [Nat.pow_succ] at h; exact Nat.div_lt_of_lt_mul (by omega))
      simp only [List.length_cons]; omega
    · rw [numGo_small hu]; simp
theorem numB_len (n : Int) : 1 ≤ (numB n).length ∧ (numB n).length ≤ 9 := by
  have h := numClamp_le n
  have e : 128 ^ (8 + 1) = 9223372036854775808 := by decide
  exact numGo_len 8 _ (by rw [e]; omega)
theorem conv_clamp (n : Int) : IntKind.u64.wrap (min (max n 0) 4611686018427387904) = ((numClamp n : Nat) : Int) := by
  rw [u64_in _ (by omega)]; unfold numClamp; omega
theorem numGo_len1 (u : Nat) : 1 ≤ (numGo u).length := by
  by_cases h : 127 < u
  · rw [numGo_big h]; simp
  · rw [numGo_small h]; simp
theorem num_step {acc b : List UInt8} {u : Nat} {n : Int} (h : acc ++ numGo u = b ++ numB n) (hu : 127 < u) : (acc ++ [UInt8.ofNat u ||| 128]) ++ numGo (u / 128) = b ++ numB n := by
  rw [← h, numGo_big hu]; simp
theorem num_end {acc b : List UInt8} {u : Nat} {n : Int} (h : acc ++ numGo u = b ++ numB n) (hu : ¬ 127 < u) : acc ++ [UInt8.ofNat u] = b ++ numB n := by rw [← h, numGo_small hu]
theorem num_room {acc b : List UInt8} {u : Nat} {n : Int} (h : acc ++ numGo u = b ++ numB n) : acc.length + 1 ≤ b.length + 9 := by
  have h1 := congrArg List.length h
  have h2 := numB_len n
  have h3 := numGo_len1 u
  simp only [List.length_append] at h1
  omega
def atB (s : Stamp) : List UInt8 := numB s.T ++ numB s.R
def textB (s : ByteArray) : List UInt8 := numB s.size ++ s.data.toList
theorem atB_len (s : Stamp) : (atB s).length ≤ 18 := by
  have := numB_len s.T
  have := numB_len s.R
  simp only [atB, List.length_append]; omega
theorem textB_len (s : ByteArray) : (textB s).length ≤ 9 + s.size := by
  have := numB_len s.size
  have e : s.data.toList.length = s.size := by rw [Array.length_toList]; rfl
  simp only [textB, List.length_append, e]; omega
def asciiOr (s : ByteArray) : Prop := 8 < s.size ∨ ∀ j, j < s.size → (sbyte s j).toNat < 128
theorem size_data' (s : ByteArray) : s.data.toList.length = s.size := by rw [Array.length_toList]; rfl
theorem bad_ascii : ∀ (j : Nat) b, (⟨#[0, 47, 10]⟩ : ByteArray).data.toList[j]? = some b → b.toNat < 128 := by
  intro j b h
  match j with
  | 0 => simp at h; subst h; decide
  | 1 => simp at h; subst h; decide
  | 2 => simp at h; subst h; decide
  | n + 3 => simp at h
theorem containsAny_iff (l chars : List UInt8) : Lib.containsAny l chars = l.any fun b => chars.contains b := by
  unfold Lib.containsAny
  induction l with
  | nil => rfl
  | cons b l ih =>
    unfold Lib.indexAny
    simp only [List.any_cons]
    by_cases hb : chars.contains b = true
    · simp only [hb, if_true, Bool.true_or]; rfl
    · have hb' : chars.contains b = false := by simpa using hb
      simp only [hb', Bool.false_eq_true, if_false, Bool.false_or]
      rw [← ih]
      by_cases hi : (Lib.indexAny l chars == -1) = true
      · rw [if_pos hi]
        have : Lib.indexAny l chars = -1 := by simpa using hi
        rw [this]
      · rw [if_neg hi]
        have h1 := Lib.indexAny_ge chars l
        have h2 : Lib.indexAny l chars ≠ -1 := by simpa using hi
        rw [decide_eq_decide]; omega
theorem nameOk_any {s : ByteArray} : Value.bool ((((decide ((1 : Int) ≤ ((s.size : Nat) : Int)) && decide (((s.size : Nat) : Int) ≤ 60)) && !decide (s = (⟨#[46]⟩ : ByteArray))) && !decide (s = (⟨#[46, 46]⟩ : ByteArray))) && !Lib.containsAny s.data.toList (⟨#[0, 47, 10]⟩ : ByteArray).data.toList) = Value.bool (nameOk s) := by
  have hc : Lib.containsAny s.data.toList (⟨#[0, 47, 10]⟩ : ByteArray).data.toList = false ↔ ∀ j, j < s.size → badByte (sbyte s j) = false := by
    rw [containsAny_iff, List.any_eq_false]
    constructor
    · intro h j hj
      have := h s[j] (by
        have e : s.data.toList[j]'(by rw [size_data' s]; exact hj) = s[j] := rfl
        rw [← e]; exact List.getElem_mem _)
      rw [sbyte_eq hj]
      simp only [badByte, List.contains_cons, List.contains_nil, Bool.or_false, Bool.not_eq_true, Bool.or_eq_false_iff, beq_eq_false_iff_ne, ne_eq, decide_eq_false_iff_not] at this ⊢
      exact ⟨⟨this.1, this.2.1⟩, this.2.2⟩
    · intro h b hb
      obtain ⟨j, hj, rfl⟩ := List.getElem_of_mem hb
      have hj' : j < s.size := by rw [← size_data' s]; exact hj
      have := h j hj'
      rw [sbyte_eq hj', show s[j] = s.data.toList[j] from rfl] at this
      simp only [badByte, List.contains_cons, List.contains_nil, Bool.or_false, Bool.not_eq_true, Bool.or_eq_false_iff, beq_eq_false_iff_ne, ne_eq, decide_eq_false_iff_not] at this ⊢
      exact ⟨this.1.1, this.1.2, this.2⟩
  refine boolE ?_
  simp only [Bool.and_eq_true, Bool.not_eq_true', decide_eq_false_iff_not, decide_eq_true_eq, hc]
  constructor
  · rintro ⟨⟨⟨⟨h1, h2⟩, h3⟩, h4⟩, h5⟩
    exact ⟨fun e => by rw [e] at h1; exact absurd h1 (by decide), by omega, h3, h4, h5⟩
  · rintro ⟨h1, h2, h3, h4, h5⟩
    refine ⟨⟨⟨⟨?_, by omega⟩, h3⟩, h4⟩, h5⟩
    rcases Nat.eq_zero_or_pos s.size with h0 | h0
    · exact absurd (ByteArray.size_eq_zero_iff.1 h0) h1
    · omega
def headB (h : Head) : List UInt8 := atB h.tm ++ idList h.data
def itemTo (x : ItemS) (j : Nat) : List UInt8 := (((((([] : List UInt8) ++ atB x.node) ++ atB x.tm) ++ textB x.name) ++ idList x.sub) ++ numB ((x.heads.length : Nat) : Int)) ++ ((x.heads.take j).map headB).flatten
def itemB (x : ItemS) : List UInt8 := itemTo x x.heads.length
def dirTo (items : List ItemS) (k : Nat) : List UInt8 := ([2] ++ numB ((items.length : Nat) : Int)) ++ ((items.take k).map itemB).flatten
def dirB (items : List ItemS) : List UInt8 := dirTo items items.length
def putDirB (items : List ItemS) : List UInt8 := if dirOk items = true then dirB items else []
def putDirE (items : List ItemS) : Int := if dirOk items = true then 0 else 1
theorem putDir_no {items : List ItemS} (h : dirOk items = false) : ([] : List UInt8) = putDirB items ∧ (1 : Int) = putDirE items := by
  unfold putDirB putDirE; rw [if_neg (by rw [h]; simp), if_neg (by rw [h]; simp)]; exact ⟨rfl, rfl⟩
theorem dirTo_zero (items : List ItemS) : ([2] : List UInt8) ++ numB ((items.length : Nat) : Int) = dirTo items 0 := by simp [dirTo]
theorem item_end {items : List ItemS} {acc acc2 : List UInt8} {k j : Nat} (ha : acc = dirTo items k) (h2 : acc2 = acc ++ itemTo (nth items k) j) (hk : k < items.length) (hj : j = (nth items k).heads.length) : acc2 = dirTo items (k + 1) := by
  subst ha hj
  rw [h2]
  unfold dirTo
  rw [List.take_succ_eq_append_getElem hk, List.map_append, List.flatten_append, nth_eq hk]
  simp [itemB, List.append_assoc]
theorem item_start (acc : List UInt8) (x : ItemS) : acc ++ ((((([] : List UInt8) ++ atB x.node) ++ atB x.tm) ++ textB x.name) ++ idList x.sub ++ numB ((x.heads.length : Nat) : Int)) = acc ++ itemTo x 0 := by simp [itemTo]
theorem head_step {acc acc2 : List UInt8} {x : ItemS} {j : Nat} (h : acc2 = acc ++ itemTo x j) (hj : j < x.heads.length) : acc2 ++ ((([] : List UInt8) ++ atB (nth x.heads j).tm) ++ idList (nth x.heads j).data) = acc ++ itemTo x (j + 1) := by
  rw [h]
  unfold itemTo
  rw [List.take_succ_eq_append_getElem hj, List.map_append, List.flatten_append, nth_eq hj]
  simp [headB, List.append_assoc]
theorem dir_end {items : List ItemS} {acc : List UInt8} {k : Nat} (ha : acc = dirTo items k) (hD : dirOk items = true) (hk : k = items.length) : acc = putDirB items ∧ (0 : Int) = putDirE items := by
  subst hk
  unfold putDirB putDirE
  rw [if_pos hD, if_pos hD]
  exact ⟨ha, rfl⟩
theorem dirOk_lens {items : List ItemS} {k : Nat} (h : dirOk items = true) (hk : k < items.length) : (nth items k).name.size ≤ 60 ∧ (nth items k).heads.length ≤ 1000 ∧ items.length ≤ 1000 := by
  have h1 := of_decide_eq_true h
  have h2 := of_decide_eq_true (h1.2 k hk).1
  have h3 := of_decide_eq_true h2.2.2.2.1
  exact ⟨h3.2.1, h2.2.2.2.2.1, h1.1⟩
def fixedSt (s : Stamp) : Bool := decide (s.T = 0 ∧ (s.R = 0 ∨ s.R = 1))
end Go.Proofs.Ytiknfldhommmpaa
/- The plain side of trees: parents' chains. -/
namespace Go.Proofs.Ytiknfldhommmpaa
open Go
set_option linter.unusedVariables false
set_option linter.unusedSimpArgs false
set_option linter.unusedSectionVars false
def rightRow (r : RowS) : Bool := itemOk r.node r.tm r.name r.heads && !decide (r.node = lastSt)
theorem putDirE_one (x : ItemS) : decide (putDirE [x] = 0) = itemOkS x := by
  unfold putDirE
  rw [dirOk_one]
  cases itemOkS x <;> simp
theorem rightRow_e {r : RowS} {x : ItemS} (h : itemOkS x = itemOk r.node r.tm r.name r.heads) : Value.bool (decide (putDirE [x] = 0) && !decide (r.node = lastSt)) = Value.bool (rightRow r) := by
  rw [putDirE_one, h]; rfl
/-- Up n parents. -/
def upN (kv : List (Stamp × Stamp)) : Nat → Stamp → Stamp
  | 0, s => s
  | n + 1, s => upN kv n ((kvGet kv s).getD ⟨0, 0⟩)
/-- The root or the trash lies n parents above; each one on the way is in the table. -/
def upOk (kv : List (Stamp × Stamp)) : Nat → Stamp → Prop
  | 0, s => fixedSt s = true
  | n + 1, s => fixedSt s = false ∧ (kvGet kv s).isSome = true ∧ upOk kv n ((kvGet kv s).getD ⟨0, 0⟩)
def reach (kv : List (Stamp × Stamp)) (s : Stamp) : Prop := ∃ n, upOk kv n s
theorem upOk_uniq {kv : List (Stamp × Stamp)} : ∀ {n m : Nat} {s : Stamp}, upOk kv n s → upOk kv m s → n = m
  | 0, 0, _, _, _ => rfl
  | 0, m + 1, s, h, k => by have := k.1; rw [show fixedSt s = true from h] at this; cases this
  | n + 1, 0, s, h, k => by have := h.1; rw [show fixedSt s = true from k] at this; cases this
  | n + 1, m + 1, s, h, k => by rw [upOk_uniq h.2.2 k.2.2]
theorem reach_fixed {kv : List (Stamp × Stamp)} {s : Stamp} (h : fixedSt s = true) : reach kv s := ⟨0, h⟩
theorem reach_step {kv : List (Stamp × Stamp)} {s : Stamp} (h : fixedSt s = false) (hk : (kvGet kv s).isSome = true) : reach kv s ↔ reach kv ((kvGet kv s).getD ⟨0, 0⟩) := by
  constructor
  · rintro ⟨n, hn⟩
    cases n with
    | zero => rw [show fixedSt s = true from hn] at h; cases h
    | succ n => exact ⟨n, hn.2.2⟩
  · rintro ⟨n, hn⟩
    exact ⟨n + 1, h, hk, hn⟩
theorem reach_not {kv : List (Stamp × Stamp)} {s : Stamp} (h : fixedSt s = false) (hk : (kvGet kv s).isSome = false) : ¬ reach kv s := by
  rintro ⟨n, hn⟩
  cases n with
  | zero => rw [show fixedSt s = true from hn] at h; cases h
  | succ n => rw [hn.2.1] at hk; cases hk
/-- The first j stamps of the way up from s are these. -/
def onWay (kv : List (Stamp × Stamp)) (s : Stamp) (way : List Stamp) (at_ : Stamp) : Prop :=
  at_ = upN kv way.length s ∧ ∀ i, i < way.length → nth way i = upN kv i s ∧ fixedSt (nth way i) = false ∧ (kvGet kv (nth way i)).isSome = true
theorem upN_succ (kv : List (Stamp × Stamp)) : ∀ (n : Nat) (s : Stamp), upN kv (n + 1) s = (kvGet kv (upN kv n s)).getD ⟨0, 0⟩
  | 0, s => rfl
  | n + 1, s => by
    show upN kv (n + 1) ((kvGet kv s).getD ⟨0, 0⟩) = _
    rw [upN_succ kv n]; rfl
theorem onWay_zero (kv : List (Stamp × Stamp)) (s : Stamp) : onWay kv s [] s := ⟨rfl, fun i hi => by simp at hi⟩
theorem nth_append_lt {α : Type} [Inhabited α] {l : List α} {x : α} {i : Nat} (h : i < l.length) : nth (l ++ [x]) i = nth l i := by
  unfold nth; simp [List.getD_eq_getElem?_getD, List.getElem?_append_left h]
theorem nth_append_last {α : Type} [Inhabited α] {l : List α} {x : α} : nth (l ++ [x]) l.length = x := by
  unfold nth; simp [List.getD_eq_getElem?_getD]
theorem onWay_succ {kv : List (Stamp × Stamp)} {s a : Stamp} {way : List Stamp} (h : onWay kv s way a) (hf : fixedSt a = false) (hk : (kvGet kv a).isSome = true) : onWay kv s (way ++ [a]) ((kvGet kv a).getD ⟨0, 0⟩) := by
  refine ⟨?_, fun i hi => ?_⟩
  · rw [List.length_append, List.length_singleton, upN_succ, ← h.1]
  · by_cases hl : i < way.length
    · rw [nth_append_lt hl]; exact h.2 i hl
    · have : i = way.length := by simp at hi; omega
      subst this
      rw [nth_append_last]
      exact ⟨h.1, hf, hk⟩
theorem onWay_reach {kv : List (Stamp × Stamp)} {s a : Stamp} {way : List Stamp} (h : onWay kv s way a) : ∀ i, i ≤ way.length → (reach kv (upN kv i s) ↔ reach kv a) := by
  have key : ∀ d i, i + d = way.length → (reach kv (upN kv i s) ↔ reach kv a) := by
    intro d
    induction d with
    | zero => intro i hi; rw [h.1, ← hi]; exact Iff.rfl
    | succ d ih =>
      intro i hi
      obtain ⟨h1, h2, h3⟩ := h.2 i (by omega)
      rw [h1] at h2 h3
      rw [reach_step h2 h3, ← upN_succ]
      exact ih (i + 1) (by omega)
  intro i hi
  exact key (way.length - i) i (by omega)
theorem pigeon {α : Type} [DecidableEq α] : ∀ {l k : List α}, l.Pairwise (· ≠ ·) → (∀ x ∈ l, x ∈ k) → l.length ≤ k.length
  | [], _, _, _ => Nat.zero_le _
  | x :: l, k, h, hs => by
    have h1 := List.pairwise_cons.1 h
    have h2 := pigeon (l := l) (k := k.erase x) h1.2 fun y hy => (List.mem_erase_of_ne (h1.1 y hy).symm).2 (hs y (List.mem_cons_of_mem _ hy))
    have h3 := hs x (by simp)
    have h4 := List.length_erase_of_mem h3
    have h5 := List.length_pos_of_mem h3
    simp only [List.length_cons]; omega
theorem way_long {kv : List (Stamp × Stamp)} {s a : Stamp} {way : List Stamp} (h : onWay kv s way a) (hl : kv.length < way.length) : ¬ reach kv s := by
  rintro ⟨n, hn⟩
  -- the way's stamps are unlike
  have hup : ∀ i, i ≤ way.length → ∃ m, upOk kv m (upN kv i s) ∧ m + i = n := by
    intro i
    induction i with
    | zero => intro _; exact ⟨n, hn, rfl⟩
    | succ i ih =>
      intro hi
      obtain ⟨m, hm, hmn⟩ := ih (by omega)
      obtain ⟨h1, h2, h3⟩ := h.2 i (by omega)
      rw [h1] at h2
      cases m with
      | zero => rw [show fixedSt (upN kv i s) = true from hm] at h2; cases h2
      | succ m => exact ⟨m, by rw [upN_succ]; exact hm.2.2, by omega⟩
  have hinj : ∀ i j, i < way.length → j < way.length → nth way i = nth way j → i = j := by
    intro i j hi hj e
    rw [(h.2 i hi).1, (h.2 j hj).1] at e
    obtain ⟨m, hm, h1⟩ := hup i (by omega)
    obtain ⟨m', hm', h2⟩ := hup j (by omega)
    rw [e] at hm
    have := upOk_uniq hm hm'
    omega
  have hnd : way.Pairwise (· ≠ ·) := by
    rw [List.pairwise_iff_getElem]
    intro x y hx hy hxy e
    have := hinj x y hx hy (by rw [nth_eq hx, nth_eq hy]; exact e)
    omega
  have hsub : ∀ x ∈ way, x ∈ kv.map (·.1) := by
    intro x hx
    obtain ⟨i, hi, rfl⟩ := List.getElem_of_mem hx
    have := (h.2 i hi).2.2
    rw [nth_eq hi] at this
    obtain ⟨v, hv⟩ := Option.isSome_iff_exists.1 this
    exact List.mem_map.2 ⟨_, kvGet_mem hv, rfl⟩
  have := pigeon hnd hsub
  simp at this
  omega
def parentsTo (rows : List RowS) (k : Nat) : List (Stamp × Stamp) := (rows.take k).foldl (fun kv r => kvPut r.node r.par kv) []
theorem parentsTo_succ {rows : List RowS} {k : Nat} (h : k < rows.length) : kvPut (nth rows k).node (nth rows k).par (parentsTo rows k) = parentsTo rows (k + 1) := by
  unfold parentsTo
  rw [List.take_succ_eq_append_getElem h, List.foldl_append, nth_eq h]; rfl
theorem parentsTo_len (rows : List RowS) : ∀ k, (parentsTo rows k).length ≤ k ∧ (parentsTo rows k).length ≤ rows.length := by
  intro k
  have key : ∀ (l : List RowS) (kv : List (Stamp × Stamp)), (l.foldl (fun kv r => kvPut r.node r.par kv) kv).length ≤ kv.length + l.length := by
    intro l
    induction l with
    | nil => intro kv; simp
    | cons x l ih =>
      intro kv
      have h1 := ih (kvPut x.node x.par kv)
      have h2 := kvPut_len x.node x.par kv
      simp only [List.foldl_cons, List.length_cons]
      omega
  have := key (rows.take k) []
  simp only [List.length_take, List.length_nil] at this
  unfold parentsTo
  omega
def parentsAll (rows : List RowS) : List (Stamp × Stamp) := parentsTo rows rows.length
open Classical in
/-- Rows are a tree, as the program looks. -/
noncomputable def snapOk (rows : List RowS) : Bool := decide (rows.length ≤ 5000 ∧ (∀ i, i < rows.length → rightRow (nth rows i) = true ∧ (i = 0 ∨ cmpSt (nth rows (i - 1)).node (nth rows i).node < 0)) ∧ ∀ i, i < rows.length → reach (parentsAll rows) (nth rows i).node)
open Classical in
theorem snapOk_iff {rows : List RowS} : snapOk rows = true ↔ rows.length ≤ 5000 ∧ (∀ i, i < rows.length → rightRow (nth rows i) = true ∧ (i = 0 ∨ cmpSt (nth rows (i - 1)).node (nth rows i).node < 0)) ∧ ∀ i, i < rows.length → reach (parentsAll rows) (nth rows i).node := decide_eq_true_iff
theorem snapF {rows : List RowS} (h : ¬ (rows.length ≤ 5000 ∧ (∀ i, i < rows.length → rightRow (nth rows i) = true ∧ (i = 0 ∨ cmpSt (nth rows (i - 1)).node (nth rows i).node < 0)) ∧ ∀ i, i < rows.length → reach (parentsAll rows) (nth rows i).node)) : Value.bool false = Value.bool (snapOk rows) := by
  have : snapOk rows = false := by
    cases hh : snapOk rows with
    | false => rfl
    | true => exact absurd (snapOk_iff.1 hh) h
  rw [this]
theorem snapT {rows : List RowS} (h0 : ¬ (5000 : Int) < ((rows.length : Nat) : Int)) (h1 : ∀ i, i < rows.length → rightRow (nth rows i) = true ∧ (i = 0 ∨ cmpSt (nth rows (i - 1)).node (nth rows i).node < 0)) (h2 : ∀ i, i < rows.length → reach (parentsAll rows) (nth rows i).node) : Value.bool true = Value.bool (snapOk rows) := by
  rw [snapOk_iff.2 ⟨by omega, h1, h2⟩]
theorem right_at {rows : List RowS} {k : Nat} (h : rightRow (nth rows k) = true ∧ (¬ (0 : Int) < ((k : Nat) : Int) ∨ ¬ 0 ≤ cmpSt (nth rows (k - 1)).node (nth rows k).node)) : rightRow (nth rows k) = true ∧ (k = 0 ∨ cmpSt (nth rows (k - 1)).node (nth rows k).node < 0) :=
  ⟨h.1, by rcases h.2 with h | h <;> omega⟩
theorem right_bad {rows : List RowS} {k : Nat} (hh : rightRow (nth rows k) = true ∧ (k = 0 ∨ cmpSt (nth rows (k - 1)).node (nth rows k).node < 0)) (h : rightRow (nth rows k) = false ∨ ((0 : Int) < ((k : Nat) : Int) ∧ 0 ≤ cmpSt (nth rows (k - 1)).node (nth rows k).node)) : False := by
  rcases h with h | h
  · rw [hh.1] at h; cases h
  · rcases hh.2 with h1 | h1 <;> omega
theorem way_step {kv : List (Stamp × Stamp)} {kvg : List (Stamp × Bool)} {s a : Stamp} {way : List Stamp} {n : Nat} (h : onWay kv s way a) (hg : fixedSt a = false ∧ (kvGet kvg a).getD false = false) (hk : (kvGet kv a).isSome = true ∧ ¬ ((n : Nat) : Int) < ((way.length : Nat) : Int)) : onWay kv s (way ++ [a]) ((kvGet kv a).getD ⟨0, 0⟩) :=
  onWay_succ h hg.1 hk.1
theorem way_stop {kv : List (Stamp × Stamp)} {kvg : List (Stamp × Bool)} {a : Stamp} (hg : ∀ s, (kvGet kvg s).getD false = true → reach kv s) (h : fixedSt a = true ∨ (kvGet kvg a).getD false = true) : reach kv a := by
  rcases h with h | h
  · exact reach_fixed h
  · exact hg a h
theorem way_all {kv : List (Stamp × Stamp)} {s a : Stamp} {way : List Stamp} (h : onWay kv s way a) (hr : reach kv a) : ∀ i, i < way.length → reach kv (nth way i) := fun i hi => by
  rw [(h.2 i hi).1]; exact (onWay_reach h i (by omega)).2 hr
theorem mark_good {kv : List (Stamp × Stamp)} {kvg : List (Stamp × Bool)} {x : Stamp} (hg : ∀ s, (kvGet kvg s).getD false = true → reach kv s) (hx : reach kv x) : ∀ s, (kvGet (kvPut x true kvg) s).getD false = true → reach kv s := fun s h => by
  rw [kvGet_put] at h
  split at h
  · rename_i e; rw [e]; exact hx
  · exact hg s h
theorem way_bad {kv : List (Stamp × Stamp)} {kvg : List (Stamp × Bool)} {s a : Stamp} {way : List Stamp} {n : Nat} (h : onWay kv s way a) (hl : way.length ≤ n + 1) (hn : kv.length ≤ n) (hg : fixedSt a = false ∧ (kvGet kvg a).getD false = false) (hk : (kvGet kv a).isSome = false ∨ ((n : Nat) : Int) < ((way.length : Nat) : Int)) (hr : reach kv s) : False := by
  rcases hk with hk | hk
  · exact reach_not hg.1 hk ((onWay_reach h 0 (Nat.zero_le _)).1 hr)
  · exact way_long h (by omega) hr
theorem way_step' {kv kvp : List (Stamp × Stamp)} (e : kvp = kv) {kvg : List (Stamp × Bool)} {s a : Stamp} {way : List Stamp} {n : Nat} (h : onWay kv s way a) (hg : fixedSt a = false ∧ (kvGet kvg a).getD false = false) (hk : (kvGet kvp a).isSome = true ∧ ¬ ((n : Nat) : Int) < ((way.length : Nat) : Int)) : onWay kv s (way ++ [a]) ((kvGet kvp a).getD ⟨0, 0⟩) := by
  subst e; exact way_step h hg hk
theorem way_bad' {kv kvp : List (Stamp × Stamp)} (e : kvp = kv) {kvg : List (Stamp × Bool)} {s a : Stamp} {way : List Stamp} {n : Nat} (h : onWay kv s way a) (hl : way.length ≤ n + 1) (hn : kv.length ≤ n) (hg : fixedSt a = false ∧ (kvGet kvg a).getD false = false) (hk : (kvGet kvp a).isSome = false ∨ ((n : Nat) : Int) < ((way.length : Nat) : Int)) (hr : reach kv s) : False := by
  subst e; exact way_bad h hl hn hg hk hr
end Go.Proofs.Ytiknfldhommmpaa
/- The plain side of operations. -/
namespace Go.Proofs.Ytiknfldhommmpaa
open Go
set_option linter.unusedVariables false
set_option linter.unusedSimpArgs false
set_option linter.unusedSectionVars false
def opOverAt (tm : Stamp) (over : List Stamp) (i : Nat) : Prop := stRight (nth over i) = true ∧ cmpSt (nth over i) tm < 0 ∧ (i = 0 ∨ cmpSt (nth over (i - 1)) (nth over i) < 0)
instance (tm : Stamp) (over : List Stamp) (i : Nat) : Decidable (opOverAt tm over i) := by unfold opOverAt; infer_instance
def moveOk (o : OpS) : Bool := decide (cmpSt o.node o.tm ≤ 0 ∧ (stRight o.par = true ∨ fixedSt o.par = true) ∧ nameOk o.name = true ∧ o.data = zeroId ∧ o.over.length = 0)
def editOk (o : OpS) : Bool := decide (cmpSt o.node o.tm < 0 ∧ o.par = ⟨0, 0⟩ ∧ o.name = ByteArray.empty ∧ o.data ≠ zeroId ∧ o.over.length ≤ 64 ∧ ∀ i, i < o.over.length → opOverAt o.tm o.over i)
def goodOp (o : OpS) : Bool := decide (stRight o.tm = true ∧ stRight o.node = true ∧ (o.kind = 1 ∧ moveOk o = true ∨ o.kind = 2 ∧ editOk o = true))
theorem moveOk_e {o : OpS} : Value.bool ((((decide (cmpSt o.node o.tm ≤ 0) && (stRight o.par || fixedSt o.par)) && nameOk o.name) && decide (o.data = zeroId)) && decide (((o.over.length : Nat) : Int) = 0)) = Value.bool (moveOk o) := by
  refine boolE ?_
  simp only [Bool.and_eq_true, Bool.or_eq_true, decide_eq_true_eq]
  constructor
  · rintro ⟨⟨⟨⟨h1, h2⟩, h3⟩, h4⟩, h5⟩; exact ⟨h1, h2, h3, h4, by omega⟩
  · rintro ⟨h1, h2, h3, h4, h5⟩; exact ⟨⟨⟨⟨h1, h2⟩, h3⟩, h4⟩, by omega⟩
theorem editOk_f1 {o : OpS} (h : (((0 ≤ cmpSt o.node o.tm ∨ ¬ o.par = (⟨0, 0⟩ : Stamp)) ∨ ¬ o.name = ByteArray.empty) ∨ o.data = zeroId) ∨ (64 : Int) < ((o.over.length : Nat) : Int)) : Value.bool false = Value.bool (editOk o) := by
  refine boolF ?_
  rintro ⟨h1, h2, h3, h4, h5, _⟩
  rcases h with (((h | h) | h) | h) | h
  · omega
  · exact h h2
  · exact h h3
  · exact h4 h
  · omega
theorem overAt_t {tm : Stamp} {over : List Stamp} {k : Nat} (h : (stRight (nth over k) = true ∧ ¬ 0 ≤ cmpSt (nth over k) tm) ∧ (¬ (0 : Int) < ((k : Nat) : Int) ∨ ¬ 0 ≤ cmpSt (nth over (k - 1)) (nth over k))) : opOverAt tm over k :=
  ⟨h.1.1, by omega, by rcases h.2 with h | h <;> omega⟩
theorem editOk_f2 {o : OpS} {k : Nat} (hk : k < o.over.length) (h : (stRight (nth o.over k) = false ∨ 0 ≤ cmpSt (nth o.over k) o.tm) ∨ ((0 : Int) < ((k : Nat) : Int) ∧ 0 ≤ cmpSt (nth o.over (k - 1)) (nth o.over k))) : Value.bool false = Value.bool (editOk o) := by
  refine boolF ?_
  rintro ⟨_, _, _, _, _, hh⟩
  obtain ⟨a1, a2, a3⟩ := hh k hk
  rcases h with (h | h) | h
  · rw [a1] at h; cases h
  · omega
  · rcases a3 with a3 | a3 <;> omega
theorem editOk_t {o : OpS} (h : (((¬ 0 ≤ cmpSt o.node o.tm ∧ o.par = (⟨0, 0⟩ : Stamp)) ∧ o.name = ByteArray.empty) ∧ ¬ o.data = zeroId) ∧ ¬ (64 : Int) < ((o.over.length : Nat) : Int)) (h2 : ∀ i, i < o.over.length → opOverAt o.tm o.over i) : Value.bool true = Value.bool (editOk o) :=
  boolT ⟨by omega, h.1.1.1.2, h.1.1.2, h.1.2, by omega, h2⟩
theorem good_f {o : OpS} (h : stRight o.tm = false ∨ stRight o.node = false) : Value.bool false = Value.bool (goodOp o) := boolF fun hh => by
  rcases h with h | h
  · rw [hh.1] at h; cases h
  · rw [hh.2.1] at h; cases h
theorem good_m {o : OpS} (h : stRight o.tm = true ∧ stRight o.node = true) (h1 : o.kind = 1) : Value.bool (moveOk o) = Value.bool (goodOp o) := boolE ⟨fun hm => ⟨h.1, h.2, .inl ⟨h1, hm⟩⟩, fun hh => by
  rcases hh.2.2 with h3 | h3
  · exact h3.2
  · omega⟩
theorem good_e {o : OpS} (h : stRight o.tm = true ∧ stRight o.node = true) (h1 : o.kind = 2) : Value.bool (editOk o) = Value.bool (goodOp o) := boolE ⟨fun hm => ⟨h.1, h.2, .inr ⟨h1, hm⟩⟩, fun hh => by
  rcases hh.2.2 with h3 | h3
  · omega
  · exact h3.2⟩
theorem good_n {o : OpS} (h1 : ¬ o.kind = 1) (h2 : ¬ o.kind = 2) : Value.bool false = Value.bool (goodOp o) := boolF fun hh => by rcases hh.2.2 with h | h <;> exact absurd h.1 (by assumption)
structure MakerS where
  at_ : Stamp
  ops : List OpS
  oh : SlH
  bad : Bool
  deriving Inhabited
abbrev makerCh (m : MakerS) : Chs := [[.int .i64 m.at_.T], [.int .i64 m.at_.R], [slV m.oh m.ops], [.bool m.bad]]
abbrev makerV (m : MakerS) : Value := aggOf (makerCh m)
/-- An operation that was put. -/
def putOp (m : MakerS) (o : OpS) : OpS := { o with tm := m.at_ }
structure OpC where
  kind : Int
  tm : Stamp
  node : Stamp
  par : Stamp
  name : ByteArray
  data : ID
  over : List Stamp
  deriving DecidableEq, Inhabited
def OpS.core (o : OpS) : OpC := ⟨o.kind, o.tm, o.node, o.par, o.name, o.data, o.over⟩
/-- The root or the trash (a stamp of time 0) lies d parents above. -/
def depN (kv : List (Stamp × RowS)) : Nat → Stamp → Prop
  | 0, s => s.T = 0
  | d + 1, s => ¬ s.T = 0 ∧ depN kv d ((kvGet kv s).getD zeroRow).par
theorem depN_uniq {kv : List (Stamp × RowS)} : ∀ {n m : Nat} {s : Stamp}, depN kv n s → depN kv m s → n = m
  | 0, 0, _, _, _ => rfl
  | 0, m + 1, s, h, k => absurd h k.1
  | n + 1, 0, s, h, k => absurd k h.1
  | n + 1, m + 1, s, h, k => by rw [depN_uniq h.2 k.2]
open Classical in
noncomputable def depOf (kv : List (Stamp × RowS)) (s : Stamp) : Nat := if h : ∃ d, depN kv d s then Classical.choose h else 0
theorem depOf_eq {kv : List (Stamp × RowS)} {s : Stamp} {d : Nat} (h : depN kv d s) : depOf kv s = d := by
  have hx : ∃ d, depN kv d s := ⟨d, h⟩
  unfold depOf
  rw [dif_pos hx]
  exact depN_uniq (Classical.choose_spec hx) h
theorem dep_zero {kv : List (Stamp × RowS)} {s : Stamp} {d k n : Nat} (h : depN kv d s) (hk : k + d = n) (h0 : s.T = 0) : k = n := by
  cases d with
  | zero => omega
  | succ d => exact absurd h0 h.1
theorem dep_step {kv : List (Stamp × RowS)} {s : Stamp} {d : Nat} (h : depN kv d s) (h0 : ¬ s.T = 0) : 1 ≤ d ∧ depN kv (d - 1) ((kvGet kv s).getD zeroRow).par := by
  cases d with
  | zero => exact absurd h h0
  | succ d => exact ⟨by omega, h.2⟩
def OpC.good (o : OpC) : Bool := goodOp { kind := o.kind, tm := o.tm, node := o.node, par := o.par, name := o.name, data := o.data, over := o.over, oh := nilH }
theorem goodOp_core (o : OpS) : goodOp o = o.core.good := rfl
/-- What a maker is, but for where its operations lie. -/
structure MakerC where
  at_ : Stamp
  ops : List OpC
  bad : Bool
def MakerS.st (m : MakerS) : MakerC := ⟨m.at_, m.ops.map OpS.core, m.bad⟩
def putC (m : MakerC) (o : OpC) : MakerC := ⟨⟨m.at_.T + 1, m.at_.R⟩, m.ops ++ [{ o with tm := m.at_ }], m.bad || !OpC.good { o with tm := m.at_ }⟩
theorem put_st {m m' : MakerS} {o : OpS} (h : m'.at_ = ⟨m.at_.T + 1, m.at_.R⟩ ∧ m'.bad = (m.bad || !goodOp (putOp m o)) ∧ ∃ h, m'.ops = m.ops ++ [{ putOp m o with oh := h }]) : m'.st = putC m.st o.core := by
  obtain ⟨h1, h2, hh, h3⟩ := h
  unfold MakerS.st putC
  rw [h1, h2, h3]
  simp [List.map_append, OpS.core, putOp, goodOp_core]
theorem putC_at (l : List OpC) : ∀ m : MakerC, (l.foldl putC m).at_ = ⟨m.at_.T + l.length, m.at_.R⟩ ∧ (l.foldl putC m).ops.length = m.ops.length + l.length := by
  induction l with
  | nil => intro m; simp
  | cons o l ih =>
    intro m
    obtain ⟨h1, h2⟩ := ih (putC m o)
    rw [List.foldl_cons, h1, h2]
    refine ⟨?_, ?_⟩
    · simp only [putC, List.length_cons, Stamp.mk.injEq, and_true]; omega
    · simp only [putC, List.length_append, List.length_cons, List.length_nil]; omega
def zeroOp : OpC := ⟨0, ⟨0, 0⟩, ⟨0, 0⟩, ⟨0, 0⟩, ByteArray.empty, zeroId, []⟩
/-- A row's move; a row's move to the trash. -/
def mvOp (r : RowS) : OpC := { zeroOp with kind := 1, node := r.node, par := r.par, name := r.name }
def trOp (r : RowS) : OpC := { zeroOp with kind := 1, node := r.node, par := ⟨0, 1⟩, name := r.name }
/-- Does a row of the other tree want a move? -/
def needs (a : List RowS) (r : RowS) : Bool := !(kvGet (tableOf a) r.node).isSome || !decide (((kvGet (tableOf a) r.node).getD zeroRow).par = r.par) || !decide (((kvGet (tableOf a) r.node).getD zeroRow).name = r.name)
/-- Is a row's node gone in the other tree, and not in the trash? -/
def gone (b : List RowS) (r : RowS) : Bool := !(kvGet (tableOf b) r.node).isSome && !decide (r.par = ⟨0, 1⟩)
theorem st_at (m : MakerS) : m.st.at_ = m.at_ := rfl
theorem st_len {m m' : MakerS} {l : List OpC} (h : m'.st = l.foldl putC m.st) : m'.at_ = ⟨m.at_.T + l.length, m.at_.R⟩ ∧ m'.ops.length = m.ops.length + l.length := by
  have := putC_at l m.st
  rw [← h] at this
  refine ⟨this.1, ?_⟩
  have h2 := this.2
  simpa [MakerS.st] using h2
theorem moves_step {m mm mm2 : MakerS} {pre : List OpC} {L : List RowS} {j : Nat} {o : OpC} {g : RowS → OpC} (h : mm.st = (pre ++ (L.take j).map g).foldl putC m.st) (hj : j < L.length) (ho : o = g (nth L j)) (h2 : mm2.st = putC mm.st o) : mm2.st = (pre ++ (L.take (j + 1)).map g).foldl putC m.st := by
  rw [h2, h, ho, List.take_succ_eq_append_getElem hj, List.map_append, ← List.append_assoc, nth_eq hj]
  simp only [List.foldl_append, List.map_cons, List.map_nil, List.foldl_cons, List.foldl_nil]
theorem needs_in {a b acc : List RowS} {k : Nat} (h : acc = (b.take k).filter (needs a)) (hk : k < b.length) (hn : ((kvGet (tableOf a) (nth b k).node).isSome = false ∨ ¬ ((kvGet (tableOf a) (nth b k).node).getD zeroRow).par = (nth b k).par) ∨ ¬ ((kvGet (tableOf a) (nth b k).node).getD zeroRow).name = (nth b k).name) : acc ++ [nth b k] = (b.take (k + 1)).filter (needs a) := by
  rw [filter_take_succ hk, ← h, if_pos (by unfold needs; rcases hn with (hn | hn) | hn <;> simp [hn])]
theorem needs_out {a b acc : List RowS} {k : Nat} (h : acc = (b.take k).filter (needs a)) (hk : k < b.length) (hn : ((kvGet (tableOf a) (nth b k).node).isSome = true ∧ ((kvGet (tableOf a) (nth b k).node).getD zeroRow).par = (nth b k).par) ∧ ((kvGet (tableOf a) (nth b k).node).getD zeroRow).name = (nth b k).name) : acc = (b.take (k + 1)).filter (needs a) := by
  rw [filter_take_succ hk, ← h, if_neg (by unfold needs; simp [hn.1.1, hn.1.2, hn.2]), List.append_nil]
theorem moved_mem {a b acc : List RowS} {k : Nat} {x : RowS} (h : acc = (b.take k).filter (needs a)) (hx : x ∈ acc) : x ∈ b := by
  rw [h] at hx
  exact List.mem_of_mem_take (List.mem_filter.1 hx).1
theorem SS_step {SS SS2 Sm : Nat → Prop} {n n2 : Nat} (h : ∀ c, SS c → Sm c ∨ n ≤ c) (h2 : ∀ c, SS2 c → SS c ∨ n2 ≤ c ∨ nob c) (hn : n ≤ n2) : ∀ c, SS2 c → Sm c ∨ n ≤ c := fun c hc => by
  rcases h2 c hc with h3 | h3 | h3
  · exact h c h3
  · exact .inr (Nat.le_trans hn h3)
  · exact h3.elim
theorem gone_step {m mm mm2 : MakerS} {pre : List OpC} {a b : List RowS} {k : Nat} {o : OpC} (h : mm.st = (pre ++ ((a.take k).filter (gone b)).map trOp).foldl putC m.st) (hk : k < a.length) (hg : (kvGet (tableOf b) (nth a k).node).isSome = false ∧ ¬ (nth a k).par = ⟨0, 1⟩) (ho : o = trOp (nth a k)) (h2 : mm2.st = putC mm.st o) : mm2.st = (pre ++ ((a.take (k + 1)).filter (gone b)).map trOp).foldl putC m.st := by
  rw [h2, h, ho, filter_take_succ hk, if_pos (by unfold gone; simp [hg.1, hg.2]), List.map_append, ← List.append_assoc]
  simp only [List.foldl_append, List.map_cons, List.map_nil, List.foldl_cons, List.foldl_nil]
theorem gone_skip {m mm : MakerS} {pre : List OpC} {a b : List RowS} {k : Nat} (h : mm.st = (pre ++ ((a.take k).filter (gone b)).map trOp).foldl putC m.st) (hk : k < a.length) (hg : (kvGet (tableOf b) (nth a k).node).isSome = true ∨ (nth a k).par = ⟨0, 1⟩) : mm.st = (pre ++ ((a.take (k + 1)).filter (gone b)).map trOp).foldl putC m.st := by
  rw [h, filter_take_succ hk, if_neg (by unfold gone; rcases hg with hg | hg <;> simp [hg]), List.append_nil]
theorem T_room {m mm : MakerS} {l : List OpC} (h : mm.st = l.foldl putC m.st) (hT : 0 ≤ m.at_.T ∧ m.at_.T ≤ 2199023255552) (hl : l.length ≤ 100000) : mm.at_.T ≤ 4611686018427387904 ∧ -4611686018427387904 ≤ mm.at_.T := by
  rw [(st_len h).1]; simp only []; omega
theorem L_room {m mm : MakerS} {l : List OpC} (h : mm.st = l.foldl putC m.st) (hm : m.ops.length ≤ 100000) (hl : l.length ≤ 100000) : mm.ops.length ≤ 1048576 := by
  rw [(st_len h).2]; omega
/-- What a node was in the elder tree. -/
def wasOf (a : List RowS) (r : RowS) : RowS := (kvGet (tableOf a) r.node).getD zeroRow
def sameHeads (a : List RowS) (r : RowS) : Bool := decide (datas ((kvGet (tableOf a) r.node).getD zeroRow).heads = datas r.heads)
def edOp (a : List RowS) (r : RowS) : OpC := { zeroOp with kind := 2, node := r.node, data := (nth r.heads 0).data, over := (wasOf a r).heads.map (·.tm) }
def edWants (a : List RowS) (r : RowS) : Bool := !sameHeads a r && decide (r.heads.length = 1)
def edBad (a : List RowS) (r : RowS) : Bool := !sameHeads a r && !decide (r.heads.length = 1)
def editsOf (a b : List RowS) : List OpC := (b.filter (edWants a)).map (edOp a)
def editsOne (a b : List RowS) : Bool := b.all fun r => !edBad a r
theorem editsOne_succ {a b : List RowS} {k : Nat} (hk : k < b.length) : editsOne a (b.take (k + 1)) = (editsOne a (b.take k) && !edBad a (nth b k)) := by
  unfold editsOne
  rw [List.take_succ_eq_append_getElem hk, List.all_append, nth_eq hk]
  simp
theorem edits_len (a b : List RowS) (k : Nat) : (editsOf a (b.take k)).length ≤ k := by
  unfold editsOf
  rw [List.length_map]
  refine Nat.le_trans (List.length_filter_le _ _) ?_
  rw [List.length_take]; omega
theorem edits_same {m mm : MakerS} {a b : List RowS} {k : Nat} {one : Bool} (h : mm.st = (editsOf a (b.take k)).foldl putC m.st) (ho : one = editsOne a (b.take k)) (hk : k < b.length)
    (hs : datas ((kvGet (tableOf a) (nth b k).node).getD zeroRow).heads = datas (nth b k).heads) : mm.st = (editsOf a (b.take (k + 1))).foldl putC m.st ∧ one = editsOne a (b.take (k + 1)) := by
  have hsm : sameHeads a (nth b k) = true := decide_eq_true hs
  refine ⟨?_, ?_⟩
  · rw [h, editsOf, editsOf, filter_take_succ hk, if_neg (by unfold edWants; simp [hsm]), List.append_nil]
  · rw [ho, editsOne_succ hk, edBad, hsm]; simp
theorem edits_many {m mm : MakerS} {a b : List RowS} {k : Nat} (h : mm.st = (editsOf a (b.take k)).foldl putC m.st) (hk : k < b.length)
    (hs : ¬ datas ((kvGet (tableOf a) (nth b k).node).getD zeroRow).heads = datas (nth b k).heads) (hn : ¬ (((nth b k).heads.length : Nat) : Int) = 1) : mm.st = (editsOf a (b.take (k + 1))).foldl putC m.st ∧ false = editsOne a (b.take (k + 1)) := by
  have hsm : sameHeads a (nth b k) = false := decide_eq_false hs
  have hl : decide ((nth b k).heads.length = 1) = false := decide_eq_false (by omega)
  refine ⟨?_, ?_⟩
  · rw [h, editsOf, editsOf, filter_take_succ hk, if_neg (by unfold edWants; simp [hl]), List.append_nil]
  · rw [editsOne_succ hk, edBad, hsm, hl]; simp
theorem edits_put {m mm mm2 : MakerS} {a b : List RowS} {k : Nat} {one : Bool} {o : OpC} (h : mm.st = (editsOf a (b.take k)).foldl putC m.st) (ho : one = editsOne a (b.take k)) (hk : k < b.length)
    (hs : ¬ datas ((kvGet (tableOf a) (nth b k).node).getD zeroRow).heads = datas (nth b k).heads) (hn : (((nth b k).heads.length : Nat) : Int) = 1) (hop : o = edOp a (nth b k)) (h2 : mm2.st = putC mm.st o) :
    mm2.st = (editsOf a (b.take (k + 1))).foldl putC m.st ∧ one = editsOne a (b.take (k + 1)) := by
  have hsm : sameHeads a (nth b k) = false := decide_eq_false hs
  have hl : decide ((nth b k).heads.length = 1) = true := decide_eq_true (by omega)
  refine ⟨?_, ?_⟩
  · rw [h2, h, hop, editsOf, editsOf, filter_take_succ hk, if_pos (by unfold edWants; simp [hsm, hl])]
    simp only [List.map_append, List.foldl_append, List.map_cons, List.map_nil, List.foldl_cons, List.foldl_nil]
  · rw [ho, editsOne_succ hk, edBad, hl]; simp
/-- What the table holds is a row, or nothing. -/
theorem kvGet_table {a : List RowS} {s : Stamp} {x : RowS} (h : kvGet (tableOf a) s = some x) : x ∈ a ∧ x.node = s := by
  suffices hh : ∀ (l : List RowS) (kv : List (Stamp × RowS)), (∀ p ∈ kv, p.2 ∈ a ∧ p.2.node = p.1) → (∀ x ∈ l, x ∈ a) → ∀ p ∈ l.foldl (fun kv r => kvPut r.node r kv) kv, p.2 ∈ a ∧ p.2.node = p.1 from
    hh a [] (fun _ h => (nomatch h)) (fun _ h => h) _ (kvGet_mem h)
  intro l
  induction l with
  | nil => intro kv hkv _ p hp; exact hkv p hp
  | cons r l ih =>
    intro kv hkv hl
    refine ih _ (fun p hp => ?_) (fun x hx => hl x (List.mem_cons_of_mem _ hx))
    rcases kvPut_mem hp with rfl | hp
    · exact ⟨hl _ (List.mem_cons_self ..), rfl⟩
    · exact hkv p hp
theorem tab_deep {F : Nat → Prop} {a : List RowS} {w : World} (h : ∀ x ∈ a, Sl F headCh 34 x.hh x.heads w) (s : Stamp) : Sl F headCh 34 ((kvGet (tableOf a) s).getD zeroRow).hh ((kvGet (tableOf a) s).getD zeroRow).heads w := by
  cases hk : kvGet (tableOf a) s with
  | none => exact Sl.nil F headCh 34 w
  | some x => exact h x (kvGet_table hk).1
theorem tab_heads {n : Nat} {a : List RowS} (h : ∀ x ∈ a, x.heads.length ≤ n) (s : Stamp) : ((kvGet (tableOf a) s).getD zeroRow).heads.length ≤ n := by
  cases hk : kvGet (tableOf a) s with
  | none => exact Nat.zero_le _
  | some x => exact h x (kvGet_table hk).1
theorem over_step {hs : List Head} {acc : List Stamp} {j : Nat} (h : acc = (hs.take j).map (·.tm)) (hj : j < hs.length) : acc ++ [(nth hs j).tm] = (hs.take (j + 1)).map (·.tm) := by
  rw [h, List.take_succ_eq_append_getElem hj, List.map_append, nth_eq hj]; rfl
theorem over_end {hs : List Head} {acc : List Stamp} {j : Nat} (h : acc = (hs.take j).map (·.tm)) (hj : ¬ j < hs.length) : acc = hs.map (·.tm) := by
  rw [h, List.take_of_length_le (by omega)]
theorem SS_stepF {SS SS2 Sm Fo : Nat → Prop} {n n2 : Nat} (h : ∀ c, SS c → Sm c ∨ n ≤ c) (h2 : ∀ c, SS2 c → SS c ∨ n2 ≤ c ∨ Fo c) (hn : n ≤ n2) (hF : ∀ c, Fo c → n ≤ c) : ∀ c, SS2 c → Sm c ∨ n ≤ c := fun c hc => by
  rcases h2 c hc with h3 | h3 | h3
  · exact h c h3
  · exact .inr (Nat.le_trans hn h3)
  · exact .inr (hF c h3)
end Go.Proofs.Ytiknfldhommmpaa
namespace Go.Proofs.Ytiknfldhommmpaa
open Go
set_option maxRecDepth 100000
set_option linter.unusedVariables false
set_option linter.unusedSimpArgs false
theorem stamp_edit_c35 : callable Try.prog 35 = true := by kernel_rfl
theorem stamp_edit_c47 : callable Try.prog 47 = true := by kernel_rfl
set_option maxHeartbeats 1000000 in
theorem stamp_edit (o : OpS) (w : World) (So_over : Sl (Old w) stampCh 2 o.oh o.over w) :
    Calls Try.prog 76 #[(aggOf (opCh o))] w (Ret fun v w' => v = (.bool (editOk o)) ∧ Ext w w') := by
 refine calls_W Try.func76 rfl Try.ntmps76 rfl ?_
 have H0 := Ctx.start w nob
 have H1 := H0.addSl _ So_over (fun b hb => ⟨hb, fun _ ho => (nomatch ho)⟩)
 have LSo_over := So_over.len
 refine W_seq (W_reg ?_)
 refine O_v rfl (C_box H1 [[(.int .i64 o.kind)], [(.int .i64 o.tm.T)], [(.int .i64 o.tm.R)], [(.int .i64 o.node.T)], [(.int .i64 o.node.R)], [(.int .i64 o.par.T)], [(.int .i64 o.par.R)], [(.string o.name)], (idCells o.data), [(slV o.oh o.over)]] rfl ?_)
 intro b2 w3 hb4 hx5 H6
 refine O_v rfl (R_assign (v := (.bool false)) rfl ?_)
 refine O_nil (Then_n (W_seq (W_seq ?_)))
 refine W_rg [(0, .q false), (1, .q false), (2, .q false), (3, .q false), (4, .q false), (5, .q false), (6, .q false), (7, .q false), (8, .q false), (9, .q false), (10, .q false), (11, .q false), (12, .q false), (13, .q false), (14, .q false), (15, .q false), (16, .q false), (17, .q false), (18, .q false), (19, .q false), (20, .q false), (21, .q false), (22, .q false), (23, .q false), (24, .q false), (25, .q false), (26, .q false), (27, .q false), (28, .q false)] (by kernel_rfl) ?_
 refine Lx_q (i := 0) rfl rfl _ (fun v7 hv8 => R_fieldAddr (off := 3) (oo := 3) Try.underlying39 rfl rfl Try.sizeOf24 rfl rfl ⟨rfl, Gr.refl _ _⟩) ?_
 refine Lx_q (i := 1) rfl rfl _ (fun v9 hv10 => R_loadA (cs := [[(.int .i64 o.node.T)], [(.int .i64 o.node.R)]]) Try.isAgg24 Try.sizeOf24 rfl rfl ((boxR_at ((H6.ext hv10).getOwn 0 rfl)).chunks 3 2 3 3 _ rfl rfl rfl) ⟨rfl, Gr.refl _ _⟩) ?_
 refine Lx_q (i := 2) rfl rfl _ (fun v11 hv12 => R_fieldAddr (off := 1) (oo := 1) Try.underlying39 rfl rfl Try.sizeOf24 rfl rfl ⟨rfl, Gr.refl _ _⟩) ?_
 refine Lx_q (i := 3) rfl rfl _ (fun v13 hv14 => R_loadA (cs := [[(.int .i64 o.tm.T)], [(.int .i64 o.tm.R)]]) Try.isAgg24 Try.sizeOf24 rfl rfl ((boxR_at ((H6.ext hv14).getOwn 0 rfl)).chunks 1 2 1 1 _ rfl rfl rfl) ⟨rfl, Gr.refl _ _⟩) ?_
 refine Lx_q (i := 4) rfl rfl (.int .i64 (cmpSt o.node o.tm)) (fun v15 hv16 => R_callL (vs := [(aggOf (stampCh o.node)), (aggOf (stampCh o.tm))]) stamp_edit_c47 rfl rfl (stamp_Cmp o.node o.tm v15 )) ?_
 refine Lx_q (i := 5) rfl rfl _ (fun v17 hv18 => R_cmp (a := cmpSt o.node o.tm) (b := 0) (r := (decide (0 ≤ cmpSt o.node o.tm))) rfl rfl rfl ⟨rfl, Gr.refl _ _⟩) ?_
 refine Lx_q (i := 6) rfl rfl _ (fun v19 hv20 => R_move (v := (.bool (decide (0 ≤ cmpSt o.node o.tm)))) rfl ⟨rfl, Gr.refl _ _⟩) ?_
 refine Lx_qg (i := 7) true (decide (0 ≤ cmpSt o.node o.tm)) rfl rfl rfl rfl rfl (!(decide (0 ≤ cmpSt o.node o.tm))) ga_f _ (fun hA v21 hv22 => R_fieldAddr (off := 5) (oo := 5) Try.underlying39 rfl rfl Try.sizeOf24 rfl rfl ⟨rfl, Gr.refl _ _⟩) ?_
 refine Lx_qg (i := 8) true (decide (0 ≤ cmpSt o.node o.tm)) rfl rfl rfl rfl rfl (!(decide (0 ≤ cmpSt o.node o.tm))) ga_f _ (fun hA v23 hv24 => R_loadA (cs := [[(.int .i64 o.par.T)], [(.int .i64 o.par.R)]]) Try.isAgg24 Try.sizeOf24 rfl (gv_t hA) ((boxR_at ((H6.ext hv24).getOwn 0 rfl)).chunks 5 2 5 5 _ rfl rfl rfl) ⟨rfl, Gr.refl _ _⟩) ?_
 refine Lx_qg (i := 9) true (decide (0 ≤ cmpSt o.node o.tm)) rfl rfl rfl rfl rfl (!(decide (0 ≤ cmpSt o.node o.tm))) ga_f _ (fun hA v25 hv26 => R_buildL (vs := []) (v := aggOf [[(.int .i64 0)], [(.int .i64 0)]]) rfl (fun _ => by kernel_rfl) ⟨rfl, Gr.refl _ _⟩) ?_
 refine Lx_qg (i := 10) true (decide (0 ≤ cmpSt o.node o.tm)) rfl rfl rfl rfl rfl (!(decide (0 ≤ cmpSt o.node o.tm))) ga_f _ (fun hA v27 hv28 => R_nev (a := o.par) (b := ({ T := 0, R := 0 } : Stamp)) eqv_Stamp24 rfl Try.eqGuardType24 (gv_t hA) (gv_t hA) ⟨rfl, Gr.refl _ _⟩) ?_
 refine Lx_q (i := 11) rfl rfl _ (fun v29 hv30 => R_pick (t := (decide (0 ≤ cmpSt o.node o.tm))) (v := (.bool ((decide (0 ≤ cmpSt o.node o.tm)) || (!(decide (o.par = ({ T := 0, R := 0 } : Stamp))))))) rfl pk_or ⟨rfl, Gr.refl _ _⟩) ?_
 refine Lx_q (i := 12) rfl rfl _ (fun v31 hv32 => R_move (v := (.bool ((decide (0 ≤ cmpSt o.node o.tm)) || (!(decide (o.par = ({ T := 0, R := 0 } : Stamp))))))) rfl ⟨rfl, Gr.refl _ _⟩) ?_
 refine Lx_qg (i := 13) true ((decide (0 ≤ cmpSt o.node o.tm)) || (!(decide (o.par = ({ T := 0, R := 0 } : Stamp))))) rfl rfl rfl rfl rfl (!((decide (0 ≤ cmpSt o.node o.tm)) || (!(decide (o.par = ({ T := 0, R := 0 } : Stamp)))))) ga_f _ (fun hA v33 hv34 => R_fieldAddr (off := 7) (oo := 7) Try.underlying39 rfl rfl Try.sizeOf9 rfl rfl ⟨rfl, Gr.refl _ _⟩) ?_
 refine Lx_qg (i := 14) true ((decide (0 ≤ cmpSt o.node o.tm)) || (!(decide (o.par = ({ T := 0, R := 0 } : Stamp))))) rfl rfl rfl rfl rfl (!((decide (0 ≤ cmpSt o.node o.tm)) || (!(decide (o.par = ({ T := 0, R := 0 } : Stamp)))))) ga_f _ (fun hA v35 hv36 => R_load1 (v := (.string o.name)) Try.isAgg9 (gv_t hA) ((boxR_at ((H6.ext hv36).getOwn 0 rfl)).chunks 7 1 7 7 _ rfl rfl rfl) ⟨rfl, Gr.refl _ _⟩) ?_
 refine Lx_qg (i := 15) true ((decide (0 ≤ cmpSt o.node o.tm)) || (!(decide (o.par = ({ T := 0, R := 0 } : Stamp))))) rfl rfl rfl rfl rfl (!((decide (0 ≤ cmpSt o.node o.tm)) || (!(decide (o.par = ({ T := 0, R := 0 } : Stamp)))))) ga_f _ (fun hA v37 hv38 => R_cmpS (a := o.name) (b := ByteArray.empty) (r := (!(decide (o.name = ByteArray.empty)))) (gv_t hA) rfl rfl ⟨rfl, Gr.refl _ _⟩) ?_
 refine Lx_q (i := 16) rfl rfl _ (fun v39 hv40 => R_pick (t := ((decide (0 ≤ cmpSt o.node o.tm)) || (!(decide (o.par = ({ T := 0, R := 0 } : Stamp)))))) (v := (.bool (((decide (0 ≤ cmpSt o.node o.tm)) || (!(decide (o.par = ({ T := 0, R := 0 } : Stamp))))) || (!(decide (o.name = ByteArray.empty)))))) rfl pk_or ⟨rfl, Gr.refl _ _⟩) ?_
 refine Lx_q (i := 17) rfl rfl _ (fun v41 hv42 => R_move (v := (.bool (((decide (0 ≤ cmpSt o.node o.tm)) || (!(decide (o.par = ({ T := 0, R := 0 } : Stamp))))) || (!(decide (o.name = ByteArray.empty)))))) rfl ⟨rfl, Gr.refl _ _⟩) ?_
 refine Lx_qg (i := 18) true (((decide (0 ≤ cmpSt o.node o.tm)) || (!(decide (o.par = ({ T := 0, R := 0 } : Stamp))))) || (!(decide (o.name = ByteArray.empty)))) rfl rfl rfl rfl rfl (!(((decide (0 ≤ cmpSt o.node o.tm)) || (!(decide (o.par = ({ T := 0, R := 0 } : Stamp))))) || (!(decide (o.name = ByteArray.empty))))) ga_f _ (fun hA v43 hv44 => R_fieldAddr (off := 8) (oo := 8) Try.underlying39 rfl rfl Try.sizeOf36 rfl rfl ⟨rfl, Gr.refl _ _⟩) ?_
 refine Lx_qg (i := 19) true (((decide (0 ≤ cmpSt o.node o.tm)) || (!(decide (o.par = ({ T := 0, R := 0 } : Stamp))))) || (!(decide (o.name = ByteArray.empty)))) rfl rfl rfl rfl rfl (!(((decide (0 ≤ cmpSt o.node o.tm)) || (!(decide (o.par = ({ T := 0, R := 0 } : Stamp))))) || (!(decide (o.name = ByteArray.empty))))) ga_f _ (fun hA v45 hv46 => R_loadA (cs := [(idCells o.data)]) Try.isAgg36 Try.sizeOf36 rfl (gv_t hA) ((boxR_at ((H6.ext hv46).getOwn 0 rfl)).chunks 8 1 8 8 _ rfl rfl rfl) ⟨rfl, Gr.refl _ _⟩) ?_
 refine Lx_qg (i := 20) true (((decide (0 ≤ cmpSt o.node o.tm)) || (!(decide (o.par = ({ T := 0, R := 0 } : Stamp))))) || (!(decide (o.name = ByteArray.empty)))) rfl rfl rfl rfl rfl (!(((decide (0 ≤ cmpSt o.node o.tm)) || (!(decide (o.par = ({ T := 0, R := 0 } : Stamp))))) || (!(decide (o.name = ByteArray.empty))))) ga_f _ (fun hA v47 hv48 => R_buildL (vs := []) (v := aggOf [(idCells zeroId)]) rfl (fun _ => by kernel_rfl) ⟨rfl, Gr.refl _ _⟩) ?_
 refine Lx_qg (i := 21) true (((decide (0 ≤ cmpSt o.node o.tm)) || (!(decide (o.par = ({ T := 0, R := 0 } : Stamp))))) || (!(decide (o.name = ByteArray.empty)))) rfl rfl rfl rfl rfl (!(((decide (0 ≤ cmpSt o.node o.tm)) || (!(decide (o.par = ({ T := 0, R := 0 } : Stamp))))) || (!(decide (o.name = ByteArray.empty))))) ga_f _ (fun hA v49 hv50 => R_eqv (a := o.data) (b := zeroId) eqv_ID36 rfl Try.eqGuardType36 (gv_t hA) (gv_t hA) ⟨rfl, Gr.refl _ _⟩) ?_
 refine Lx_q (i := 22) rfl rfl _ (fun v51 hv52 => R_pick (t := (((decide (0 ≤ cmpSt o.node o.tm)) || (!(decide (o.par = ({ T := 0, R := 0 } : Stamp))))) || (!(decide (o.name = ByteArray.empty))))) (v := (.bool ((((decide (0 ≤ cmpSt o.node o.tm)) || (!(decide (o.par = ({ T := 0, R := 0 } : Stamp))))) || (!(decide (o.name = ByteArray.empty)))) || (decide (o.data = zeroId))))) rfl pk_or ⟨rfl, Gr.refl _ _⟩) ?_
 refine Lx_q (i := 23) rfl rfl _ (fun v53 hv54 => R_move (v := (.bool ((((decide (0 ≤ cmpSt o.node o.tm)) || (!(decide (o.par = ({ T := 0, R := 0 } : Stamp))))) || (!(decide (o.name = ByteArray.empty)))) || (decide (o.data = zeroId))))) rfl ⟨rfl, Gr.refl _ _⟩) ?_
 refine Lx_qg (i := 24) true ((((decide (0 ≤ cmpSt o.node o.tm)) || (!(decide (o.par = ({ T := 0, R := 0 } : Stamp))))) || (!(decide (o.name = ByteArray.empty)))) || (decide (o.data = zeroId))) rfl rfl rfl rfl rfl (!((((decide (0 ≤ cmpSt o.node o.tm)) || (!(decide (o.par = ({ T := 0, R := 0 } : Stamp))))) || (!(decide (o.name = ByteArray.empty)))) || (decide (o.data = zeroId)))) ga_f _ (fun hA v55 hv56 => R_fieldAddr (off := 40) (oo := 40) Try.underlying39 rfl rfl Try.sizeOf37 rfl rfl ⟨rfl, Gr.refl _ _⟩) ?_
 refine Lx_qg (i := 25) true ((((decide (0 ≤ cmpSt o.node o.tm)) || (!(decide (o.par = ({ T := 0, R := 0 } : Stamp))))) || (!(decide (o.name = ByteArray.empty)))) || (decide (o.data = zeroId))) rfl rfl rfl rfl rfl (!((((decide (0 ≤ cmpSt o.node o.tm)) || (!(decide (o.par = ({ T := 0, R := 0 } : Stamp))))) || (!(decide (o.name = ByteArray.empty)))) || (decide (o.data = zeroId)))) ga_f _ (fun hA v57 hv58 => R_load1 (v := (slV o.oh o.over)) Try.isAgg37 (gv_t hA) ((boxR_at ((H6.ext hv58).getOwn 0 rfl)).chunks 9 1 40 40 _ rfl rfl rfl) ⟨rfl, Gr.refl _ _⟩) ?_
 refine Lx_qg (i := 26) true ((((decide (0 ≤ cmpSt o.node o.tm)) || (!(decide (o.par = ({ T := 0, R := 0 } : Stamp))))) || (!(decide (o.name = ByteArray.empty)))) || (decide (o.data = zeroId))) rfl rfl rfl rfl rfl (!((((decide (0 ≤ cmpSt o.node o.tm)) || (!(decide (o.par = ({ T := 0, R := 0 } : Stamp))))) || (!(decide (o.name = ByteArray.empty)))) || (decide (o.data = zeroId)))) ga_f _ (fun hA v59 hv60 => R_len_slice (a := o.oh.a) (n := o.over.length) (c := o.oh.c) Try.underlying37 (gv_t hA) ⟨rfl, Gr.refl _ _⟩) ?_
 refine Lx_qg (i := 27) true ((((decide (0 ≤ cmpSt o.node o.tm)) || (!(decide (o.par = ({ T := 0, R := 0 } : Stamp))))) || (!(decide (o.name = ByteArray.empty)))) || (decide (o.data = zeroId))) rfl rfl rfl rfl rfl (!((((decide (0 ≤ cmpSt o.node o.tm)) || (!(decide (o.par = ({ T := 0, R := 0 } : Stamp))))) || (!(decide (o.name = ByteArray.empty)))) || (decide (o.data = zeroId)))) ga_f _ (fun hA v61 hv62 => R_cmp (a := ((o.over.length : Nat) : Int)) (b := 64) (r := (decide (64 < ((o.over.length : Nat) : Int)))) (gv_t hA) rfl rfl ⟨rfl, Gr.refl _ _⟩) ?_
 refine Lx_q (i := 28) rfl rfl _ (fun v63 hv64 => R_pick (t := ((((decide (0 ≤ cmpSt o.node o.tm)) || (!(decide (o.par = ({ T := 0, R := 0 } : Stamp))))) || (!(decide (o.name = ByteArray.empty)))) || (decide (o.data = zeroId)))) (v := (.bool (((((decide (0 ≤ cmpSt o.node o.tm)) || (!(decide (o.par = ({ T := 0, R := 0 } : Stamp))))) || (!(decide (o.name = ByteArray.empty)))) || (decide (o.data = zeroId))) || (decide (64 < ((o.over.length : Nat) : Int)))))) rfl pk_or ⟨rfl, Gr.refl _ _⟩) ?_
 refine Lx_nil (fun w65 hw66 => ?_)
 have H67 := H6.ext hw66
 refine Then_n ?_
 refine W_cond (t := (((((decide (0 ≤ cmpSt o.node o.tm)) || (!(decide (o.par = ({ T := 0, R := 0 } : Stamp))))) || (!(decide (o.name = ByteArray.empty)))) || (decide (o.data = zeroId))) || (decide (64 < ((o.over.length : Nat) : Int))))) rfl (fun hc68 => ?_) (fun hc68 => ?_)
 ·have hc68 : (((((0 ≤ cmpSt o.node o.tm) ∨ ¬ (o.par = ({ T := 0, R := 0 } : Stamp))) ∨ ¬ (o.name = ByteArray.empty)) ∨ (o.data = zeroId)) ∨ (64 < ((o.over.length : Nat) : Int))) := (Or.imp (fun h => (Or.imp (fun h => (Or.imp (fun h => (Or.imp (fun h => (of_decide_eq_true h)) (fun h => (of_decide_eq_false (notT h))) (orT h))) (fun h => (of_decide_eq_false (notT h))) (orT h))) (fun h => (of_decide_eq_true h)) (orT h))) (fun h => (of_decide_eq_true h)) (orT hc68))
  refine W_seq (W_reg ?_)
  refine O_v rfl (R_assign (v := (.bool false)) rfl ?_)
  refine O_nil (Then_n (W_ret (Then_r ?_)))
  refine ret_1 (v := (.bool false)) Try.results76 rfl ?_
  exact ⟨(editOk_f1 (by assumption)), H67.gr⟩
 ·have hc68 : ((((¬ (0 ≤ cmpSt o.node o.tm) ∧ (o.par = ({ T := 0, R := 0 } : Stamp))) ∧ (o.name = ByteArray.empty)) ∧ ¬ (o.data = zeroId)) ∧ ¬ (64 < ((o.over.length : Nat) : Int))) := (And.imp (fun h => (And.imp (fun h => (And.imp (fun h => (And.imp (fun h => (of_decide_eq_false h)) (fun h => (of_decide_eq_true (notF h))) (orF h))) (fun h => (of_decide_eq_true (notF h))) (orF h))) (fun h => (of_decide_eq_false h)) (orF h))) (fun h => (of_decide_eq_false h)) (orF hc68))
  refine W_skip (Then_n (W_seq (W_seq (W_reg ?_))))
  refine O_v rfl (R_fieldAddr (off := 40) (oo := 40) Try.underlying39 rfl rfl Try.sizeOf37 rfl rfl ?_)
  refine O_v rfl (R_load1 (v := (slV o.oh o.over)) Try.isAgg37 rfl ((boxR_at (H67.getOwn 0 rfl)).chunks 9 1 40 40 _ rfl rfl rfl) ?_)
  refine O_v rfl (R_len_slice (a := o.oh.a) (n := o.over.length) (c := o.oh.c) Try.underlying37 rfl ?_)
  refine O_v rfl (R_move (v := (.int .i64 0)) rfl ?_)
  refine O_nil (Then_n (W_block ?_))
  refine W_loop (fun m69 e70 w71 => ∃ (k : Nat), m69 = o.over.length - k ∧ (k ≤ o.over.length) ∧ (∀ i, i < k → opOverAt o.tm o.over i) ∧ ∃ eb72, e70 = envL [(1, (.pointer (some ⟨b2, 0, none⟩))), (35, (slV o.oh o.over)), (36, (.int .i64 ((o.over.length : Nat) : Int))), (37, (.int .i64 ((k : Nat) : Int)))] eb72 ∧ Ctx w nob w71 [boxR b2 39 [[(.int .i64 o.kind)], [(.int .i64 o.tm.T)], [(.int .i64 o.tm.R)], [(.int .i64 o.node.T)], [(.int .i64 o.node.R)], [(.int .i64 o.par.T)], [(.int .i64 o.par.R)], [(.string o.name)], (idCells o.data), [(slV o.oh o.over)]]] [slI (Old w) stampCh 2 o.oh o.over]) _ ⟨0, rfl, (by omega), (all_zero _), _, envL_self ⟨rfl, rfl, rfl, rfl, trivial⟩, H67⟩ ?_
  rintro m69 _ w71 ⟨k, rfl, hk, hn, eb72, rfl, H73⟩
  refine W_seq (W_reg ?_)
  refine O_v rfl (R_cmp (a := ((k : Nat) : Int)) (b := ((o.over.length : Nat) : Int)) (r := (decide (((k : Nat) : Int) < ((o.over.length : Nat) : Int)))) rfl rfl rfl ?_)
  refine O_nil (Then_n (W_seq ?_))
  refine W_cond (t := (decide (((k : Nat) : Int) < ((o.over.length : Nat) : Int)))) rfl (fun hc74 => ?_) (fun hc74 => ?_)
  ·have hc74 : (((k : Nat) : Int) < ((o.over.length : Nat) : Int)) := (of_decide_eq_true hc74)
   refine W_skip (Then_n (W_seq (W_block (W_seq (W_reg ?_)))))
   refine O_v rfl (R_move (v := (.int .i64 ((k : Nat) : Int))) rfl ?_)
   refine O_v rfl (R_index_pure (H73.sl 0 rfl) (n := o.over.length) rfl (j := ((k : Nat) : Int)) (oo := (o.oh.o + k * 2)) Try.underlying37 Try.sizeOf24 rfl rfl (by omega) (by omega) rfl ?_)
   refine O_v rfl (R_loadA (cs := [[(.int .i64 ((nth o.over k).T))], [(.int .i64 ((nth o.over k).R))]]) Try.isAgg24 Try.sizeOf24 rfl rfl ((Sl.elem (H73.sl 0 rfl) (i := k) (by omega) rfl).chunks 0 2 0 (o.oh.o + k * 2) _ rfl rfl rfl) ?_)
   refine O_v rfl (C_alloc H73 [[(.int .i64 0)], [(.int .i64 0)]] Try.zeroValue24 ?_)
   intro b75 w76 hb77 hx78 H79
   refine O_v rfl (R_assign (v := (.int .i64 ((k : Nat) : Int))) rfl ?_)
   refine O_u (C_storeA H79 0 rfl 0 (sub := [[(.int .i64 ((nth o.over k).T))], [(.int .i64 ((nth o.over k).R))]]) [[(.int .i64 ((nth o.over k).T))], [(.int .i64 ((nth o.over k).R))]] Try.sizeOf24 rfl rfl rfl rfl ⟨[[(.int .i64 0)], [(.int .i64 0)]], [], rfl, rfl, rfl⟩ rfl ?_)
   intro w80 hg81 H82
   refine O_nil (Then_n (W_seq ?_))
   refine W_rgd TryMixed [(0, .q false), (1, .q false), (2, .q false), (3, .q false), (4, .q false), (5, .q false), (6, .q false), (7, .q false), (8, .q false), (9, .q false), (10, .q false), (11, .q false), (12, .q false), (13, .q false), (14, .q false), (15, .q false), (16, .q false), (17, .q false), (18, .q false), (19, .q false), (20, .q false), (21, .q false), (22, .q false), (23, .q false), (24, .q false)] (by kernel_rfl) ?_
   refine Lx_q (i := 0) rfl rfl _ (fun v83 hv84 => R_loadA (cs := [[(.int .i64 ((nth o.over k).T))], [(.int .i64 ((nth o.over k).R))]]) Try.isAgg24 Try.sizeOf24 rfl rfl ((boxR_at ((H82.ext hv84).getOwn 0 rfl)).chunks 0 2 0 0 _ rfl rfl rfl) ⟨rfl, Gr.refl _ _⟩) ?_
   refine Lx_q (i := 1) rfl rfl (.bool (stRight (nth o.over k))) (fun v85 hv86 => R_callL (vs := [(aggOf (stampCh (nth o.over k)))]) stamp_edit_c35 rfl rfl (stamp_Right (nth o.over k) v85 )) ?_
   refine Lx_q (i := 2) rfl rfl _ (fun v87 hv88 => R_not rfl ⟨rfl, Gr.refl _ _⟩) ?_
   refine Lx_q (i := 3) rfl rfl _ (fun v89 hv90 => R_move (v := (.bool (!(stRight (nth o.over k))))) rfl ⟨rfl, Gr.refl _ _⟩) ?_
   refine Lx_qg (i := 4) true (!(stRight (nth o.over k))) rfl rfl rfl rfl rfl (!(!(stRight (nth o.over k)))) ga_f _ (fun hA v91 hv92 => R_loadA (cs := [[(.int .i64 ((nth o.over k).T))], [(.int .i64 ((nth o.over k).R))]]) Try.isAgg24 Try.sizeOf24 rfl rfl ((boxR_at ((H82.ext hv92).getOwn 0 rfl)).chunks 0 2 0 0 _ rfl rfl rfl) ⟨rfl, Gr.refl _ _⟩) ?_
   refine Lx_qg (i := 5) true (!(stRight (nth o.over k))) rfl rfl rfl rfl rfl (!(!(stRight (nth o.over k)))) ga_f _ (fun hA v93 hv94 => R_fieldAddr (off := 1) (oo := 1) Try.underlying39 rfl rfl Try.sizeOf24 rfl rfl ⟨rfl, Gr.refl _ _⟩) ?_
   refine Lx_qg (i := 6) true (!(stRight (nth o.over k))) rfl rfl rfl rfl rfl (!(!(stRight (nth o.over k)))) ga_f _ (fun hA v95 hv96 => R_loadA (cs := [[(.int .i64 o.tm.T)], [(.int .i64 o.tm.R)]]) Try.isAgg24 Try.sizeOf24 rfl (gv_t hA) ((boxR_at ((H82.ext hv96).getOwn 1 rfl)).chunks 1 2 1 1 _ rfl rfl rfl) ⟨rfl, Gr.refl _ _⟩) ?_
   refine Lx_qg (i := 7) true (!(stRight (nth o.over k))) rfl rfl rfl rfl rfl (!(!(stRight (nth o.over k)))) ga_f (.int .i64 (cmpSt (nth o.over k) o.tm)) (fun hA v97 hv98 => R_callL (vs := [(aggOf (stampCh (nth o.over k))), (aggOf (stampCh o.tm))]) stamp_edit_c47 rfl (lst2 (gv_t hA) (gv_t hA)) (stamp_Cmp (nth o.over k) o.tm v97 )) ?_
   refine Lx_qg (i := 8) true (!(stRight (nth o.over k))) rfl rfl rfl rfl rfl (!(!(stRight (nth o.over k)))) ga_f _ (fun hA v99 hv100 => R_cmp (a := cmpSt (nth o.over k) o.tm) (b := 0) (r := (decide (0 ≤ cmpSt (nth o.over k) o.tm))) (gv_t hA) rfl rfl ⟨rfl, Gr.refl _ _⟩) ?_
   refine Lx_q (i := 9) rfl rfl _ (fun v101 hv102 => R_pick (t := (!(stRight (nth o.over k)))) (v := (.bool ((!(stRight (nth o.over k))) || (decide (0 ≤ cmpSt (nth o.over k) o.tm))))) rfl pk_or ⟨rfl, Gr.refl _ _⟩) ?_
   refine Lx_q (i := 10) rfl rfl _ (fun v103 hv104 => R_move (v := (.bool ((!(stRight (nth o.over k))) || (decide (0 ≤ cmpSt (nth o.over k) o.tm))))) rfl ⟨rfl, Gr.refl _ _⟩) ?_
   refine Lx_qg (i := 11) true ((!(stRight (nth o.over k))) || (decide (0 ≤ cmpSt (nth o.over k) o.tm))) rfl rfl rfl rfl rfl (!((!(stRight (nth o.over k))) || (decide (0 ≤ cmpSt (nth o.over k) o.tm)))) ga_f _ (fun hA v105 hv106 => R_move (v := (.int .i64 ((k : Nat) : Int))) rfl ⟨rfl, Gr.refl _ _⟩) ?_
   refine Lx_qg (i := 12) true ((!(stRight (nth o.over k))) || (decide (0 ≤ cmpSt (nth o.over k) o.tm))) rfl rfl rfl rfl rfl (!((!(stRight (nth o.over k))) || (decide (0 ≤ cmpSt (nth o.over k) o.tm)))) ga_f _ (fun hA v107 hv108 => R_cmp (a := ((k : Nat) : Int)) (b := 0) (r := (decide (0 < ((k : Nat) : Int)))) (gv_t hA) rfl rfl ⟨rfl, Gr.refl _ _⟩) ?_
   refine Lx_qg (i := 13) true ((!(stRight (nth o.over k))) || (decide (0 ≤ cmpSt (nth o.over k) o.tm))) rfl rfl rfl rfl rfl (!((!(stRight (nth o.over k))) || (decide (0 ≤ cmpSt (nth o.over k) o.tm)))) ga_f _ (fun hA v109 hv110 => R_move (v := (.bool (decide (0 < ((k : Nat) : Int))))) (gv_t hA) ⟨rfl, Gr.refl _ _⟩) ?_
   refine Lx_qg (i := 14) (!((!(stRight (nth o.over k))) || (decide (0 ≤ cmpSt (nth o.over k) o.tm)))) (decide (0 < ((k : Nat) : Int))) rfl rfl rfl rfl rfl ((!((!(stRight (nth o.over k))) || (decide (0 ≤ cmpSt (nth o.over k) o.tm)))) && (decide (0 < ((k : Nat) : Int)))) gb_t _ (fun hA v111 hv112 => R_fieldAddr (off := 40) (oo := 40) Try.underlying39 rfl rfl Try.sizeOf37 rfl rfl ⟨rfl, Gr.refl _ _⟩) ?_
   refine Lx_qg (i := 15) (!((!(stRight (nth o.over k))) || (decide (0 ≤ cmpSt (nth o.over k) o.tm)))) (decide (0 < ((k : Nat) : Int))) rfl rfl rfl rfl rfl ((!((!(stRight (nth o.over k))) || (decide (0 ≤ cmpSt (nth o.over k) o.tm)))) && (decide (0 < ((k : Nat) : Int)))) gb_t _ (fun hA v113 hv114 => R_load1 (v := (slV o.oh o.over)) Try.isAgg37 (gv_t hA) ((boxR_at ((H82.ext hv114).getOwn 1 rfl)).chunks 9 1 40 40 _ rfl rfl rfl) ⟨rfl, Gr.refl _ _⟩) ?_
   refine Lx_qg (i := 16) (!((!(stRight (nth o.over k))) || (decide (0 ≤ cmpSt (nth o.over k) o.tm)))) (decide (0 < ((k : Nat) : Int))) rfl rfl rfl rfl rfl ((!((!(stRight (nth o.over k))) || (decide (0 ≤ cmpSt (nth o.over k) o.tm)))) && (decide (0 < ((k : Nat) : Int)))) gb_t _ (fun hA v115 hv116 => R_move (v := (.int .i64 ((k : Nat) : Int))) rfl ⟨rfl, Gr.refl _ _⟩) ?_
   refine Lx_qg (i := 17) (!((!(stRight (nth o.over k))) || (decide (0 ≤ cmpSt (nth o.over k) o.tm)))) (decide (0 < ((k : Nat) : Int))) rfl rfl rfl rfl rfl ((!((!(stRight (nth o.over k))) || (decide (0 ≤ cmpSt (nth o.over k) o.tm)))) && (decide (0 < ((k : Nat) : Int)))) gb_t _ (fun hA v117 hv118 => by
          have hP : (((stRight (nth o.over k)) = true ∧ ¬ (0 ≤ cmpSt (nth o.over k) o.tm)) ∧ (0 < ((k : Nat) : Int))) := (And.imp (fun h => (And.imp (fun h => (notF h)) (fun h => (of_decide_eq_false h)) (orF (notT h)))) (fun h => (of_decide_eq_true h)) (andT hA))
          exact R_arith (a := ((k : Nat) : Int)) (b := 1) (r0 := ((k : Nat) : Int) - 1) (r := ((k - 1 : Nat) : Int)) (gv_t hA) rfl rfl (wrapP _ (by omega) (by omega)) ⟨rfl, Gr.refl _ _⟩) ?_
   refine Lx_qg (i := 18) (!((!(stRight (nth o.over k))) || (decide (0 ≤ cmpSt (nth o.over k) o.tm)))) (decide (0 < ((k : Nat) : Int))) rfl rfl rfl rfl rfl ((!((!(stRight (nth o.over k))) || (decide (0 ≤ cmpSt (nth o.over k) o.tm)))) && (decide (0 < ((k : Nat) : Int)))) gb_t _ (fun hA v119 hv120 => by
          have hP : (((stRight (nth o.over k)) = true ∧ ¬ (0 ≤ cmpSt (nth o.over k) o.tm)) ∧ (0 < ((k : Nat) : Int))) := (And.imp (fun h => (And.imp (fun h => (notF h)) (fun h => (of_decide_eq_false h)) (orF (notT h)))) (fun h => (of_decide_eq_true h)) (andT hA))
          exact R_index_pure (H82.sl 0 rfl) (n := o.over.length) rfl (j := ((k - 1 : Nat) : Int)) (oo := (o.oh.o + (k - 1) * 2)) Try.underlying37 Try.sizeOf24 (gv_t hA) (gv_t hA) (by omega) (by omega) rfl ⟨rfl, Gr.refl _ _⟩) ?_
   refine Lx_qg (i := 19) (!((!(stRight (nth o.over k))) || (decide (0 ≤ cmpSt (nth o.over k) o.tm)))) (decide (0 < ((k : Nat) : Int))) rfl rfl rfl rfl rfl ((!((!(stRight (nth o.over k))) || (decide (0 ≤ cmpSt (nth o.over k) o.tm)))) && (decide (0 < ((k : Nat) : Int)))) gb_t _ (fun hA v121 hv122 => by
          have hP : (((stRight (nth o.over k)) = true ∧ ¬ (0 ≤ cmpSt (nth o.over k) o.tm)) ∧ (0 < ((k : Nat) : Int))) := (And.imp (fun h => (And.imp (fun h => (notF h)) (fun h => (of_decide_eq_false h)) (orF (notT h)))) (fun h => (of_decide_eq_true h)) (andT hA))
          exact R_loadA (cs := [[(.int .i64 ((nth o.over (k - 1)).T))], [(.int .i64 ((nth o.over (k - 1)).R))]]) Try.isAgg24 Try.sizeOf24 rfl (gv_t hA) ((Sl.elem ((H82.ext hv122).sl 0 rfl) (i := (k - 1)) (by omega) rfl).chunks 0 2 0 (o.oh.o + (k - 1) * 2) _ rfl rfl rfl) ⟨rfl, Gr.refl _ _⟩) ?_
   refine Lx_qg (i := 20) (!((!(stRight (nth o.over k))) || (decide (0 ≤ cmpSt (nth o.over k) o.tm)))) (decide (0 < ((k : Nat) : Int))) rfl rfl rfl rfl rfl ((!((!(stRight (nth o.over k))) || (decide (0 ≤ cmpSt (nth o.over k) o.tm)))) && (decide (0 < ((k : Nat) : Int)))) gb_t _ (fun hA v123 hv124 => R_loadA (cs := [[(.int .i64 ((nth o.over k).T))], [(.int .i64 ((nth o.over k).R))]]) Try.isAgg24 Try.sizeOf24 rfl rfl ((boxR_at ((H82.ext hv124).getOwn 0 rfl)).chunks 0 2 0 0 _ rfl rfl rfl) ⟨rfl, Gr.refl _ _⟩) ?_
   refine Lx_qg (i := 21) (!((!(stRight (nth o.over k))) || (decide (0 ≤ cmpSt (nth o.over k) o.tm)))) (decide (0 < ((k : Nat) : Int))) rfl rfl rfl rfl rfl ((!((!(stRight (nth o.over k))) || (decide (0 ≤ cmpSt (nth o.over k) o.tm)))) && (decide (0 < ((k : Nat) : Int)))) gb_t (.int .i64 (cmpSt (nth o.over (k - 1)) (nth o.over k))) (fun hA v125 hv126 => R_callL (vs := [(aggOf (stampCh (nth o.over (k - 1)))), (aggOf (stampCh (nth o.over k)))]) stamp_edit_c47 rfl (lst2 (gv_t hA) (gv_t hA)) (stamp_Cmp (nth o.over (k - 1)) (nth o.over k) v125 )) ?_
   refine Lx_qg (i := 22) (!((!(stRight (nth o.over k))) || (decide (0 ≤ cmpSt (nth o.over k) o.tm)))) (decide (0 < ((k : Nat) : Int))) rfl rfl rfl rfl rfl ((!((!(stRight (nth o.over k))) || (decide (0 ≤ cmpSt (nth o.over k) o.tm)))) && (decide (0 < ((k : Nat) : Int)))) gb_t _ (fun hA v127 hv128 => R_cmp (a := cmpSt (nth o.over (k - 1)) (nth o.over k)) (b := 0) (r := (decide (0 ≤ cmpSt (nth o.over (k - 1)) (nth o.over k)))) (gv_t hA) rfl rfl ⟨rfl, Gr.refl _ _⟩) ?_
   refine Lx_qg (i := 23) true ((!(stRight (nth o.over k))) || (decide (0 ≤ cmpSt (nth o.over k) o.tm))) rfl rfl rfl rfl rfl (!((!(stRight (nth o.over k))) || (decide (0 ≤ cmpSt (nth o.over k) o.tm)))) ga_f _ (fun hA v129 hv130 => R_pick (t := (decide (0 < ((k : Nat) : Int)))) (v := (.bool ((decide (0 < ((k : Nat) : Int))) && (decide (0 ≤ cmpSt (nth o.over (k - 1)) (nth o.over k)))))) (gv_t hA) (pk_andA hA) ⟨rfl, Gr.refl _ _⟩) ?_
   refine Lx_q (i := 24) rfl rfl _ (fun v131 hv132 => R_pick (t := ((!(stRight (nth o.over k))) || (decide (0 ≤ cmpSt (nth o.over k) o.tm)))) (v := (.bool (((!(stRight (nth o.over k))) || (decide (0 ≤ cmpSt (nth o.over k) o.tm))) || ((decide (0 < ((k : Nat) : Int))) && (decide (0 ≤ cmpSt (nth o.over (k - 1)) (nth o.over k))))))) rfl pk_or ⟨rfl, Gr.refl _ _⟩) ?_
   refine Lx_nil (fun w133 hw134 => ?_)
   have H135 := H82.ext hw134
   refine Then_n ?_
   refine W_cond (t := (((!(stRight (nth o.over k))) || (decide (0 ≤ cmpSt (nth o.over k) o.tm))) || ((decide (0 < ((k : Nat) : Int))) && (decide (0 ≤ cmpSt (nth o.over (k - 1)) (nth o.over k)))))) rfl (fun hc136 => ?_) (fun hc136 => ?_)
   ·have hc136 : (((stRight (nth o.over k)) = false ∨ (0 ≤ cmpSt (nth o.over k) o.tm)) ∨ ((0 < ((k : Nat) : Int)) ∧ (0 ≤ cmpSt (nth o.over (k - 1)) (nth o.over k)))) := (Or.imp (fun h => (Or.imp (fun h => (notT h)) (fun h => (of_decide_eq_true h)) (orT h))) (fun h => (And.imp (fun h => (of_decide_eq_true h)) (fun h => (of_decide_eq_true h)) (andT h))) (orT hc136))
    refine W_seq (W_reg ?_)
    refine O_v rfl (R_assign (v := (.bool false)) rfl ?_)
    refine O_nil (Then_n (W_ret (Blk_r (Then_r (Then_r (Blk_r (Then_r ?_)))))))
    refine ret_1 (v := (.bool false)) Try.results76 rfl ?_
    exact ⟨(editOk_f2 (k := k) (by omega) (by assumption)), H135.gr⟩
   ·have hc136 : (((stRight (nth o.over k)) = true ∧ ¬ (0 ≤ cmpSt (nth o.over k) o.tm)) ∧ (¬ (0 < ((k : Nat) : Int)) ∨ ¬ (0 ≤ cmpSt (nth o.over (k - 1)) (nth o.over k)))) := (And.imp (fun h => (And.imp (fun h => (notF h)) (fun h => (of_decide_eq_false h)) (orF h))) (fun h => (Or.imp (fun h => (of_decide_eq_false h)) (fun h => (of_decide_eq_false h)) (andF h))) (orF hc136))
    refine W_skip (Blk_n (Then_n (W_reg ?_)))
    refine O_v rfl (R_arith (a := ((k : Nat) : Int)) (b := 1) (r0 := ((k : Nat) : Int) + 1) (r := ((k + 1 : Nat) : Int)) rfl rfl rfl (wrapN _ (by omega)) ?_)
    refine O_v rfl (R_move (v := (.int .i64 ((k + 1 : Nat) : Int))) rfl ?_)
    refine O_nil (Then_n ?_)
    have H137 := H135.sub (B' := [boxR b2 39 [[(.int .i64 o.kind)], [(.int .i64 o.tm.T)], [(.int .i64 o.tm.R)], [(.int .i64 o.node.T)], [(.int .i64 o.node.R)], [(.int .i64 o.par.T)], [(.int .i64 o.par.R)], [(.string o.name)], (idCells o.data), [(slV o.oh o.over)]]]) (I' := [slI (Old w) stampCh 2 o.oh o.over]) (List.Sublist.cons _ (List.Sublist.cons_cons _ List.Sublist.slnil)) (List.forall_mem_cons.2 ⟨List.mem_of_getElem? (i := 0) rfl, fun _ h => (nomatch h)⟩)
    refine ⟨_, ?_, (k + 1), rfl, (by omega), (all_succ hn (overAt_t (by assumption))), _, envL_self ⟨rfl, rfl, rfl, rfl, trivial⟩, H137⟩
    omega
  ·have hc74 : ¬ (((k : Nat) : Int) < ((o.over.length : Nat) : Int)) := (of_decide_eq_false hc74)
   refine W_exit (Then_x (Then_x (Blk_x (Then_n (W_seq (W_reg ?_))))))
   refine O_v rfl (R_assign (v := (.bool true)) rfl ?_)
   refine O_nil (Then_n (W_ret ?_))
   refine ret_1 (v := (.bool true)) Try.results76 rfl ?_
   exact ⟨(editOk_t (by assumption) (by rwa [show o.over.length = k from by omega])), H73.gr⟩

end Go.Proofs.Ytiknfldhommmpaa
namespace Go.Proofs.Ytiknfldhommmpaa
open Go
set_option maxRecDepth 100000
set_option linter.unusedVariables false
set_option linter.unusedSimpArgs false
def laysC : Go.Shelf.Ren := ⟨fun | 153 => 91 | 152 => 92 | 226 => 93 | 227 => 94 | 228 => 95 | 137 => 96 | 119 => 97 | 224 => 98 | 225 => 99 | 217 => 100 | 266 => 101 | n => n, fun | 0 => 0 | 3 => 3 | 4 => 4 | 5 => 5 | 9 => 9 | 21 => 21 | 46 => 121 | 116 => 129 | 117 => 130 | 124 => 136 | n => n, fun | n => n⟩
theorem laysC153 : Go.Proofs.Lays.n153 Try.prog laysC := {
  mixed := by kernel_rfl
  f119 := Try.func97.trans (congrArg some (by kernel_rfl))
  f137 := Try.func96.trans (congrArg some (by kernel_rfl))
  f152 := Try.func92.trans (congrArg some (by kernel_rfl))
  f153 := Try.func91.trans (congrArg some (by kernel_rfl))
  f217 := Try.func100.trans (congrArg some (by kernel_rfl))
  f224 := Try.func98.trans (congrArg some (by kernel_rfl))
  f225 := Try.func99.trans (congrArg some (by kernel_rfl))
  f226 := Try.func93.trans (congrArg some (by kernel_rfl))
  f227 := Try.func94.trans (congrArg some (by kernel_rfl))
  f228 := Try.func95.trans (congrArg some (by kernel_rfl))
  f266 := Try.func101.trans (congrArg some (by kernel_rfl))
  t0 := Try.underlying0
  a0 := Try.isAgg0
  z0 := Try.sizeOf0
  v0 := Try.zeroValue0
  t3 := Try.underlying3
  a3 := Try.isAgg3
  z3 := Try.sizeOf3
  v3 := Try.zeroValue3
  t4 := Try.underlying4
  a4 := Try.isAgg4
  z4 := Try.sizeOf4
  v4 := Try.zeroValue4
  t5 := Try.underlying5
  a5 := Try.isAgg5
  z5 := Try.sizeOf5
  v5 := Try.zeroValue5
  t9 := Try.underlying9
  a9 := Try.isAgg9
  z9 := Try.sizeOf9
  v9 := Try.zeroValue9
  t21 := Try.underlying21
  a21 := Try.isAgg21
  z21 := Try.sizeOf21
  v21 := Try.zeroValue21
  t46 := Try.underlying121
  a46 := Try.isAgg121
  z46 := Try.sizeOf121
  v46 := Try.zeroValue121
  t116 := Try.underlying129
  a116 := Try.isAgg129
  z116 := Try.sizeOf129
  t117 := Try.underlying130
  a117 := Try.isAgg130
  z117 := Try.sizeOf130
  v117 := Try.zeroValue130
  t124 := Try.underlying136
  a124 := Try.isAgg136
  z124 := Try.sizeOf136
  v124 := Try.zeroValue136 }
theorem laysC116 : (Try.prog.info? (laysC.t 116)).map (fun i => (i.zero, i.size)) = some (some (.agg (Array.replicate 256 (.bool false))), 256) := by kernel_rfl

/-- strings.IndexAny at a few ASCII bytes, of a text that is long, or ASCII too. -/
theorem strings_IndexAny (s chars : ByteArray) (w : World) (h2 : 2 ≤ chars.size) (hcs : chars.size < 4294967281) (hs : s.size < 4294967281) (hac : ∀ (j : Nat) b, chars.data.toList[j]? = some b → b.toNat < 128) (hAs : asciiOr s) :
    Calls Try.prog 91 #[.string s, .string chars] w (Ret fun v w' => v = .int .i64 (Lib.indexAny s.data.toList chars.data.toList) ∧ Ext w w') := by
  rcases hAs with h8 | hA
  · refine (Any.strings_IndexAny_long laysC153 (zero_of_info laysC116).1 (zero_of_info laysC116).2 s chars w h2 h8 hs hcs hac).mono ?_
    rintro e w' ⟨rfl, hw⟩
    refine ⟨_, rfl, rfl, Ext.below ?_⟩
    rw [hw]
    exact ((RowKit.Below.refl _ _).alloc (Nat.le_refl _) _).alloc (by simp) _
  · refine (Any.strings_IndexAny_laid laysC153 laysC116 s chars w hs hcs (fun j b hb => ?_) hac).mono ?_
    · have hj : j < s.size := by rw [← size_data' s]; exact (List.getElem?_eq_some_iff.1 hb).1
      have := hA j hj
      rw [sbyte_eq hj] at this
      have e : s.data.toList[j]? = some s[j] := by
        rw [List.getElem?_eq_getElem (by rw [size_data' s]; exact hj)]; rfl
      rw [e] at hb
      rw [← Option.some.inj hb]; exact this
    · rintro e w' ⟨rfl, hw⟩
      exact ⟨_, rfl, rfl, Ext.below hw⟩

end Go.Proofs.Ytiknfldhommmpaa
namespace Go.Proofs.Ytiknfldhommmpaa
open Go
set_option maxRecDepth 100000
set_option linter.unusedVariables false
set_option linter.unusedSimpArgs false
theorem strings_ContainsAny_c91 : callable Try.prog 91 = true := by kernel_rfl
set_option maxHeartbeats 1000000 in
theorem strings_ContainsAny (s : ByteArray) (chars : ByteArray) (w : World) (h2 : 2 ≤ chars.size) (hcs : chars.size < 4294967281) (hs : s.size < 4294967281) (hac : ∀ (j : Nat) b, chars.data.toList[j]? = some b → b.toNat < 128) (hAs : asciiOr s) :
    Calls Try.prog 90 #[(.string s), (.string chars)] w (Ret fun v w' => v = (.bool (Lib.containsAny s.data.toList chars.data.toList)) ∧ Ext w w') := by
 refine calls_W Try.func90 rfl Try.ntmps90 rfl ?_
 have H0 := Ctx.start w nob
 refine W_seq (W_reg ?_)
 refine O_v rfl (R_assign (v := (.bool false)) rfl ?_)
 refine O_nil (Then_n (W_seq (W_reg ?_)))
 refine O_v rfl (R_move (v := (.string s)) rfl ?_)
 refine O_v rfl (R_move (v := (.string chars)) rfl ?_)
 refine O_v rfl (R_callL (vs := [(.string s), (.string chars)]) strings_ContainsAny_c91 rfl rfl ((strings_IndexAny s chars w h2 hcs hs hac hAs).ret ?_))
 rintro _ w1 ⟨rfl, hx2⟩
 have H3 := H0.ext hx2
 refine O_v rfl (R_cmp (a := Lib.indexAny s.data.toList chars.data.toList) (b := 0) (r := (decide (0 ≤ Lib.indexAny s.data.toList chars.data.toList))) rfl rfl rfl ?_)
 refine O_v rfl (R_assign (v := (.bool (decide (0 ≤ Lib.indexAny s.data.toList chars.data.toList)))) rfl ?_)
 refine O_nil (Then_n (W_ret ?_))
 refine ret_1 (v := (.bool (decide (0 ≤ Lib.indexAny s.data.toList chars.data.toList)))) Try.results90 rfl ?_
 exact ⟨rfl, H3.gr⟩

end Go.Proofs.Ytiknfldhommmpaa
namespace Go.Proofs.Ytiknfldhommmpaa
open Go
set_option maxRecDepth 100000
set_option linter.unusedVariables false
set_option linter.unusedSimpArgs false
theorem stamp_Name_c90 : callable Try.prog 90 = true := by kernel_rfl
set_option maxHeartbeats 1000000 in
theorem stamp_Name (s : ByteArray) (w : World) (hAs : asciiOr s) :
    Calls Try.prog 85 #[(.string s)] w (Ret fun v w' => v = (.bool (nameOk s)) ∧ Ext w w') := by
 refine calls_W Try.func85 rfl Try.ntmps85 rfl ?_
 have H0 := Ctx.start w nob
 refine W_seq (W_reg ?_)
 refine O_v rfl (R_assign (v := (.bool false)) rfl ?_)
 refine O_nil (Then_n (W_seq ?_))
 refine W_rg [(0, .q false), (1, .q false), (2, .q false), (3, .q false), (4, .q false), (5, .q false), (6, .q false), (7, .q false), (8, .q false), (9, .q false), (10, .q false), (11, .q false), (12, .q false), (13, .q false), (14, .q false), (15, .q false), (16, .q false), (17, .q false), (18, .q false), (19, .q false), (20, .q false), (21, .q false)] (by kernel_rfl) ?_
 refine Lx_q (i := 0) rfl rfl _ (fun v1 hv2 => R_move (v := (.string s)) rfl ⟨rfl, Gr.refl _ _⟩) ?_
 refine Lx_q (i := 1) rfl rfl _ (fun v3 hv4 => R_len_string Try.underlying9 rfl ⟨rfl, Gr.refl _ _⟩) ?_
 refine Lx_q (i := 2) rfl rfl _ (fun v5 hv6 => R_cmp (a := ((s.size : Nat) : Int)) (b := 1) (r := (decide (1 ≤ ((s.size : Nat) : Int)))) rfl rfl rfl ⟨rfl, Gr.refl _ _⟩) ?_
 refine Lx_q (i := 3) rfl rfl _ (fun v7 hv8 => R_move (v := (.bool (decide (1 ≤ ((s.size : Nat) : Int))))) rfl ⟨rfl, Gr.refl _ _⟩) ?_
 refine Lx_qg (i := 4) true (decide (1 ≤ ((s.size : Nat) : Int))) rfl rfl rfl rfl rfl (decide (1 ≤ ((s.size : Nat) : Int))) ga_t _ (fun hA v9 hv10 => R_move (v := (.string s)) rfl ⟨rfl, Gr.refl _ _⟩) ?_
 refine Lx_qg (i := 5) true (decide (1 ≤ ((s.size : Nat) : Int))) rfl rfl rfl rfl rfl (decide (1 ≤ ((s.size : Nat) : Int))) ga_t _ (fun hA v11 hv12 => R_len_string Try.underlying9 (gv_t hA) ⟨rfl, Gr.refl _ _⟩) ?_
 refine Lx_qg (i := 6) true (decide (1 ≤ ((s.size : Nat) : Int))) rfl rfl rfl rfl rfl (decide (1 ≤ ((s.size : Nat) : Int))) ga_t _ (fun hA v13 hv14 => R_cmp (a := ((s.size : Nat) : Int)) (b := 60) (r := (decide (((s.size : Nat) : Int) ≤ 60))) (gv_t hA) rfl rfl ⟨rfl, Gr.refl _ _⟩) ?_
 refine Lx_q (i := 7) rfl rfl _ (fun v15 hv16 => R_pick (t := (decide (1 ≤ ((s.size : Nat) : Int)))) (v := (.bool ((decide (1 ≤ ((s.size : Nat) : Int))) && (decide (((s.size : Nat) : Int) ≤ 60))))) rfl pk_and ⟨rfl, Gr.refl _ _⟩) ?_
 refine Lx_q (i := 8) rfl rfl _ (fun v17 hv18 => R_move (v := (.bool ((decide (1 ≤ ((s.size : Nat) : Int))) && (decide (((s.size : Nat) : Int) ≤ 60))))) rfl ⟨rfl, Gr.refl _ _⟩) ?_
 refine Lx_qg (i := 9) true ((decide (1 ≤ ((s.size : Nat) : Int))) && (decide (((s.size : Nat) : Int) ≤ 60))) rfl rfl rfl rfl rfl ((decide (1 ≤ ((s.size : Nat) : Int))) && (decide (((s.size : Nat) : Int) ≤ 60))) ga_t _ (fun hA v19 hv20 => R_move (v := (.string s)) rfl ⟨rfl, Gr.refl _ _⟩) ?_
 refine Lx_qg (i := 10) true ((decide (1 ≤ ((s.size : Nat) : Int))) && (decide (((s.size : Nat) : Int) ≤ 60))) rfl rfl rfl rfl rfl ((decide (1 ≤ ((s.size : Nat) : Int))) && (decide (((s.size : Nat) : Int) ≤ 60))) ga_t _ (fun hA v21 hv22 => R_cmpS (a := s) (b := (⟨#[46]⟩ : ByteArray)) (r := (!(decide (s = (⟨#[46]⟩ : ByteArray))))) (gv_t hA) rfl rfl ⟨rfl, Gr.refl _ _⟩) ?_
 refine Lx_q (i := 11) rfl rfl _ (fun v23 hv24 => R_pick (t := ((decide (1 ≤ ((s.size : Nat) : Int))) && (decide (((s.size : Nat) : Int) ≤ 60)))) (v := (.bool (((decide (1 ≤ ((s.size : Nat) : Int))) && (decide (((s.size : Nat) : Int) ≤ 60))) && (!(decide (s = (⟨#[46]⟩ : ByteArray))))))) rfl pk_and ⟨rfl, Gr.refl _ _⟩) ?_
 refine Lx_q (i := 12) rfl rfl _ (fun v25 hv26 => R_move (v := (.bool (((decide (1 ≤ ((s.size : Nat) : Int))) && (decide (((s.size : Nat) : Int) ≤ 60))) && (!(decide (s = (⟨#[46]⟩ : ByteArray))))))) rfl ⟨rfl, Gr.refl _ _⟩) ?_
 refine Lx_qg (i := 13) true (((decide (1 ≤ ((s.size : Nat) : Int))) && (decide (((s.size : Nat) : Int) ≤ 60))) && (!(decide (s = (⟨#[46]⟩ : ByteArray))))) rfl rfl rfl rfl rfl (((decide (1 ≤ ((s.size : Nat) : Int))) && (decide (((s.size : Nat) : Int) ≤ 60))) && (!(decide (s = (⟨#[46]⟩ : ByteArray))))) ga_t _ (fun hA v27 hv28 => R_move (v := (.string s)) rfl ⟨rfl, Gr.refl _ _⟩) ?_
 refine Lx_qg (i := 14) true (((decide (1 ≤ ((s.size : Nat) : Int))) && (decide (((s.size : Nat) : Int) ≤ 60))) && (!(decide (s = (⟨#[46]⟩ : ByteArray))))) rfl rfl rfl rfl rfl (((decide (1 ≤ ((s.size : Nat) : Int))) && (decide (((s.size : Nat) : Int) ≤ 60))) && (!(decide (s = (⟨#[46]⟩ : ByteArray))))) ga_t _ (fun hA v29 hv30 => R_cmpS (a := s) (b := (⟨#[46, 46]⟩ : ByteArray)) (r := (!(decide (s = (⟨#[46, 46]⟩ : ByteArray))))) (gv_t hA) rfl rfl ⟨rfl, Gr.refl _ _⟩) ?_
 refine Lx_q (i := 15) rfl rfl _ (fun v31 hv32 => R_pick (t := (((decide (1 ≤ ((s.size : Nat) : Int))) && (decide (((s.size : Nat) : Int) ≤ 60))) && (!(decide (s = (⟨#[46]⟩ : ByteArray)))))) (v := (.bool ((((decide (1 ≤ ((s.size : Nat) : Int))) && (decide (((s.size : Nat) : Int) ≤ 60))) && (!(decide (s = (⟨#[46]⟩ : ByteArray))))) && (!(decide (s = (⟨#[46, 46]⟩ : ByteArray))))))) rfl pk_and ⟨rfl, Gr.refl _ _⟩) ?_
 refine Lx_q (i := 16) rfl rfl _ (fun v33 hv34 => R_move (v := (.bool ((((decide (1 ≤ ((s.size : Nat) : Int))) && (decide (((s.size : Nat) : Int) ≤ 60))) && (!(decide (s = (⟨#[46]⟩ : ByteArray))))) && (!(decide (s = (⟨#[46, 46]⟩ : ByteArray))))))) rfl ⟨rfl, Gr.refl _ _⟩) ?_
 refine Lx_qg (i := 17) true ((((decide (1 ≤ ((s.size : Nat) : Int))) && (decide (((s.size : Nat) : Int) ≤ 60))) && (!(decide (s = (⟨#[46]⟩ : ByteArray))))) && (!(decide (s = (⟨#[46, 46]⟩ : ByteArray))))) rfl rfl rfl rfl rfl ((((decide (1 ≤ ((s.size : Nat) : Int))) && (decide (((s.size : Nat) : Int) ≤ 60))) && (!(decide (s = (⟨#[46]⟩ : ByteArray))))) && (!(decide (s = (⟨#[46, 46]⟩ : ByteArray))))) ga_t _ (fun hA v35 hv36 => R_move (v := (.string s)) rfl ⟨rfl, Gr.refl _ _⟩) ?_
 refine Lx_qg (i := 18) true ((((decide (1 ≤ ((s.size : Nat) : Int))) && (decide (((s.size : Nat) : Int) ≤ 60))) && (!(decide (s = (⟨#[46]⟩ : ByteArray))))) && (!(decide (s = (⟨#[46, 46]⟩ : ByteArray))))) rfl rfl rfl rfl rfl ((((decide (1 ≤ ((s.size : Nat) : Int))) && (decide (((s.size : Nat) : Int) ≤ 60))) && (!(decide (s = (⟨#[46]⟩ : ByteArray))))) && (!(decide (s = (⟨#[46, 46]⟩ : ByteArray))))) ga_t (.bool (Lib.containsAny s.data.toList (⟨#[0, 47, 10]⟩ : ByteArray).data.toList)) (fun hA v37 hv38 => by
      have hP : ((((1 ≤ ((s.size : Nat) : Int)) ∧ (((s.size : Nat) : Int) ≤ 60)) ∧ ¬ (s = (⟨#[46]⟩ : ByteArray))) ∧ ¬ (s = (⟨#[46, 46]⟩ : ByteArray))) := (And.imp (fun h => (And.imp (fun h => (And.imp (fun h => (of_decide_eq_true h)) (fun h => (of_decide_eq_true h)) (andT h))) (fun h => (of_decide_eq_false (notT h))) (andT h))) (fun h => (of_decide_eq_false (notT h))) (andT hA))
      exact R_callL (vs := [(.string s), (.string (⟨#[0, 47, 10]⟩ : ByteArray))]) stamp_Name_c90 rfl (lst2 (gv_t hA) rfl) (strings_ContainsAny s (⟨#[0, 47, 10]⟩ : ByteArray) v37 (by decide) (by decide) (by omega) bad_ascii hAs)) ?_
 refine Lx_qg (i := 19) true ((((decide (1 ≤ ((s.size : Nat) : Int))) && (decide (((s.size : Nat) : Int) ≤ 60))) && (!(decide (s = (⟨#[46]⟩ : ByteArray))))) && (!(decide (s = (⟨#[46, 46]⟩ : ByteArray))))) rfl rfl rfl rfl rfl ((((decide (1 ≤ ((s.size : Nat) : Int))) && (decide (((s.size : Nat) : Int) ≤ 60))) && (!(decide (s = (⟨#[46]⟩ : ByteArray))))) && (!(decide (s = (⟨#[46, 46]⟩ : ByteArray))))) ga_t _ (fun hA v39 hv40 => R_not (gv_t hA) ⟨rfl, Gr.refl _ _⟩) ?_
 refine Lx_q (i := 20) rfl rfl _ (fun v41 hv42 => R_pick (t := ((((decide (1 ≤ ((s.size : Nat) : Int))) && (decide (((s.size : Nat) : Int) ≤ 60))) && (!(decide (s = (⟨#[46]⟩ : ByteArray))))) && (!(decide (s = (⟨#[46, 46]⟩ : ByteArray)))))) (v := (.bool (((((decide (1 ≤ ((s.size : Nat) : Int))) && (decide (((s.size : Nat) : Int) ≤ 60))) && (!(decide (s = (⟨#[46]⟩ : ByteArray))))) && (!(decide (s = (⟨#[46, 46]⟩ : ByteArray))))) && (!(Lib.containsAny s.data.toList (⟨#[0, 47, 10]⟩ : ByteArray).data.toList))))) rfl pk_and ⟨rfl, Gr.refl _ _⟩) ?_
 refine Lx_q (i := 21) rfl rfl _ (fun v43 hv44 => R_assign (v := (.bool (((((decide (1 ≤ ((s.size : Nat) : Int))) && (decide (((s.size : Nat) : Int) ≤ 60))) && (!(decide (s = (⟨#[46]⟩ : ByteArray))))) && (!(decide (s = (⟨#[46, 46]⟩ : ByteArray))))) && (!(Lib.containsAny s.data.toList (⟨#[0, 47, 10]⟩ : ByteArray).data.toList))))) rfl ⟨rfl, Gr.refl _ _⟩) ?_
 refine Lx_nil (fun w45 hw46 => ?_)
 have H47 := H0.ext hw46
 refine Then_n (W_ret ?_)
 refine ret_1 (v := (.bool (((((decide (1 ≤ ((s.size : Nat) : Int))) && (decide (((s.size : Nat) : Int) ≤ 60))) && (!(decide (s = (⟨#[46]⟩ : ByteArray))))) && (!(decide (s = (⟨#[46, 46]⟩ : ByteArray))))) && (!(Lib.containsAny s.data.toList (⟨#[0, 47, 10]⟩ : ByteArray).data.toList))))) Try.results85 rfl ?_
 exact ⟨nameOk_any, H47.gr⟩

end Go.Proofs.Ytiknfldhommmpaa
namespace Go.Proofs.Ytiknfldhommmpaa
open Go
set_option maxRecDepth 100000
set_option linter.unusedVariables false
set_option linter.unusedSimpArgs false
set_option maxHeartbeats 1000000 in
theorem stamp_fixed (s : Stamp) (w : World) :
    Calls Try.prog 84 #[(aggOf (stampCh s))] w (Ret fun v w' => v = (.bool (fixedSt s)) ∧ Ext w w') := by
 refine calls_W Try.func84 rfl Try.ntmps84 rfl ?_
 have H0 := Ctx.start w nob
 refine W_seq (W_reg ?_)
 refine O_v rfl (C_box H0 [[(.int .i64 s.T)], [(.int .i64 s.R)]] rfl ?_)
 intro b1 w2 hb3 hx4 H5
 refine O_v rfl (R_assign (v := (.bool false)) rfl ?_)
 refine O_nil (Then_n (W_seq ?_))
 refine W_rg [(0, .q false), (1, .q false), (2, .q false), (3, .q false), (4, .q false), (5, .q false), (6, .q false), (7, .q false), (8, .q false), (9, .q false), (10, .q false), (11, .q false), (12, .q false), (13, .q false)] (by kernel_rfl) ?_
 refine Lx_q (i := 0) rfl rfl _ (fun v6 hv7 => R_fieldAddr (off := 0) (oo := 0) Try.underlying24 rfl rfl Try.sizeOf2 rfl rfl ⟨rfl, Gr.refl _ _⟩) ?_
 refine Lx_q (i := 1) rfl rfl _ (fun v8 hv9 => R_load1 (v := (.int .i64 s.T)) Try.isAgg2 rfl ((boxR_at ((H5.ext hv9).getOwn 0 rfl)).chunks 0 1 0 0 _ rfl rfl rfl) ⟨rfl, Gr.refl _ _⟩) ?_
 refine Lx_q (i := 2) rfl rfl _ (fun v10 hv11 => R_cmp (a := s.T) (b := 0) (r := (decide (s.T = 0))) rfl rfl rfl ⟨rfl, Gr.refl _ _⟩) ?_
 refine Lx_q (i := 3) rfl rfl _ (fun v12 hv13 => R_move (v := (.bool (decide (s.T = 0)))) rfl ⟨rfl, Gr.refl _ _⟩) ?_
 refine Lx_qg (i := 4) true (decide (s.T = 0)) rfl rfl rfl rfl rfl (decide (s.T = 0)) ga_t _ (fun hA v14 hv15 => R_fieldAddr (off := 1) (oo := 1) Try.underlying24 rfl rfl Try.sizeOf3 rfl rfl ⟨rfl, Gr.refl _ _⟩) ?_
 refine Lx_qg (i := 5) true (decide (s.T = 0)) rfl rfl rfl rfl rfl (decide (s.T = 0)) ga_t _ (fun hA v16 hv17 => R_load1 (v := (.int .i64 s.R)) Try.isAgg3 (gv_t hA) ((boxR_at ((H5.ext hv17).getOwn 0 rfl)).chunks 1 1 1 1 _ rfl rfl rfl) ⟨rfl, Gr.refl _ _⟩) ?_
 refine Lx_qg (i := 6) true (decide (s.T = 0)) rfl rfl rfl rfl rfl (decide (s.T = 0)) ga_t _ (fun hA v18 hv19 => R_cmp (a := s.R) (b := 0) (r := (decide (s.R = 0))) (gv_t hA) rfl rfl ⟨rfl, Gr.refl _ _⟩) ?_
 refine Lx_qg (i := 7) true (decide (s.T = 0)) rfl rfl rfl rfl rfl (decide (s.T = 0)) ga_t _ (fun hA v20 hv21 => R_move (v := (.bool (decide (s.R = 0)))) (gv_t hA) ⟨rfl, Gr.refl _ _⟩) ?_
 refine Lx_qg (i := 8) (decide (s.T = 0)) (decide (s.R = 0)) rfl rfl rfl rfl rfl ((decide (s.T = 0)) && (!(decide (s.R = 0)))) gb_f _ (fun hA v22 hv23 => R_fieldAddr (off := 1) (oo := 1) Try.underlying24 rfl rfl Try.sizeOf3 rfl rfl ⟨rfl, Gr.refl _ _⟩) ?_
 refine Lx_qg (i := 9) (decide (s.T = 0)) (decide (s.R = 0)) rfl rfl rfl rfl rfl ((decide (s.T = 0)) && (!(decide (s.R = 0)))) gb_f _ (fun hA v24 hv25 => R_load1 (v := (.int .i64 s.R)) Try.isAgg3 (gv_t hA) ((boxR_at ((H5.ext hv25).getOwn 0 rfl)).chunks 1 1 1 1 _ rfl rfl rfl) ⟨rfl, Gr.refl _ _⟩) ?_
 refine Lx_qg (i := 10) (decide (s.T = 0)) (decide (s.R = 0)) rfl rfl rfl rfl rfl ((decide (s.T = 0)) && (!(decide (s.R = 0)))) gb_f _ (fun hA v26 hv27 => R_cmp (a := s.R) (b := 1) (r := (decide (s.R = 1))) (gv_t hA) rfl rfl ⟨rfl, Gr.refl _ _⟩) ?_
 refine Lx_qg (i := 11) true (decide (s.T = 0)) rfl rfl rfl rfl rfl (decide (s.T = 0)) ga_t _ (fun hA v28 hv29 => R_pick (t := (decide (s.R = 0))) (v := (.bool ((decide (s.R = 0)) || (decide (s.R = 1))))) (gv_t hA) (pk_orA hA) ⟨rfl, Gr.refl _ _⟩) ?_
 refine Lx_q (i := 12) rfl rfl _ (fun v30 hv31 => R_pick (t := (decide (s.T = 0))) (v := (.bool ((decide (s.T = 0)) && ((decide (s.R = 0)) || (decide (s.R = 1)))))) rfl pk_and ⟨rfl, Gr.refl _ _⟩) ?_
 refine Lx_q (i := 13) rfl rfl _ (fun v32 hv33 => R_assign (v := (.bool ((decide (s.T = 0)) && ((decide (s.R = 0)) || (decide (s.R = 1)))))) rfl ⟨rfl, Gr.refl _ _⟩) ?_
 refine Lx_nil (fun w34 hw35 => ?_)
 have H36 := H5.ext hw35
 refine Then_n (W_ret ?_)
 refine ret_1 (v := (.bool ((decide (s.T = 0)) && ((decide (s.R = 0)) || (decide (s.R = 1)))))) Try.results84 rfl ?_
 exact ⟨(boolE (by simp only [Bool.and_eq_true, Bool.or_eq_true, decide_eq_true_eq])), H36.gr⟩

end Go.Proofs.Ytiknfldhommmpaa
namespace Go.Proofs.Ytiknfldhommmpaa
open Go
set_option maxRecDepth 100000
set_option linter.unusedVariables false
set_option linter.unusedSimpArgs false
theorem stamp_move_c35 : callable Try.prog 35 = true := by kernel_rfl
theorem stamp_move_c47 : callable Try.prog 47 = true := by kernel_rfl
theorem stamp_move_c84 : callable Try.prog 84 = true := by kernel_rfl
theorem stamp_move_c85 : callable Try.prog 85 = true := by kernel_rfl
set_option maxHeartbeats 1000000 in
theorem stamp_move (o : OpS) (w : World) (So_over : Sl (Old w) stampCh 2 o.oh o.over w) (hAs : asciiOr o.name) :
    Calls Try.prog 75 #[(aggOf (opCh o))] w (Ret fun v w' => v = (.bool (moveOk o)) ∧ Ext w w') := by
 refine calls_W Try.func75 rfl Try.ntmps75 rfl ?_
 have H0 := Ctx.start w nob
 have H1 := H0.addSl _ So_over (fun b hb => ⟨hb, fun _ ho => (nomatch ho)⟩)
 have LSo_over := So_over.len
 refine W_seq (W_reg ?_)
 refine O_v rfl (C_box H1 [[(.int .i64 o.kind)], [(.int .i64 o.tm.T)], [(.int .i64 o.tm.R)], [(.int .i64 o.node.T)], [(.int .i64 o.node.R)], [(.int .i64 o.par.T)], [(.int .i64 o.par.R)], [(.string o.name)], (idCells o.data), [(slV o.oh o.over)]] rfl ?_)
 intro b2 w3 hb4 hx5 H6
 refine O_v rfl (R_assign (v := (.bool false)) rfl ?_)
 refine O_nil (Then_n (W_seq ?_))
 refine W_rg [(0, .q false), (1, .q false), (2, .q false), (3, .q false), (4, .q false), (5, .q false), (6, .q false), (7, .q false), (8, .q false), (9, .q false), (10, .q false), (11, .q false), (12, .q false), (13, .q false), (14, .q false), (15, .q false), (16, .q false), (17, .q false), (18, .q false), (19, .q false), (20, .q false), (21, .q false), (22, .q false), (23, .q false), (24, .q false), (25, .q false), (26, .q false), (27, .q false), (28, .q false), (29, .q false), (30, .q false), (31, .q false), (32, .q false), (33, .q false)] (by kernel_rfl) ?_
 refine Lx_q (i := 0) rfl rfl _ (fun v7 hv8 => R_fieldAddr (off := 3) (oo := 3) Try.underlying39 rfl rfl Try.sizeOf24 rfl rfl ⟨rfl, Gr.refl _ _⟩) ?_
 refine Lx_q (i := 1) rfl rfl _ (fun v9 hv10 => R_loadA (cs := [[(.int .i64 o.node.T)], [(.int .i64 o.node.R)]]) Try.isAgg24 Try.sizeOf24 rfl rfl ((boxR_at ((H6.ext hv10).getOwn 0 rfl)).chunks 3 2 3 3 _ rfl rfl rfl) ⟨rfl, Gr.refl _ _⟩) ?_
 refine Lx_q (i := 2) rfl rfl _ (fun v11 hv12 => R_fieldAddr (off := 1) (oo := 1) Try.underlying39 rfl rfl Try.sizeOf24 rfl rfl ⟨rfl, Gr.refl _ _⟩) ?_
 refine Lx_q (i := 3) rfl rfl _ (fun v13 hv14 => R_loadA (cs := [[(.int .i64 o.tm.T)], [(.int .i64 o.tm.R)]]) Try.isAgg24 Try.sizeOf24 rfl rfl ((boxR_at ((H6.ext hv14).getOwn 0 rfl)).chunks 1 2 1 1 _ rfl rfl rfl) ⟨rfl, Gr.refl _ _⟩) ?_
 refine Lx_q (i := 4) rfl rfl (.int .i64 (cmpSt o.node o.tm)) (fun v15 hv16 => R_callL (vs := [(aggOf (stampCh o.node)), (aggOf (stampCh o.tm))]) stamp_move_c47 rfl rfl (stamp_Cmp o.node o.tm v15 )) ?_
 refine Lx_q (i := 5) rfl rfl _ (fun v17 hv18 => R_cmp (a := cmpSt o.node o.tm) (b := 0) (r := (decide (cmpSt o.node o.tm ≤ 0))) rfl rfl rfl ⟨rfl, Gr.refl _ _⟩) ?_
 refine Lx_q (i := 6) rfl rfl _ (fun v19 hv20 => R_move (v := (.bool (decide (cmpSt o.node o.tm ≤ 0)))) rfl ⟨rfl, Gr.refl _ _⟩) ?_
 refine Lx_qg (i := 7) true (decide (cmpSt o.node o.tm ≤ 0)) rfl rfl rfl rfl rfl (decide (cmpSt o.node o.tm ≤ 0)) ga_t _ (fun hA v21 hv22 => R_fieldAddr (off := 5) (oo := 5) Try.underlying39 rfl rfl Try.sizeOf24 rfl rfl ⟨rfl, Gr.refl _ _⟩) ?_
 refine Lx_qg (i := 8) true (decide (cmpSt o.node o.tm ≤ 0)) rfl rfl rfl rfl rfl (decide (cmpSt o.node o.tm ≤ 0)) ga_t _ (fun hA v23 hv24 => R_loadA (cs := [[(.int .i64 o.par.T)], [(.int .i64 o.par.R)]]) Try.isAgg24 Try.sizeOf24 rfl (gv_t hA) ((boxR_at ((H6.ext hv24).getOwn 0 rfl)).chunks 5 2 5 5 _ rfl rfl rfl) ⟨rfl, Gr.refl _ _⟩) ?_
 refine Lx_qg (i := 9) true (decide (cmpSt o.node o.tm ≤ 0)) rfl rfl rfl rfl rfl (decide (cmpSt o.node o.tm ≤ 0)) ga_t (.bool (stRight o.par)) (fun hA v25 hv26 => R_callL (vs := [(aggOf (stampCh o.par))]) stamp_move_c35 rfl (lst1 (gv_t hA)) (stamp_Right o.par v25 )) ?_
 refine Lx_qg (i := 10) true (decide (cmpSt o.node o.tm ≤ 0)) rfl rfl rfl rfl rfl (decide (cmpSt o.node o.tm ≤ 0)) ga_t _ (fun hA v27 hv28 => R_move (v := (.bool (stRight o.par))) (gv_t hA) ⟨rfl, Gr.refl _ _⟩) ?_
 refine Lx_qg (i := 11) (decide (cmpSt o.node o.tm ≤ 0)) (stRight o.par) rfl rfl rfl rfl rfl ((decide (cmpSt o.node o.tm ≤ 0)) && (!(stRight o.par))) gb_f _ (fun hA v29 hv30 => R_fieldAddr (off := 5) (oo := 5) Try.underlying39 rfl rfl Try.sizeOf24 rfl rfl ⟨rfl, Gr.refl _ _⟩) ?_
 refine Lx_qg (i := 12) (decide (cmpSt o.node o.tm ≤ 0)) (stRight o.par) rfl rfl rfl rfl rfl ((decide (cmpSt o.node o.tm ≤ 0)) && (!(stRight o.par))) gb_f _ (fun hA v31 hv32 => R_loadA (cs := [[(.int .i64 o.par.T)], [(.int .i64 o.par.R)]]) Try.isAgg24 Try.sizeOf24 rfl (gv_t hA) ((boxR_at ((H6.ext hv32).getOwn 0 rfl)).chunks 5 2 5 5 _ rfl rfl rfl) ⟨rfl, Gr.refl _ _⟩) ?_
 refine Lx_qg (i := 13) (decide (cmpSt o.node o.tm ≤ 0)) (stRight o.par) rfl rfl rfl rfl rfl ((decide (cmpSt o.node o.tm ≤ 0)) && (!(stRight o.par))) gb_f (.bool (fixedSt o.par)) (fun hA v33 hv34 => R_callL (vs := [(aggOf (stampCh o.par))]) stamp_move_c84 rfl (lst1 (gv_t hA)) (stamp_fixed o.par v33 )) ?_
 refine Lx_qg (i := 14) true (decide (cmpSt o.node o.tm ≤ 0)) rfl rfl rfl rfl rfl (decide (cmpSt o.node o.tm ≤ 0)) ga_t _ (fun hA v35 hv36 => R_pick (t := (stRight o.par)) (v := (.bool ((stRight o.par) || (fixedSt o.par)))) (gv_t hA) (pk_orA hA) ⟨rfl, Gr.refl _ _⟩) ?_
 refine Lx_q (i := 15) rfl rfl _ (fun v37 hv38 => R_pick (t := (decide (cmpSt o.node o.tm ≤ 0))) (v := (.bool ((decide (cmpSt o.node o.tm ≤ 0)) && ((stRight o.par) || (fixedSt o.par))))) rfl pk_and ⟨rfl, Gr.refl _ _⟩) ?_
 refine Lx_q (i := 16) rfl rfl _ (fun v39 hv40 => R_move (v := (.bool ((decide (cmpSt o.node o.tm ≤ 0)) && ((stRight o.par) || (fixedSt o.par))))) rfl ⟨rfl, Gr.refl _ _⟩) ?_
 refine Lx_qg (i := 17) true ((decide (cmpSt o.node o.tm ≤ 0)) && ((stRight o.par) || (fixedSt o.par))) rfl rfl rfl rfl rfl ((decide (cmpSt o.node o.tm ≤ 0)) && ((stRight o.par) || (fixedSt o.par))) ga_t _ (fun hA v41 hv42 => R_fieldAddr (off := 7) (oo := 7) Try.underlying39 rfl rfl Try.sizeOf9 rfl rfl ⟨rfl, Gr.refl _ _⟩) ?_
 refine Lx_qg (i := 18) true ((decide (cmpSt o.node o.tm ≤ 0)) && ((stRight o.par) || (fixedSt o.par))) rfl rfl rfl rfl rfl ((decide (cmpSt o.node o.tm ≤ 0)) && ((stRight o.par) || (fixedSt o.par))) ga_t _ (fun hA v43 hv44 => R_load1 (v := (.string o.name)) Try.isAgg9 (gv_t hA) ((boxR_at ((H6.ext hv44).getOwn 0 rfl)).chunks 7 1 7 7 _ rfl rfl rfl) ⟨rfl, Gr.refl _ _⟩) ?_
 refine Lx_qg (i := 19) true ((decide (cmpSt o.node o.tm ≤ 0)) && ((stRight o.par) || (fixedSt o.par))) rfl rfl rfl rfl rfl ((decide (cmpSt o.node o.tm ≤ 0)) && ((stRight o.par) || (fixedSt o.par))) ga_t (.bool (nameOk o.name)) (fun hA v45 hv46 => R_callL (vs := [(.string o.name)]) stamp_move_c85 rfl (lst1 (gv_t hA)) (stamp_Name o.name v45 hAs)) ?_
 refine Lx_q (i := 20) rfl rfl _ (fun v47 hv48 => R_pick (t := ((decide (cmpSt o.node o.tm ≤ 0)) && ((stRight o.par) || (fixedSt o.par)))) (v := (.bool (((decide (cmpSt o.node o.tm ≤ 0)) && ((stRight o.par) || (fixedSt o.par))) && (nameOk o.name)))) rfl pk_and ⟨rfl, Gr.refl _ _⟩) ?_
 refine Lx_q (i := 21) rfl rfl _ (fun v49 hv50 => R_move (v := (.bool (((decide (cmpSt o.node o.tm ≤ 0)) && ((stRight o.par) || (fixedSt o.par))) && (nameOk o.name)))) rfl ⟨rfl, Gr.refl _ _⟩) ?_
 refine Lx_qg (i := 22) true (((decide (cmpSt o.node o.tm ≤ 0)) && ((stRight o.par) || (fixedSt o.par))) && (nameOk o.name)) rfl rfl rfl rfl rfl (((decide (cmpSt o.node o.tm ≤ 0)) && ((stRight o.par) || (fixedSt o.par))) && (nameOk o.name)) ga_t _ (fun hA v51 hv52 => R_fieldAddr (off := 8) (oo := 8) Try.underlying39 rfl rfl Try.sizeOf36 rfl rfl ⟨rfl, Gr.refl _ _⟩) ?_
 refine Lx_qg (i := 23) true (((decide (cmpSt o.node o.tm ≤ 0)) && ((stRight o.par) || (fixedSt o.par))) && (nameOk o.name)) rfl rfl rfl rfl rfl (((decide (cmpSt o.node o.tm ≤ 0)) && ((stRight o.par) || (fixedSt o.par))) && (nameOk o.name)) ga_t _ (fun hA v53 hv54 => R_loadA (cs := [(idCells o.data)]) Try.isAgg36 Try.sizeOf36 rfl (gv_t hA) ((boxR_at ((H6.ext hv54).getOwn 0 rfl)).chunks 8 1 8 8 _ rfl rfl rfl) ⟨rfl, Gr.refl _ _⟩) ?_
 refine Lx_qg (i := 24) true (((decide (cmpSt o.node o.tm ≤ 0)) && ((stRight o.par) || (fixedSt o.par))) && (nameOk o.name)) rfl rfl rfl rfl rfl (((decide (cmpSt o.node o.tm ≤ 0)) && ((stRight o.par) || (fixedSt o.par))) && (nameOk o.name)) ga_t _ (fun hA v55 hv56 => R_buildL (vs := []) (v := aggOf [(idCells zeroId)]) rfl (fun _ => by kernel_rfl) ⟨rfl, Gr.refl _ _⟩) ?_
 refine Lx_qg (i := 25) true (((decide (cmpSt o.node o.tm ≤ 0)) && ((stRight o.par) || (fixedSt o.par))) && (nameOk o.name)) rfl rfl rfl rfl rfl (((decide (cmpSt o.node o.tm ≤ 0)) && ((stRight o.par) || (fixedSt o.par))) && (nameOk o.name)) ga_t _ (fun hA v57 hv58 => R_eqv (a := o.data) (b := zeroId) eqv_ID36 rfl Try.eqGuardType36 (gv_t hA) (gv_t hA) ⟨rfl, Gr.refl _ _⟩) ?_
 refine Lx_q (i := 26) rfl rfl _ (fun v59 hv60 => R_pick (t := (((decide (cmpSt o.node o.tm ≤ 0)) && ((stRight o.par) || (fixedSt o.par))) && (nameOk o.name))) (v := (.bool ((((decide (cmpSt o.node o.tm ≤ 0)) && ((stRight o.par) || (fixedSt o.par))) && (nameOk o.name)) && (decide (o.data = zeroId))))) rfl pk_and ⟨rfl, Gr.refl _ _⟩) ?_
 refine Lx_q (i := 27) rfl rfl _ (fun v61 hv62 => R_move (v := (.bool ((((decide (cmpSt o.node o.tm ≤ 0)) && ((stRight o.par) || (fixedSt o.par))) && (nameOk o.name)) && (decide (o.data = zeroId))))) rfl ⟨rfl, Gr.refl _ _⟩) ?_
 refine Lx_qg (i := 28) true ((((decide (cmpSt o.node o.tm ≤ 0)) && ((stRight o.par) || (fixedSt o.par))) && (nameOk o.name)) && (decide (o.data = zeroId))) rfl rfl rfl rfl rfl ((((decide (cmpSt o.node o.tm ≤ 0)) && ((stRight o.par) || (fixedSt o.par))) && (nameOk o.name)) && (decide (o.data = zeroId))) ga_t _ (fun hA v63 hv64 => R_fieldAddr (off := 40) (oo := 40) Try.underlying39 rfl rfl Try.sizeOf37 rfl rfl ⟨rfl, Gr.refl _ _⟩) ?_
 refine Lx_qg (i := 29) true ((((decide (cmpSt o.node o.tm ≤ 0)) && ((stRight o.par) || (fixedSt o.par))) && (nameOk o.name)) && (decide (o.data = zeroId))) rfl rfl rfl rfl rfl ((((decide (cmpSt o.node o.tm ≤ 0)) && ((stRight o.par) || (fixedSt o.par))) && (nameOk o.name)) && (decide (o.data = zeroId))) ga_t _ (fun hA v65 hv66 => R_load1 (v := (slV o.oh o.over)) Try.isAgg37 (gv_t hA) ((boxR_at ((H6.ext hv66).getOwn 0 rfl)).chunks 9 1 40 40 _ rfl rfl rfl) ⟨rfl, Gr.refl _ _⟩) ?_
 refine Lx_qg (i := 30) true ((((decide (cmpSt o.node o.tm ≤ 0)) && ((stRight o.par) || (fixedSt o.par))) && (nameOk o.name)) && (decide (o.data = zeroId))) rfl rfl rfl rfl rfl ((((decide (cmpSt o.node o.tm ≤ 0)) && ((stRight o.par) || (fixedSt o.par))) && (nameOk o.name)) && (decide (o.data = zeroId))) ga_t _ (fun hA v67 hv68 => R_len_slice (a := o.oh.a) (n := o.over.length) (c := o.oh.c) Try.underlying37 (gv_t hA) ⟨rfl, Gr.refl _ _⟩) ?_
 refine Lx_qg (i := 31) true ((((decide (cmpSt o.node o.tm ≤ 0)) && ((stRight o.par) || (fixedSt o.par))) && (nameOk o.name)) && (decide (o.data = zeroId))) rfl rfl rfl rfl rfl ((((decide (cmpSt o.node o.tm ≤ 0)) && ((stRight o.par) || (fixedSt o.par))) && (nameOk o.name)) && (decide (o.data = zeroId))) ga_t _ (fun hA v69 hv70 => R_cmp (a := ((o.over.length : Nat) : Int)) (b := 0) (r := (decide (((o.over.length : Nat) : Int) = 0))) (gv_t hA) rfl rfl ⟨rfl, Gr.refl _ _⟩) ?_
 refine Lx_q (i := 32) rfl rfl _ (fun v71 hv72 => R_pick (t := ((((decide (cmpSt o.node o.tm ≤ 0)) && ((stRight o.par) || (fixedSt o.par))) && (nameOk o.name)) && (decide (o.data = zeroId)))) (v := (.bool (((((decide (cmpSt o.node o.tm ≤ 0)) && ((stRight o.par) || (fixedSt o.par))) && (nameOk o.name)) && (decide (o.data = zeroId))) && (decide (((o.over.length : Nat) : Int) = 0))))) rfl pk_and ⟨rfl, Gr.refl _ _⟩) ?_
 refine Lx_q (i := 33) rfl rfl _ (fun v73 hv74 => R_assign (v := (.bool (((((decide (cmpSt o.node o.tm ≤ 0)) && ((stRight o.par) || (fixedSt o.par))) && (nameOk o.name)) && (decide (o.data = zeroId))) && (decide (((o.over.length : Nat) : Int) = 0))))) rfl ⟨rfl, Gr.refl _ _⟩) ?_
 refine Lx_nil (fun w75 hw76 => ?_)
 have H77 := H6.ext hw76
 refine Then_n (W_ret ?_)
 refine ret_1 (v := (.bool (((((decide (cmpSt o.node o.tm ≤ 0)) && ((stRight o.par) || (fixedSt o.par))) && (nameOk o.name)) && (decide (o.data = zeroId))) && (decide (((o.over.length : Nat) : Int) = 0))))) Try.results75 rfl ?_
 exact ⟨moveOk_e, H77.gr⟩

end Go.Proofs.Ytiknfldhommmpaa
namespace Go.Proofs.Ytiknfldhommmpaa
open Go
set_option maxRecDepth 100000
set_option linter.unusedVariables false
set_option linter.unusedSimpArgs false
theorem stamp_Good_c35 : callable Try.prog 35 = true := by kernel_rfl
theorem stamp_Good_c75 : callable Try.prog 75 = true := by kernel_rfl
theorem stamp_Good_c76 : callable Try.prog 76 = true := by kernel_rfl
set_option maxHeartbeats 1000000 in
theorem stamp_Good (o : OpS) (w : World) (So_over : Sl (Old w) stampCh 2 o.oh o.over w) (hAs : o.kind = 1 → asciiOr o.name) :
    Calls Try.prog 64 #[(aggOf (opCh o))] w (Ret fun v w' => v = (.bool (goodOp o)) ∧ Ext w w') := by
 refine calls_W Try.func64 rfl Try.ntmps64 rfl ?_
 have H0 := Ctx.start w nob
 have H1 := H0.addSl _ So_over (fun b hb => ⟨hb, fun _ ho => (nomatch ho)⟩)
 have LSo_over := So_over.len
 refine W_seq (W_reg ?_)
 refine O_v rfl (C_box H1 [[(.int .i64 o.kind)], [(.int .i64 o.tm.T)], [(.int .i64 o.tm.R)], [(.int .i64 o.node.T)], [(.int .i64 o.node.R)], [(.int .i64 o.par.T)], [(.int .i64 o.par.R)], [(.string o.name)], (idCells o.data), [(slV o.oh o.over)]] rfl ?_)
 intro b2 w3 hb4 hx5 H6
 refine O_v rfl (R_assign (v := (.bool false)) rfl ?_)
 refine O_nil (Then_n (W_seq (W_seq ?_)))
 refine W_rg [(0, .q false), (1, .q false), (2, .q false), (3, .q false), (4, .q false), (5, .q false), (6, .q false), (7, .q false), (8, .q false), (9, .q false)] (by kernel_rfl) ?_
 refine Lx_q (i := 0) rfl rfl _ (fun v7 hv8 => R_fieldAddr (off := 1) (oo := 1) Try.underlying39 rfl rfl Try.sizeOf24 rfl rfl ⟨rfl, Gr.refl _ _⟩) ?_
 refine Lx_q (i := 1) rfl rfl _ (fun v9 hv10 => R_loadA (cs := [[(.int .i64 o.tm.T)], [(.int .i64 o.tm.R)]]) Try.isAgg24 Try.sizeOf24 rfl rfl ((boxR_at ((H6.ext hv10).getOwn 0 rfl)).chunks 1 2 1 1 _ rfl rfl rfl) ⟨rfl, Gr.refl _ _⟩) ?_
 refine Lx_q (i := 2) rfl rfl (.bool (stRight o.tm)) (fun v11 hv12 => R_callL (vs := [(aggOf (stampCh o.tm))]) stamp_Good_c35 rfl rfl (stamp_Right o.tm v11 )) ?_
 refine Lx_q (i := 3) rfl rfl _ (fun v13 hv14 => R_not rfl ⟨rfl, Gr.refl _ _⟩) ?_
 refine Lx_q (i := 4) rfl rfl _ (fun v15 hv16 => R_move (v := (.bool (!(stRight o.tm)))) rfl ⟨rfl, Gr.refl _ _⟩) ?_
 refine Lx_qg (i := 5) true (!(stRight o.tm)) rfl rfl rfl rfl rfl (!(!(stRight o.tm))) ga_f _ (fun hA v17 hv18 => R_fieldAddr (off := 3) (oo := 3) Try.underlying39 rfl rfl Try.sizeOf24 rfl rfl ⟨rfl, Gr.refl _ _⟩) ?_
 refine Lx_qg (i := 6) true (!(stRight o.tm)) rfl rfl rfl rfl rfl (!(!(stRight o.tm))) ga_f _ (fun hA v19 hv20 => R_loadA (cs := [[(.int .i64 o.node.T)], [(.int .i64 o.node.R)]]) Try.isAgg24 Try.sizeOf24 rfl (gv_t hA) ((boxR_at ((H6.ext hv20).getOwn 0 rfl)).chunks 3 2 3 3 _ rfl rfl rfl) ⟨rfl, Gr.refl _ _⟩) ?_
 refine Lx_qg (i := 7) true (!(stRight o.tm)) rfl rfl rfl rfl rfl (!(!(stRight o.tm))) ga_f (.bool (stRight o.node)) (fun hA v21 hv22 => R_callL (vs := [(aggOf (stampCh o.node))]) stamp_Good_c35 rfl (lst1 (gv_t hA)) (stamp_Right o.node v21 )) ?_
 refine Lx_qg (i := 8) true (!(stRight o.tm)) rfl rfl rfl rfl rfl (!(!(stRight o.tm))) ga_f _ (fun hA v23 hv24 => R_not (gv_t hA) ⟨rfl, Gr.refl _ _⟩) ?_
 refine Lx_q (i := 9) rfl rfl _ (fun v25 hv26 => R_pick (t := (!(stRight o.tm))) (v := (.bool ((!(stRight o.tm)) || (!(stRight o.node))))) rfl pk_or ⟨rfl, Gr.refl _ _⟩) ?_
 refine Lx_nil (fun w27 hw28 => ?_)
 have H29 := H6.ext hw28
 refine Then_n ?_
 refine W_cond (t := ((!(stRight o.tm)) || (!(stRight o.node)))) rfl (fun hc30 => ?_) (fun hc30 => ?_)
 ·have hc30 : ((stRight o.tm) = false ∨ (stRight o.node) = false) := (Or.imp (fun h => (notT h)) (fun h => (notT h)) (orT hc30))
  refine W_seq (W_reg ?_)
  refine O_v rfl (R_assign (v := (.bool false)) rfl ?_)
  refine O_nil (Then_n (W_ret (Then_r ?_)))
  refine ret_1 (v := (.bool false)) Try.results64 rfl ?_
  exact ⟨(good_f (by assumption)), H29.gr⟩
 ·have hc30 : ((stRight o.tm) = true ∧ (stRight o.node) = true) := (And.imp (fun h => (notF h)) (fun h => (notF h)) (orF hc30))
  refine W_skip (Then_n (W_seq (W_seq (W_reg ?_))))
  refine O_v rfl (R_fieldAddr (off := 0) (oo := 0) Try.underlying39 rfl rfl Try.sizeOf3 rfl rfl ?_)
  refine O_v rfl (R_load1 (v := (.int .i64 o.kind)) Try.isAgg3 rfl ((boxR_at (H29.getOwn 0 rfl)).chunks 0 1 0 0 _ rfl rfl rfl) ?_)
  refine O_nil (Then_n (W_block (W_seq (W_reg ?_))))
  refine O_v rfl (R_cmp (a := o.kind) (b := 1) (r := (decide (o.kind = 1))) rfl rfl rfl ?_)
  refine O_v rfl (R_assign (v := (.bool (decide (o.kind = 1)))) rfl ?_)
  refine O_nil (Then_n ?_)
  refine W_cond (t := (decide (o.kind = 1))) rfl (fun hc31 => ?_) (fun hc31 => ?_)
  ·have hc31 : (o.kind = 1) := (of_decide_eq_true hc31)
   refine W_seq (W_reg ?_)
   refine O_v rfl (R_loadA (cs := [[(.int .i64 o.kind)], [(.int .i64 o.tm.T)], [(.int .i64 o.tm.R)], [(.int .i64 o.node.T)], [(.int .i64 o.node.R)], [(.int .i64 o.par.T)], [(.int .i64 o.par.R)], [(.string o.name)], (idCells o.data), [(slV o.oh o.over)]]) Try.isAgg39 Try.sizeOf39 rfl rfl ((boxR_at (H29.getOwn 0 rfl)).chunks 0 10 0 0 _ rfl rfl rfl) ?_)
   refine O_v rfl (R_callL (vs := [(aggOf (opCh o))]) stamp_Good_c75 rfl rfl ((stamp_move o w27 (H29.slOld 0 rfl) (hAs (by assumption))).ret ?_))
   rintro _ w32 ⟨rfl, hx33⟩
   have H34 := H29.ext hx33
   refine O_v rfl (R_assign (v := (.bool (moveOk o))) rfl ?_)
   refine O_nil (Then_n (W_ret (Blk_r (Then_r ?_))))
   refine ret_1 (v := (.bool (moveOk o))) Try.results64 rfl ?_
   exact ⟨(good_m (by assumption) (by assumption)), H34.gr⟩
  ·have hc31 : ¬ (o.kind = 1) := (of_decide_eq_false hc31)
   refine W_seq (W_reg ?_)
   refine O_v rfl (R_cmp (a := o.kind) (b := 2) (r := (decide (o.kind = 2))) rfl rfl rfl ?_)
   refine O_v rfl (R_assign (v := (.bool (decide (o.kind = 2)))) rfl ?_)
   refine O_nil (Then_n ?_)
   refine W_cond (t := (decide (o.kind = 2))) rfl (fun hc35 => ?_) (fun hc35 => ?_)
   ·have hc35 : (o.kind = 2) := (of_decide_eq_true hc35)
    refine W_seq (W_reg ?_)
    refine O_v rfl (R_loadA (cs := [[(.int .i64 o.kind)], [(.int .i64 o.tm.T)], [(.int .i64 o.tm.R)], [(.int .i64 o.node.T)], [(.int .i64 o.node.R)], [(.int .i64 o.par.T)], [(.int .i64 o.par.R)], [(.string o.name)], (idCells o.data), [(slV o.oh o.over)]]) Try.isAgg39 Try.sizeOf39 rfl rfl ((boxR_at (H29.getOwn 0 rfl)).chunks 0 10 0 0 _ rfl rfl rfl) ?_)
    refine O_v rfl (R_callL (vs := [(aggOf (opCh o))]) stamp_Good_c76 rfl rfl ((stamp_edit o w27 (H29.slOld 0 rfl)).ret ?_))
    rintro _ w36 ⟨rfl, hx37⟩
    have H38 := H29.ext hx37
    refine O_v rfl (R_assign (v := (.bool (editOk o))) rfl ?_)
    refine O_nil (Then_n (W_ret (Blk_r (Then_r ?_))))
    refine ret_1 (v := (.bool (editOk o))) Try.results64 rfl ?_
    exact ⟨(good_e (by assumption) (by assumption)), H38.gr⟩
   ·have hc35 : ¬ (o.kind = 2) := (of_decide_eq_false hc35)
    refine W_skip (Blk_n (Then_n (W_seq (W_reg ?_))))
    refine O_v rfl (R_assign (v := (.bool false)) rfl ?_)
    refine O_nil (Then_n (W_ret ?_))
    refine ret_1 (v := (.bool false)) Try.results64 rfl ?_
    exact ⟨(good_n (by assumption) (by assumption)), H29.gr⟩

end Go.Proofs.Ytiknfldhommmpaa
namespace Go.Proofs.Ytiknfldhommmpaa
open Go
set_option maxRecDepth 100000
set_option linter.unusedVariables false
set_option linter.unusedSimpArgs false
theorem maker_put_c64 : callable Try.prog 64 = true := by kernel_rfl
set_option maxHeartbeats 1000000 in
theorem maker_put (bm : Nat) (m : MakerS) (Sm : Nat → Prop) (o : OpS) (w : World) (Qm : Ctx w (objM bm m.oh m.ops) w [boxR bm 71 (makerCh m), rowR 39 41 opCh m.oh m.ops] [deepI Sm stampCh 2 (fun x : OpS => x.oh) (fun x : OpS => x.over) m.ops]) (Fo : Nat → Prop) (Xo : ∀ c, Fo c → c < w.heap.size ∧ ¬ (objM bm m.oh m.ops) c) (So_over : Sl Fo stampCh 2 o.oh o.over w) (hAs : o.kind = 1 → asciiOr o.name) (hT : m.at_.T ≤ 4611686018427387904 ∧ -4611686018427387904 ≤ m.at_.T) (hl : m.ops.length ≤ 1048576) :
    Calls Try.prog 53 #[(.pointer (some ⟨bm, 0, none⟩)), (aggOf (opCh o))] w (Ret fun v w' => ∃ (m' : MakerS) (S' : Nat → Prop), v = .tuple #[] ∧ Gr (objM bm m.oh m.ops) w w' ∧ Ctx w' (objM bm m'.oh m'.ops) w' [boxR bm 71 (makerCh m'), rowR 39 41 opCh m'.oh m'.ops] [deepI S' stampCh 2 (fun x : OpS => x.oh) (fun x : OpS => x.over) m'.ops] ∧ (∀ c, (slV m'.oh m'.ops).ownBlock = some c → (slV m.oh m.ops).ownBlock = some c ∨ w.heap.size ≤ c) ∧ (∀ c, S' c → Sm c ∨ w.heap.size ≤ c ∨ Fo c) ∧ (m'.at_ = ⟨m.at_.T + 1, m.at_.R⟩ ∧ m'.bad = (m.bad || !goodOp (putOp m o)) ∧ ∃ h, m'.ops = m.ops ++ [{ putOp m o with oh := h }])) := by
 refine calls_W Try.func53 rfl Try.ntmps53 rfl ?_
 have H0 := Qm
 have H1 := H0.addSl _ So_over (fun b hb => ⟨(Xo b hb).1, objSide (Xo b hb).2⟩)
 have LSo_over := So_over.len
 refine W_seq (W_reg ?_)
 refine O_v rfl (C_box H1 [[(.int .i64 o.kind)], [(.int .i64 o.tm.T)], [(.int .i64 o.tm.R)], [(.int .i64 o.node.T)], [(.int .i64 o.node.R)], [(.int .i64 o.par.T)], [(.int .i64 o.par.R)], [(.string o.name)], (idCells o.data), [(slV o.oh o.over)]] rfl ?_)
 intro b2 w3 hb4 hx5 H6
 refine O_nil (Then_n (W_seq (W_reg ?_)))
 refine O_v rfl (R_move (v := (.pointer (some ⟨bm, 0, none⟩))) rfl ?_)
 refine O_v rfl (R_nilCheck rfl ?_)
 refine O_v rfl (R_fieldAddr (off := 0) (oo := 0) Try.underlying71 rfl rfl Try.sizeOf24 rfl rfl ?_)
 refine O_v rfl (R_loadA (cs := [[(.int .i64 m.at_.T)], [(.int .i64 m.at_.R)]]) Try.isAgg24 Try.sizeOf24 rfl rfl ((boxR_at (H6.getOwn 1 rfl)).chunks 0 2 0 0 _ rfl rfl rfl) ?_)
 refine O_v rfl (R_fieldAddr (off := 1) (oo := 1) Try.underlying39 rfl rfl Try.sizeOf24 rfl rfl ?_)
 refine O_u (C_storeA H6 0 rfl 1 (sub := [[(.int .i64 m.at_.T)], [(.int .i64 m.at_.R)]]) [[(.int .i64 o.kind)], [(.int .i64 m.at_.T)], [(.int .i64 m.at_.R)], [(.int .i64 o.node.T)], [(.int .i64 o.node.R)], [(.int .i64 o.par.T)], [(.int .i64 o.par.R)], [(.string o.name)], (idCells o.data), [(slV o.oh o.over)]] Try.sizeOf24 rfl rfl rfl rfl ⟨[[(.int .i64 o.tm.T)], [(.int .i64 o.tm.R)]], [[(.int .i64 o.node.T)], [(.int .i64 o.node.R)], [(.int .i64 o.par.T)], [(.int .i64 o.par.R)], [(.string o.name)], (idCells o.data), [(slV o.oh o.over)]], rfl, rfl, rfl⟩ rfl ?_)
 intro w7 hg8 H9
 refine O_nil (Then_n (W_seq (W_reg ?_)))
 refine O_v rfl (R_move (v := (.pointer (some ⟨bm, 0, none⟩))) rfl ?_)
 refine O_v rfl (R_nilCheck rfl ?_)
 refine O_v rfl (R_fieldAddr (off := 0) (oo := 0) Try.underlying71 rfl rfl Try.sizeOf24 rfl rfl ?_)
 refine O_v rfl (R_fieldAddr (off := 0) (oo := 0) Try.underlying24 rfl rfl Try.sizeOf2 rfl rfl ?_)
 refine O_v rfl (R_load1 (v := (.int .i64 m.at_.T)) Try.isAgg2 rfl ((boxR_at (H9.getOwn 1 rfl)).chunks 0 1 0 0 _ rfl rfl rfl) ?_)
 refine O_v rfl (R_arith (a := m.at_.T) (b := 1) (r0 := m.at_.T + 1) (r := m.at_.T + 1) rfl rfl rfl (w64 _ (by omega)) ?_)
 refine O_v rfl (R_nilCheck rfl ?_)
 refine O_v rfl (R_fieldAddr (off := 0) (oo := 0) Try.underlying71 rfl rfl Try.sizeOf24 rfl rfl ?_)
 refine O_v rfl (R_fieldAddr (off := 0) (oo := 0) Try.underlying24 rfl rfl Try.sizeOf2 rfl rfl ?_)
 refine O_u (C_store1 H9 1 rfl 0 (v := (.int .i64 (m.at_.T + 1))) [[(.int .i64 (m.at_.T + 1))], [(.int .i64 m.at_.R)], [(slV m.oh m.ops)], [(.bool m.bad)]] Try.sizeOf2 rfl rfl rfl rfl rfl rfl rfl ?_)
 intro w10 hg11 H12
 refine O_nil (Then_n (W_seq ?_))
 refine W_rgM (fun _ => True) (fun i => i == 12) [(0, .q true), (1, .q true), (2, .q true), (3, .q true), (4, .q false), (5, .q true), (6, .q false), (7, .q false), (8, .q true), (9, .q true), (10, .q true), (11, .q true), (12, .c true)] (by kernel_rfl) ?_
 refine Lx_q (i := 0) rfl rfl _ (fun v13 hv14 => R_move (v := (.pointer (some ⟨bm, 0, none⟩))) rfl ⟨rfl, Gr.refl _ _⟩) ?_
 refine Lx_q (i := 1) rfl rfl _ (fun v15 hv16 => R_move (v := (.pointer (some ⟨bm, 0, none⟩))) rfl ⟨rfl, Gr.refl _ _⟩) ?_
 refine Lx_q (i := 2) rfl rfl _ (fun v17 hv18 => R_nilCheck rfl ⟨rfl, Gr.refl _ _⟩) ?_
 refine Lx_q (i := 3) rfl rfl _ (fun v19 hv20 => R_fieldAddr (off := 3) (oo := 3) Try.underlying71 rfl rfl Try.sizeOf4 rfl rfl ⟨rfl, Gr.refl _ _⟩) ?_
 refine Lx_q (i := 4) rfl rfl _ (fun v21 hv22 => R_load1 (v := (.bool m.bad)) Try.isAgg4 rfl ((boxR_at ((H12.ext hv22).getOwn 1 rfl)).chunks 3 1 3 3 _ rfl rfl rfl) ⟨rfl, Gr.refl _ _⟩) ?_
 refine Lx_q (i := 5) rfl rfl _ (fun v23 hv24 => R_move (v := (.bool m.bad)) rfl ⟨rfl, Gr.refl _ _⟩) ?_
 refine Lx_qg (i := 6) true m.bad rfl rfl rfl rfl rfl (!m.bad) ga_f _ (fun hA v25 hv26 => R_loadA (cs := [[(.int .i64 o.kind)], [(.int .i64 m.at_.T)], [(.int .i64 m.at_.R)], [(.int .i64 o.node.T)], [(.int .i64 o.node.R)], [(.int .i64 o.par.T)], [(.int .i64 o.par.R)], [(.string o.name)], (idCells o.data), [(slV o.oh o.over)]]) Try.isAgg39 Try.sizeOf39 rfl rfl ((boxR_at ((H12.ext hv26).getOwn 0 rfl)).chunks 0 10 0 0 _ rfl rfl rfl) ⟨rfl, Gr.refl _ _⟩) ?_
 refine Lx_qg (i := 7) true m.bad rfl rfl rfl rfl rfl (!m.bad) ga_f (.bool (goodOp ({ kind := o.kind, tm := m.at_, node := o.node, par := o.par, name := o.name, data := o.data, over := o.over, oh := o.oh } : OpS))) (fun hA v27 hv28 => R_callL (vs := [(aggOf [[(.int .i64 o.kind)], [(.int .i64 m.at_.T)], [(.int .i64 m.at_.R)], [(.int .i64 o.node.T)], [(.int .i64 o.node.R)], [(.int .i64 o.par.T)], [(.int .i64 o.par.R)], [(.string o.name)], (idCells o.data), [(slV o.oh o.over)]])]) maker_put_c64 rfl (lst1 (gv_t hA)) (stamp_Good ({ kind := o.kind, tm := m.at_, node := o.node, par := o.par, name := o.name, data := o.data, over := o.over, oh := o.oh } : OpS) v27 ((H12.ext hv28).slOld 0 rfl) hAs)) ?_
 refine Lx_qg (i := 8) true m.bad rfl rfl rfl rfl rfl (!m.bad) ga_f _ (fun hA v29 hv30 => R_not (gv_t hA) ⟨rfl, Gr.refl _ _⟩) ?_
 refine Lx_q (i := 9) rfl rfl _ (fun v31 hv32 => R_pick (t := m.bad) (v := (.bool (m.bad || (!(goodOp ({ kind := o.kind, tm := m.at_, node := o.node, par := o.par, name := o.name, data := o.data, over := o.over, oh := o.oh } : OpS)))))) rfl pk_or ⟨rfl, Gr.refl _ _⟩) ?_
 refine Lx_q (i := 10) rfl rfl _ (fun v33 hv34 => R_nilCheck rfl ⟨rfl, Gr.refl _ _⟩) ?_
 refine Lx_q (i := 11) rfl rfl _ (fun v35 hv36 => R_fieldAddr (off := 3) (oo := 3) Try.underlying71 rfl rfl Try.sizeOf4 rfl rfl ⟨rfl, Gr.refl _ _⟩) ?_
 refine Lx_cu (i := 12) rfl (fun w37 hw38 => ?_)
 have H39 := H12.ext hw38
 refine (C_store1 H39 1 rfl 3 (v := (.bool (m.bad || (!(goodOp ({ kind := o.kind, tm := m.at_, node := o.node, par := o.par, name := o.name, data := o.data, over := o.over, oh := o.oh } : OpS)))))) [[(.int .i64 (m.at_.T + 1))], [(.int .i64 m.at_.R)], [(slV m.oh m.ops)], [(.bool (m.bad || (!(goodOp ({ kind := o.kind, tm := m.at_, node := o.node, par := o.par, name := o.name, data := o.data, over := o.over, oh := o.oh } : OpS)))))]] Try.sizeOf4 rfl rfl rfl rfl rfl rfl rfl ?_)
 intro w40 hg41 H42
 refine ⟨Gr.mono (M' := fun _ => True) hg41 (fun _ _ => trivial), ?_⟩
 refine Lx_nil (fun w43 hw44 => ?_)
 have H45 := H42.ext hw44
 refine Then_n ?_
 refine W_rgdM TryMixed (fun _ => True) (fun i => i == 7 || i == 10) [(0, .q true), (1, .q true), (2, .q true), (3, .q true), (4, .q false), (5, .q false), (6, .c false), (7, .c true), (8, .q true), (9, .q true), (10, .c true)] (by kernel_rfl) ?_
 refine Lx_q (i := 0) rfl rfl _ (fun v46 hv47 => R_move (v := (.pointer (some ⟨bm, 0, none⟩))) rfl ⟨rfl, Gr.refl _ _⟩) ?_
 refine Lx_q (i := 1) rfl rfl _ (fun v48 hv49 => R_move (v := (.pointer (some ⟨bm, 0, none⟩))) rfl ⟨rfl, Gr.refl _ _⟩) ?_
 refine Lx_q (i := 2) rfl rfl _ (fun v50 hv51 => R_nilCheck rfl ⟨rfl, Gr.refl _ _⟩) ?_
 refine Lx_q (i := 3) rfl rfl _ (fun v52 hv53 => R_fieldAddr (off := 2) (oo := 2) Try.underlying71 rfl rfl Try.sizeOf31 rfl rfl ⟨rfl, Gr.refl _ _⟩) ?_
 refine Lx_q (i := 4) rfl rfl _ (fun v54 hv55 => R_load1 (v := (slV m.oh m.ops)) Try.isAgg31 rfl ((boxR_at ((H45.ext hv55).getOwn 1 rfl)).chunks 2 1 2 2 _ rfl rfl rfl) ⟨rfl, Gr.refl _ _⟩) ?_
 refine Lx_q (i := 5) rfl rfl _ (fun v56 hv57 => R_loadA (cs := [[(.int .i64 o.kind)], [(.int .i64 m.at_.T)], [(.int .i64 m.at_.R)], [(.int .i64 o.node.T)], [(.int .i64 o.node.R)], [(.int .i64 o.par.T)], [(.int .i64 o.par.R)], [(.string o.name)], (idCells o.data), [(slV o.oh o.over)]]) Try.isAgg39 Try.sizeOf39 rfl rfl ((boxR_at ((H45.ext hv57).getOwn 0 rfl)).chunks 0 10 0 0 _ rfl rfl rfl) ⟨rfl, Gr.refl _ _⟩) ?_
 refine Lx_c (i := 6) rfl rfl (fun w58 hw59 => ?_)
 have H60 := H45.ext hw59
 refine (C_buildSliceL H60 (enc := opCh) (val := opV) ([({ kind := o.kind, tm := m.at_, node := o.node, par := o.par, name := o.name, data := o.data, over := o.over, oh := o.oh } : OpS)] : List OpS) Try.underlying31 Try.sizeOf39 Try.zeroValue39 rfl (by decide) (fun _ => rfl) (fun _ => rfl) rfl rfl (by decide) ?_)
 intro b61 w62 hb63 hx64 H65
 refine ⟨GrF.ofExt hx64, ?_⟩
 refine Lx_c (i := 7) rfl rfl (fun w66 hw67 => ?_)
 have H68 := H65.ext hw67
 refine (C_append H68 3 rfl (bytes := 128) (l := m.ops) (ys := ([({ kind := o.kind, tm := m.at_, node := o.node, par := o.par, name := o.name, data := o.data, over := o.over, oh := o.oh } : OpS)] : List OpS)) Try.underlying31 rfl rfl rfl rfl rfl (by decide) rfl rfl (OwnS.sl (H68.getOwn 0 rfl) (fun _ => rfl)) (fun _ => rfl) (fun _ => rfl) (by simp only [List.length_append, List.length_cons, List.length_nil]; omega) (by decide) ?_)
 intro h69 w70 hg71 H72
 refine ⟨Gr.mono (M' := fun _ => True) hg71 (fun _ _ => trivial), ?_⟩
 refine Lx_q (i := 8) rfl rfl _ (fun v73 hv74 => R_nilCheck rfl ⟨rfl, Gr.refl _ _⟩) ?_
 refine Lx_q (i := 9) rfl rfl _ (fun v75 hv76 => R_fieldAddr (off := 2) (oo := 2) Try.underlying71 rfl rfl Try.sizeOf31 rfl rfl ⟨rfl, Gr.refl _ _⟩) ?_
 refine Lx_cu (i := 10) rfl (fun w77 hw78 => ?_)
 have H79 := H72.ext hw78
 refine (C_store1 H79 2 rfl 2 (v := (slV h69 (m.ops ++ ([({ kind := o.kind, tm := m.at_, node := o.node, par := o.par, name := o.name, data := o.data, over := o.over, oh := o.oh } : OpS)] : List OpS)))) [[(.int .i64 (m.at_.T + 1))], [(.int .i64 m.at_.R)], [(slV h69 (m.ops ++ ([({ kind := o.kind, tm := m.at_, node := o.node, par := o.par, name := o.name, data := o.data, over := o.over, oh := o.oh } : OpS)] : List OpS)))], [(.bool (m.bad || (!(goodOp ({ kind := o.kind, tm := m.at_, node := o.node, par := o.par, name := o.name, data := o.data, over := o.over, oh := o.oh } : OpS)))))]] Try.sizeOf31 rfl rfl rfl rfl rfl rfl rfl ?_)
 intro w80 hg81 H82
 refine ⟨Gr.mono (M' := fun _ => True) hg81 (fun _ _ => trivial), ?_⟩
 refine Lx_nil (fun w83 hw84 => ?_)
 have H85 := H82.ext hw84
 refine ret_n ?_
 have H86 := H85.deepSnoc 1 rfl 0 rfl (({ kind := o.kind, tm := m.at_, node := o.node, par := o.par, name := o.name, data := o.data, over := o.over, oh := o.oh } : OpS)) rfl rfl
 refine ret_0 Try.results53 ?_
 have HQ := (H86.pick (B' := [boxR bm 71 [[(.int .i64 (m.at_.T + 1))], [(.int .i64 m.at_.R)], [(slV h69 (m.ops ++ ([({ kind := o.kind, tm := m.at_, node := o.node, par := o.par, name := o.name, data := o.data, over := o.over, oh := o.oh } : OpS)] : List OpS)))], [(.bool (m.bad || (!(goodOp ({ kind := o.kind, tm := m.at_, node := o.node, par := o.par, name := o.name, data := o.data, over := o.over, oh := o.oh } : OpS)))))]], rowR 39 41 opCh h69 (m.ops ++ ([({ kind := o.kind, tm := m.at_, node := o.node, par := o.par, name := o.name, data := o.data, over := o.over, oh := o.oh } : OpS)] : List OpS))]) (I' := [deepI (fun b => Sm b ∨ Fo b) stampCh 2 (fun x : OpS => x.oh) (fun x : OpS => x.over) (m.ops ++ ([({ kind := o.kind, tm := m.at_, node := o.node, par := o.par, name := o.name, data := o.data, over := o.over, oh := o.oh } : OpS)] : List OpS))]) [2, 3] (by decide) rfl (List.forall_mem_cons.2 ⟨List.mem_of_getElem? (i := 0) rfl, fun _ h => (nomatch h)⟩)).objStart
 exact ⟨({ at_ := ({ T := (m.at_.T + 1), R := m.at_.R } : Stamp), ops := m.ops ++ ([({ kind := o.kind, tm := m.at_, node := o.node, par := o.par, name := o.name, data := o.data, over := o.over, oh := o.oh } : OpS)] : List OpS), oh := h69, bad := (m.bad || (!(goodOp ({ kind := o.kind, tm := m.at_, node := o.node, par := o.par, name := o.name, data := o.data, over := o.over, oh := o.oh } : OpS)))) } : MakerS), _, rfl, H86.gr, HQ, H86.objBlk 2 3 (by decide) rfl rfl, (fun c hc => hc.elim .inl (fun h => .inr (.inr h))), ⟨rfl, rfl, _, rfl⟩⟩

end Go.Proofs.Ytiknfldhommmpaa
namespace Go.Proofs.Ytiknfldhommmpaa
open Go
set_option maxRecDepth 100000
set_option linter.unusedVariables false
set_option linter.unusedSimpArgs false
theorem maker_edits_c24 : callable Try.prog 24 = true := by kernel_rfl
theorem maker_edits_c30 : callable Try.prog 30 = true := by kernel_rfl
theorem maker_edits_c53 : callable Try.prog 53 = true := by kernel_rfl
set_option maxHeartbeats 1000000 in
theorem maker_edits (bm : Nat) (m : MakerS) (Sm : Nat → Prop) (ha : SlH) (a : List RowS) (hb : SlH) (b : List RowS) (w : World) (Qm : Ctx w (objM bm m.oh m.ops) w [boxR bm 71 (makerCh m), rowR 39 41 opCh m.oh m.ops] [deepI Sm stampCh 2 (fun x : OpS => x.oh) (fun x : OpS => x.over) m.ops]) (Fa : Nat → Prop) (Xa : ∀ c, Fa c → c < w.heap.size ∧ ¬ (objM bm m.oh m.ops) c) (Sa : Sl Fa rowCh 8 ha a w) (Da_heads : ∀ x ∈ a, Sl Fa headCh 34 x.hh x.heads w) (Fb : Nat → Prop) (Xb : ∀ c, Fb c → c < w.heap.size ∧ ¬ (objM bm m.oh m.ops) c) (Sb : Sl Fb rowCh 8 hb b w) (Db_heads : ∀ x ∈ b, Sl Fb headCh 34 x.hh x.heads w) (hlb : b.length ≤ 5000) (hha : ∀ x ∈ a, x.heads.length ≤ 1048576) (hT : 0 ≤ m.at_.T ∧ m.at_.T ≤ 2199023255552) (hml : m.ops.length ≤ 100000) :
    Calls Try.prog 37 #[(.pointer (some ⟨bm, 0, none⟩)), (slV ha a), (slV hb b)] w (Ret fun v w' => ∃ (m' : MakerS) (S' : Nat → Prop), v = (.bool (editsOne a b)) ∧ Gr (objM bm m.oh m.ops) w w' ∧ Ctx w' (objM bm m'.oh m'.ops) w' [boxR bm 71 (makerCh m'), rowR 39 41 opCh m'.oh m'.ops] [deepI S' stampCh 2 (fun x : OpS => x.oh) (fun x : OpS => x.over) m'.ops] ∧ (∀ c, (slV m'.oh m'.ops).ownBlock = some c → (slV m.oh m.ops).ownBlock = some c ∨ w.heap.size ≤ c) ∧ (∀ c, S' c → Sm c ∨ w.heap.size ≤ c) ∧ (m'.st = (editsOf a b).foldl putC m.st)) := by
 refine calls_W Try.func37 rfl Try.ntmps37 rfl ?_
 have H0 := Qm
 have H1 := H0.addSl _ Sa (fun b hb => ⟨(Xa b hb).1, objSide (Xa b hb).2⟩)
 have LSa := Sa.len
 have H2 := H1.addImm' (deepI (Fa) headCh 34 (fun x : RowS => x.hh) (fun x : RowS => x.heads) a) Da_heads (fun b hb => ⟨(Xa b hb).1, objSide (Xa b hb).2⟩)
 have H3 := H2.addSl _ Sb (fun b hb => ⟨(Xb b hb).1, objSide (Xb b hb).2⟩)
 have LSb := Sb.len
 have H4 := H3.addImm' (deepI (Fb) headCh 34 (fun x : RowS => x.hh) (fun x : RowS => x.heads) b) Db_heads (fun b hb => ⟨(Xb b hb).1, objSide (Xb b hb).2⟩)
 refine W_seq (W_reg ?_)
 refine O_v rfl (R_assign (v := (.bool false)) rfl ?_)
 refine O_nil (Then_n (W_seq (W_reg ?_)))
 refine O_v rfl (R_move (v := (slV ha a)) rfl ?_)
 refine O_v rfl (R_callL (vs := [(slV ha a)]) maker_edits_c24 rfl rfl ((differ_of ha a w (H4.slOld 3 rfl)).ret ?_))
 rintro _ w6 ⟨r5, rfl, hx7, hr8, hm9⟩
 have H10 := C_addMap H4 hx7 hr8 hm9
 refine O_v rfl (R_assign (v := (.map (some r5))) rfl ?_)
 refine O_nil (Then_n (W_seq (W_reg ?_)))
 refine O_v rfl (R_assign (v := (.bool true)) rfl ?_)
 refine O_nil (Then_n (W_seq (W_seq (W_reg ?_))))
 refine O_v rfl (R_move (v := (slV hb b)) rfl ?_)
 refine O_v rfl (R_len_slice (a := hb.a) (n := b.length) (c := hb.c) Try.underlying22 rfl ?_)
 refine O_v rfl (R_move (v := (.int .i64 0)) rfl ?_)
 refine O_nil (Then_n (W_block ?_))
 refine W_loop (fun m11 e12 w13 => ∃ (k : Nat), ∃ (mm : MakerS), ∃ (one : Bool), ∃ (SS : Nat → Prop), m11 = b.length - k ∧ (k ≤ b.length) ∧ (mm.st = (editsOf a (b.take k)).foldl putC m.st) ∧ (one = editsOne a (b.take k)) ∧ (∀ c, SS c → Sm c ∨ w.heap.size ≤ c) ∧ ∃ eb14, e12 = envL [(0, (.pointer (some ⟨bm, 0, none⟩))), (6, (.bool false)), (7, (.map (some r5))), (8, (.bool one)), (17, (slV hb b)), (18, (.int .i64 ((b.length : Nat) : Int))), (19, (.int .i64 ((k : Nat) : Int)))] eb14 ∧ Ctx w (objM bm m.oh m.ops) w13 [mapO r5 (fun x : Stamp => stampV x) rowV (tableOf a), boxR bm 71 [[(.int .i64 mm.at_.T)], [(.int .i64 mm.at_.R)], [(slV mm.oh mm.ops)], [(.bool mm.bad)]], rowR 39 41 opCh mm.oh mm.ops] [deepI Fb headCh 34 (fun x : RowS => x.hh) (fun x : RowS => x.heads) b, slI Fb rowCh 8 hb b, deepI Fa headCh 34 (fun x : RowS => x.hh) (fun x : RowS => x.heads) a, slI Fa rowCh 8 ha a, deepI SS stampCh 2 (fun x : OpS => x.oh) (fun x : OpS => x.over) mm.ops]) _ ⟨0, m, true, Sm, rfl, (by omega), rfl, rfl, (fun c h => .inl h), _, envL_self ⟨rfl, rfl, rfl, rfl, rfl, rfl, rfl, trivial⟩, H10⟩ ?_
 rintro m11 _ w13 ⟨k, mm, one, SS, rfl, hk, hst, hone, hSS, eb14, rfl, H15⟩
 refine W_seq (W_reg ?_)
 refine O_v rfl (R_cmp (a := ((k : Nat) : Int)) (b := ((b.length : Nat) : Int)) (r := (decide (((k : Nat) : Int) < ((b.length : Nat) : Int)))) rfl rfl rfl ?_)
 refine O_nil (Then_n (W_seq ?_))
 refine W_cond (t := (decide (((k : Nat) : Int) < ((b.length : Nat) : Int)))) rfl (fun hc16 => ?_) (fun hc16 => ?_)
 ·have hc16 : (((k : Nat) : Int) < ((b.length : Nat) : Int)) := (of_decide_eq_true hc16)
  refine W_skip (Then_n (W_seq (W_block (W_seq (W_reg ?_)))))
  refine O_v rfl (R_index_pure (H15.sl 1 rfl) (n := b.length) rfl (j := ((k : Nat) : Int)) (oo := (hb.o + k * 8)) Try.underlying22 Try.sizeOf44 rfl rfl (by omega) (by omega) rfl ?_)
  refine O_v rfl (R_loadA (cs := [[(.int .i64 (((nth b k).node).T))], [(.int .i64 (((nth b k).node).R))], [(.int .i64 (((nth b k).par).T))], [(.int .i64 (((nth b k).par).R))], [(.int .i64 (((nth b k).tm).T))], [(.int .i64 (((nth b k).tm).R))], [(.string ((nth b k).name))], [(slV ((nth b k).hh) ((nth b k).heads))]]) Try.isAgg44 Try.sizeOf44 rfl rfl ((Sl.elem (H15.sl 1 rfl) (i := k) (by omega) rfl).chunks 0 8 0 (hb.o + k * 8) _ rfl rfl rfl) ?_)
  refine O_v rfl (C_alloc H15 [[(.int .i64 0)], [(.int .i64 0)], [(.int .i64 0)], [(.int .i64 0)], [(.int .i64 0)], [(.int .i64 0)], [(.string ByteArray.empty)], [(.slice none 0 0)]] Try.zeroValue44 ?_)
  intro b17 w18 hb19 hx20 H21
  refine O_u (C_storeA H21 0 rfl 0 (sub := [[(.int .i64 (((nth b k).node).T))], [(.int .i64 (((nth b k).node).R))], [(.int .i64 (((nth b k).par).T))], [(.int .i64 (((nth b k).par).R))], [(.int .i64 (((nth b k).tm).T))], [(.int .i64 (((nth b k).tm).R))], [(.string ((nth b k).name))], [(slV ((nth b k).hh) ((nth b k).heads))]]) [[(.int .i64 (((nth b k).node).T))], [(.int .i64 (((nth b k).node).R))], [(.int .i64 (((nth b k).par).T))], [(.int .i64 (((nth b k).par).R))], [(.int .i64 (((nth b k).tm).T))], [(.int .i64 (((nth b k).tm).R))], [(.string ((nth b k).name))], [(slV ((nth b k).hh) ((nth b k).heads))]] Try.sizeOf44 rfl rfl rfl rfl ⟨[[(.int .i64 0)], [(.int .i64 0)], [(.int .i64 0)], [(.int .i64 0)], [(.int .i64 0)], [(.int .i64 0)], [(.string ByteArray.empty)], [(.slice none 0 0)]], [], rfl, rfl, rfl⟩ rfl ?_)
  intro w22 hg23 H24
  refine O_nil (Then_n (W_seq (W_reg ?_)))
  refine O_v rfl (R_move (v := (.map (some r5))) rfl ?_)
  refine O_v rfl (R_fieldAddr (off := 0) (oo := 0) Try.underlying44 rfl rfl Try.sizeOf24 rfl rfl ?_)
  refine O_v rfl (R_loadA (cs := [[(.int .i64 (((nth b k).node).T))], [(.int .i64 (((nth b k).node).R))]]) Try.isAgg24 Try.sizeOf24 rfl rfl ((boxR_at (H24.getOwn 0 rfl)).chunks 0 2 0 0 _ rfl rfl rfl) ?_)
  refine O_v rfl (R_lookup (kk := ((nth b k).node)) (z := zeroRow) keyT_Stamp24 Try.underlying56 Try.zeroValue44 (H24.getOwn 1 rfl) rfl rfl ?_)
  refine O_v rfl (C_alloc H24 [[(.int .i64 0)], [(.int .i64 0)], [(.int .i64 0)], [(.int .i64 0)], [(.int .i64 0)], [(.int .i64 0)], [(.string ByteArray.empty)], [(.slice none 0 0)]] Try.zeroValue44 ?_)
  intro b25 w26 hb27 hx28 H29
  refine O_u (C_storeA H29 0 rfl 0 (sub := [[(.int .i64 ((((kvGet (tableOf a) ((nth b k).node)).getD zeroRow).node).T))], [(.int .i64 ((((kvGet (tableOf a) ((nth b k).node)).getD zeroRow).node).R))], [(.int .i64 ((((kvGet (tableOf a) ((nth b k).node)).getD zeroRow).par).T))], [(.int .i64 ((((kvGet (tableOf a) ((nth b k).node)).getD zeroRow).par).R))], [(.int .i64 ((((kvGet (tableOf a) ((nth b k).node)).getD zeroRow).tm).T))], [(.int .i64 ((((kvGet (tableOf a) ((nth b k).node)).getD zeroRow).tm).R))], [(.string (((kvGet (tableOf a) ((nth b k).node)).getD zeroRow).name))], [(slV (((kvGet (tableOf a) ((nth b k).node)).getD zeroRow).hh) (((kvGet (tableOf a) ((nth b k).node)).getD zeroRow).heads))]]) [[(.int .i64 ((((kvGet (tableOf a) ((nth b k).node)).getD zeroRow).node).T))], [(.int .i64 ((((kvGet (tableOf a) ((nth b k).node)).getD zeroRow).node).R))], [(.int .i64 ((((kvGet (tableOf a) ((nth b k).node)).getD zeroRow).par).T))], [(.int .i64 ((((kvGet (tableOf a) ((nth b k).node)).getD zeroRow).par).R))], [(.int .i64 ((((kvGet (tableOf a) ((nth b k).node)).getD zeroRow).tm).T))], [(.int .i64 ((((kvGet (tableOf a) ((nth b k).node)).getD zeroRow).tm).R))], [(.string (((kvGet (tableOf a) ((nth b k).node)).getD zeroRow).name))], [(slV (((kvGet (tableOf a) ((nth b k).node)).getD zeroRow).hh) (((kvGet (tableOf a) ((nth b k).node)).getD zeroRow).heads))]] Try.sizeOf44 rfl rfl rfl rfl ⟨[[(.int .i64 0)], [(.int .i64 0)], [(.int .i64 0)], [(.int .i64 0)], [(.int .i64 0)], [(.int .i64 0)], [(.string ByteArray.empty)], [(.slice none 0 0)]], [], rfl, rfl, rfl⟩ rfl ?_)
  intro w30 hg31 H32
  refine O_nil (Then_n (W_seq (W_seq (W_reg ?_))))
  refine O_v rfl (R_loadA (cs := [[(.int .i64 ((((kvGet (tableOf a) ((nth b k).node)).getD zeroRow).node).T))], [(.int .i64 ((((kvGet (tableOf a) ((nth b k).node)).getD zeroRow).node).R))], [(.int .i64 ((((kvGet (tableOf a) ((nth b k).node)).getD zeroRow).par).T))], [(.int .i64 ((((kvGet (tableOf a) ((nth b k).node)).getD zeroRow).par).R))], [(.int .i64 ((((kvGet (tableOf a) ((nth b k).node)).getD zeroRow).tm).T))], [(.int .i64 ((((kvGet (tableOf a) ((nth b k).node)).getD zeroRow).tm).R))], [(.string (((kvGet (tableOf a) ((nth b k).node)).getD zeroRow).name))], [(slV (((kvGet (tableOf a) ((nth b k).node)).getD zeroRow).hh) (((kvGet (tableOf a) ((nth b k).node)).getD zeroRow).heads))]]) Try.isAgg44 Try.sizeOf44 rfl rfl ((boxR_at (H32.getOwn 0 rfl)).chunks 0 8 0 0 _ rfl rfl rfl) ?_)
  refine O_v rfl (R_loadA (cs := [[(.int .i64 (((nth b k).node).T))], [(.int .i64 (((nth b k).node).R))], [(.int .i64 (((nth b k).par).T))], [(.int .i64 (((nth b k).par).R))], [(.int .i64 (((nth b k).tm).T))], [(.int .i64 (((nth b k).tm).R))], [(.string ((nth b k).name))], [(slV ((nth b k).hh) ((nth b k).heads))]]) Try.isAgg44 Try.sizeOf44 rfl rfl ((boxR_at (H32.getOwn 1 rfl)).chunks 0 8 0 0 _ rfl rfl rfl) ?_)
  refine O_v rfl (R_callL (vs := [(aggOf (rowCh ((kvGet (tableOf a) ((nth b k).node)).getD zeroRow))), (aggOf (rowCh (nth b k)))]) maker_edits_c30 rfl rfl ((differ_sameData ((kvGet (tableOf a) ((nth b k).node)).getD zeroRow) (nth b k) w30 (tab_deep (H32.deepOld 2 rfl) ((nth b k).node)) (H32.deepOld 0 rfl _ (nth_mem (by omega)))).ret ?_))
  rintro _ w33 ⟨rfl, hx34⟩
  have H35 := H32.ext hx34
  refine O_nil (Then_n ?_)
  refine W_cond (t := (decide (datas ((kvGet (tableOf a) ((nth b k).node)).getD zeroRow).heads = datas (nth b k).heads))) rfl (fun hc36 => ?_) (fun hc36 => ?_)
  ·have hc36 : (datas ((kvGet (tableOf a) ((nth b k).node)).getD zeroRow).heads = datas (nth b k).heads) := (of_decide_eq_true hc36)
   refine W_exit (Then_x (Blk_x (Then_n (W_reg ?_))))
   refine O_v rfl (R_arith (a := ((k : Nat) : Int)) (b := 1) (r0 := ((k : Nat) : Int) + 1) (r := ((k + 1 : Nat) : Int)) rfl rfl rfl (wrapN _ (by omega)) ?_)
   refine O_v rfl (R_move (v := (.int .i64 ((k + 1 : Nat) : Int))) rfl ?_)
   refine O_nil (Then_n ?_)
   have H37 := H35.sub (B' := [mapO r5 (fun x : Stamp => stampV x) rowV (tableOf a), boxR bm 71 [[(.int .i64 mm.at_.T)], [(.int .i64 mm.at_.R)], [(slV mm.oh mm.ops)], [(.bool mm.bad)]], rowR 39 41 opCh mm.oh mm.ops]) (I' := [deepI Fb headCh 34 (fun x : RowS => x.hh) (fun x : RowS => x.heads) b, slI Fb rowCh 8 hb b, deepI Fa headCh 34 (fun x : RowS => x.hh) (fun x : RowS => x.heads) a, slI Fa rowCh 8 ha a, deepI SS stampCh 2 (fun x : OpS => x.oh) (fun x : OpS => x.over) mm.ops]) (List.Sublist.cons _ (List.Sublist.cons _ (List.Sublist.cons_cons _ (List.Sublist.cons_cons _ (List.Sublist.cons_cons _ List.Sublist.slnil))))) (List.forall_mem_cons.2 ⟨List.mem_of_getElem? (i := 0) rfl, List.forall_mem_cons.2 ⟨List.mem_of_getElem? (i := 1) rfl, List.forall_mem_cons.2 ⟨List.mem_of_getElem? (i := 2) rfl, List.forall_mem_cons.2 ⟨List.mem_of_getElem? (i := 3) rfl, List.forall_mem_cons.2 ⟨List.mem_of_getElem? (i := 4) rfl, fun _ h => (nomatch h)⟩⟩⟩⟩⟩)
   refine ⟨_, ?_, (k + 1), mm, one, SS, rfl, (by omega), (edits_same hst hone (by omega) (by assumption)).1, (edits_same hst hone (by omega) (by assumption)).2, hSS, _, envL_self ⟨rfl, rfl, rfl, rfl, rfl, rfl, rfl, trivial⟩, H37⟩
   omega
  ·have hc36 : ¬ (datas ((kvGet (tableOf a) ((nth b k).node)).getD zeroRow).heads = datas (nth b k).heads) := (of_decide_eq_false hc36)
   refine W_skip (Then_n (W_seq (W_seq (W_reg ?_))))
   refine O_v rfl (R_fieldAddr (off := 7) (oo := 7) Try.underlying44 rfl rfl Try.sizeOf42 rfl rfl ?_)
   refine O_v rfl (R_load1 (v := (slV ((nth b k).hh) ((nth b k).heads))) Try.isAgg42 rfl ((boxR_at (H35.getOwn 1 rfl)).chunks 7 1 7 7 _ rfl rfl rfl) ?_)
   refine O_v rfl (R_len_slice (a := ((nth b k).hh).a) (n := ((nth b k).heads).length) (c := ((nth b k).hh).c) Try.underlying42 rfl ?_)
   refine O_v rfl (R_cmp (a := ((((nth b k).heads).length : Nat) : Int)) (b := 1) (r := (!(decide (((((nth b k).heads).length : Nat) : Int) = 1)))) rfl rfl rfl ?_)
   refine O_nil (Then_n ?_)
   refine W_cond (t := (!(decide (((((nth b k).heads).length : Nat) : Int) = 1)))) rfl (fun hc38 => ?_) (fun hc38 => ?_)
   ·have hc38 : ¬ (((((nth b k).heads).length : Nat) : Int) = 1) := (of_decide_eq_false (notT hc38))
    refine W_seq (W_reg ?_)
    refine O_v rfl (R_assign (v := (.bool false)) rfl ?_)
    refine O_nil (Then_n (W_exit (Then_x (Blk_x (Then_n (W_reg ?_))))))
    refine O_v rfl (R_arith (a := ((k : Nat) : Int)) (b := 1) (r0 := ((k : Nat) : Int) + 1) (r := ((k + 1 : Nat) : Int)) rfl rfl rfl (wrapN _ (by omega)) ?_)
    refine O_v rfl (R_move (v := (.int .i64 ((k + 1 : Nat) : Int))) rfl ?_)
    refine O_nil (Then_n ?_)
    have H39 := H35.sub (B' := [mapO r5 (fun x : Stamp => stampV x) rowV (tableOf a), boxR bm 71 [[(.int .i64 mm.at_.T)], [(.int .i64 mm.at_.R)], [(slV mm.oh mm.ops)], [(.bool mm.bad)]], rowR 39 41 opCh mm.oh mm.ops]) (I' := [deepI Fb headCh 34 (fun x : RowS => x.hh) (fun x : RowS => x.heads) b, slI Fb rowCh 8 hb b, deepI Fa headCh 34 (fun x : RowS => x.hh) (fun x : RowS => x.heads) a, slI Fa rowCh 8 ha a, deepI SS stampCh 2 (fun x : OpS => x.oh) (fun x : OpS => x.over) mm.ops]) (List.Sublist.cons _ (List.Sublist.cons _ (List.Sublist.cons_cons _ (List.Sublist.cons_cons _ (List.Sublist.cons_cons _ List.Sublist.slnil))))) (List.forall_mem_cons.2 ⟨List.mem_of_getElem? (i := 0) rfl, List.forall_mem_cons.2 ⟨List.mem_of_getElem? (i := 1) rfl, List.forall_mem_cons.2 ⟨List.mem_of_getElem? (i := 2) rfl, List.forall_mem_cons.2 ⟨List.mem_of_getElem? (i := 3) rfl, List.forall_mem_cons.2 ⟨List.mem_of_getElem? (i := 4) rfl, fun _ h => (nomatch h)⟩⟩⟩⟩⟩)
    refine ⟨_, ?_, (k + 1), mm, false, SS, rfl, (by omega), (edits_many hst (by omega) (by assumption) (by assumption)).1, (edits_many hst (by omega) (by assumption) (by assumption)).2, hSS, _, envL_self ⟨rfl, rfl, rfl, rfl, rfl, rfl, rfl, trivial⟩, H39⟩
    omega
   ·have hc38 : (((((nth b k).heads).length : Nat) : Int) = 1) := (of_decide_eq_true (notF hc38))
    refine W_skip (Then_n (W_seq ?_))
    refine W_rgdM TryMixed (fun _ => True) (fun i => i == 9) [(0, .q true), (1, .q false), (2, .q true), (3, .q false), (4, .q true), (5, .q true), (6, .q false), (7, .q true), (8, .c false), (9, .c true)] (by kernel_rfl) ?_
    refine Lx_q (i := 0) rfl rfl _ (fun v40 hv41 => R_fieldAddr (off := 0) (oo := 0) Try.underlying44 rfl rfl Try.sizeOf24 rfl rfl ⟨rfl, Gr.refl _ _⟩) ?_
    refine Lx_q (i := 1) rfl rfl _ (fun v42 hv43 => R_loadA (cs := [[(.int .i64 (((nth b k).node).T))], [(.int .i64 (((nth b k).node).R))]]) Try.isAgg24 Try.sizeOf24 rfl rfl ((boxR_at ((H35.ext hv43).getOwn 1 rfl)).chunks 0 2 0 0 _ rfl rfl rfl) ⟨rfl, Gr.refl _ _⟩) ?_
    refine Lx_q (i := 2) rfl rfl _ (fun v44 hv45 => R_fieldAddr (off := 7) (oo := 7) Try.underlying44 rfl rfl Try.sizeOf42 rfl rfl ⟨rfl, Gr.refl _ _⟩) ?_
    refine Lx_q (i := 3) rfl rfl _ (fun v46 hv47 => R_load1 (v := (slV ((nth b k).hh) ((nth b k).heads))) Try.isAgg42 rfl ((boxR_at ((H35.ext hv47).getOwn 1 rfl)).chunks 7 1 7 7 _ rfl rfl rfl) ⟨rfl, Gr.refl _ _⟩) ?_
    refine Lx_q (i := 4) rfl rfl _ (fun v48 hv49 => R_index_pure (Sl.as ((nth b k).hh) ((nth b k).heads) ((H35.getImm 0 rfl) _ (nth_mem (by omega)))) (n := ((nth b k).heads).length) rfl (j := 0) (oo := (((nth b k).hh).o + 0 * 34)) Try.underlying42 Try.sizeOf62 rfl rfl (by omega) (by omega) rfl ⟨rfl, Gr.refl _ _⟩) ?_
    refine Lx_q (i := 5) rfl rfl _ (fun v50 hv51 => R_fieldAddr (off := 2) (oo := ((((nth b k).hh).o + 0 * 34) + 2)) Try.underlying62 rfl rfl Try.sizeOf36 rfl rfl ⟨rfl, Gr.refl _ _⟩) ?_
    refine Lx_q (i := 6) rfl rfl _ (fun v52 hv53 => R_loadA (cs := [(idCells ((nth ((nth b k).heads) 0).data))]) Try.isAgg36 Try.sizeOf36 rfl rfl ((Sl.elem (Sl.as ((nth b k).hh) ((nth b k).heads) (((H35.ext hv53).getImm 0 rfl) _ (nth_mem (by omega)))) (i := 0) (by omega) rfl).chunks 2 1 2 ((((nth b k).hh).o + 0 * 34) + 2) _ rfl rfl rfl) ⟨rfl, Gr.refl _ _⟩) ?_
    refine Lx_q (i := 7) rfl rfl _ (fun v54 hv55 => R_buildL (vs := [(0, (.int .i64 2)), (2, (aggOf (stampCh ((nth b k).node)))), (5, (aggOf (idCh ((nth ((nth b k).heads) 0).data))))]) (v := aggOf [[(.int .i64 2)], [(.int .i64 0)], [(.int .i64 0)], [(.int .i64 (((nth b k).node).T))], [(.int .i64 (((nth b k).node).R))], [(.int .i64 0)], [(.int .i64 0)], [(.string ByteArray.empty)], (idCells ((nth ((nth b k).heads) 0).data)), [(.slice none 0 0)]]) rfl (fun _ => by kernel_rfl) ⟨rfl, Gr.refl _ _⟩) ?_
    refine Lx_c (i := 8) rfl rfl (fun w56 hw57 => ?_)
    have H58 := H35.ext hw57
    refine (C_alloc H58 [[(.int .i64 0)], [(.int .i64 0)], [(.int .i64 0)], [(.int .i64 0)], [(.int .i64 0)], [(.int .i64 0)], [(.int .i64 0)], [(.string ByteArray.empty)], (idCells zeroId), [(.slice none 0 0)]] Try.zeroValue39 ?_)
    intro b59 w60 hb61 hx62 H63
    refine ⟨GrF.ofExt hx62, ?_⟩
    refine Lx_cu (i := 9) rfl (fun w64 hw65 => ?_)
    have H66 := H63.ext hw65
    refine (C_storeA H66 0 rfl 0 (sub := [[(.int .i64 2)], [(.int .i64 0)], [(.int .i64 0)], [(.int .i64 (((nth b k).node).T))], [(.int .i64 (((nth b k).node).R))], [(.int .i64 0)], [(.int .i64 0)], [(.string ByteArray.empty)], (idCells ((nth ((nth b k).heads) 0).data)), [(.slice none 0 0)]]) [[(.int .i64 2)], [(.int .i64 0)], [(.int .i64 0)], [(.int .i64 (((nth b k).node).T))], [(.int .i64 (((nth b k).node).R))], [(.int .i64 0)], [(.int .i64 0)], [(.string ByteArray.empty)], (idCells ((nth ((nth b k).heads) 0).data)), [(.slice none 0 0)]] Try.sizeOf39 rfl rfl rfl rfl ⟨[[(.int .i64 0)], [(.int .i64 0)], [(.int .i64 0)], [(.int .i64 0)], [(.int .i64 0)], [(.int .i64 0)], [(.int .i64 0)], [(.string ByteArray.empty)], (idCells zeroId), [(.slice none 0 0)]], [], rfl, rfl, rfl⟩ rfl ?_)
    intro w67 hg68 H69
    refine ⟨Gr.mono (M' := fun _ => True) hg68 (fun _ _ => trivial), ?_⟩
    refine Lx_nil (fun w70 hw71 => ?_)
    have H72 := H69.ext hw71
    refine Then_n (W_seq (W_seq (W_reg ?_)))
    refine O_v rfl (R_fieldAddr (off := 7) (oo := 7) Try.underlying44 rfl rfl Try.sizeOf42 rfl rfl ?_)
    refine O_v rfl (R_load1 (v := (slV (((kvGet (tableOf a) ((nth b k).node)).getD zeroRow).hh) (((kvGet (tableOf a) ((nth b k).node)).getD zeroRow).heads))) Try.isAgg42 rfl ((boxR_at (H72.getOwn 1 rfl)).chunks 7 1 7 7 _ rfl rfl rfl) ?_)
    refine O_v rfl (R_len_slice (a := (((kvGet (tableOf a) ((nth b k).node)).getD zeroRow).hh).a) (n := (((kvGet (tableOf a) ((nth b k).node)).getD zeroRow).heads).length) (c := (((kvGet (tableOf a) ((nth b k).node)).getD zeroRow).hh).c) Try.underlying42 rfl ?_)
    refine O_v rfl (R_move (v := (.int .i64 0)) rfl ?_)
    refine O_nil (Then_n (W_block ?_))
    have H73 := H72.addNil 24 2 stampCh
    refine W_loop (fun m74 e75 w76 => ∃ (j : Nat), ∃ (acc : List Stamp), ∃ (ho : SlH), m74 = ((kvGet (tableOf a) (nth b k).node).getD zeroRow).heads.length - j ∧ (j ≤ ((kvGet (tableOf a) (nth b k).node).getD zeroRow).heads.length) ∧ (acc = (((kvGet (tableOf a) (nth b k).node).getD zeroRow).heads.take j).map (·.tm)) ∧ (acc.length ≤ j) ∧ (((kvGet (tableOf a) (nth b k).node).getD zeroRow).heads.length ≤ 1048576) ∧ (∀ c, (slV ho acc).ownBlock = some c → w.heap.size ≤ c) ∧ ∃ eb77, e75 = envL [(0, (.pointer (some ⟨bm, 0, none⟩))), (6, (.bool false)), (7, (.map (some r5))), (8, (.bool one)), (10, (.pointer (some ⟨b17, 0, none⟩))), (11, (.pointer (some ⟨b25, 0, none⟩))), (12, (.pointer (some ⟨b59, 0, none⟩))), (17, (slV hb b)), (18, (.int .i64 ((b.length : Nat) : Int))), (19, (.int .i64 ((k : Nat) : Int))), (20, (.bool (decide (((k : Nat) : Int) < ((b.length : Nat) : Int))))), (21, (.pointer (some ⟨hb.b, (hb.o + k * 8), none⟩))), (22, (aggOf (rowCh (nth b k)))), (23, (.map (some r5))), (24, (.pointer (some ⟨b17, 0, none⟩))), (25, (aggOf (stampCh ((nth b k).node)))), (26, (aggOf (rowCh ((kvGet (tableOf a) ((nth b k).node)).getD zeroRow)))), (27, (aggOf (rowCh ((kvGet (tableOf a) ((nth b k).node)).getD zeroRow)))), (28, (aggOf (rowCh (nth b k)))), (29, (.bool (decide (datas ((kvGet (tableOf a) ((nth b k).node)).getD zeroRow).heads = datas (nth b k).heads)))), (30, (.pointer (some ⟨b17, 7, none⟩))), (31, (slV ((nth b k).hh) ((nth b k).heads))), (32, (.int .i64 ((((nth b k).heads).length : Nat) : Int))), (33, (.bool (!(decide (((((nth b k).heads).length : Nat) : Int) = 1))))), (34, (.pointer (some ⟨b17, 0, none⟩))), (35, (aggOf (stampCh ((nth b k).node)))), (36, (.pointer (some ⟨b17, 7, none⟩))), (37, (slV ((nth b k).hh) ((nth b k).heads))), (38, (.pointer (some ⟨((nth b k).hh).b, (((nth b k).hh).o + 0 * 34), none⟩))), (39, (.pointer (some ⟨((nth b k).hh).b, ((((nth b k).hh).o + 0 * 34) + 2), none⟩))), (40, (aggOf (idCh ((nth ((nth b k).heads) 0).data)))), (41, (aggOf [[(.int .i64 2)], [(.int .i64 0)], [(.int .i64 0)], [(.int .i64 (((nth b k).node).T))], [(.int .i64 (((nth b k).node).R))], [(.int .i64 0)], [(.int .i64 0)], [(.string ByteArray.empty)], (idCells ((nth ((nth b k).heads) 0).data)), [(.slice none 0 0)]])), (42, (.pointer (some ⟨b25, 7, none⟩))), (43, (slV (((kvGet (tableOf a) ((nth b k).node)).getD zeroRow).hh) (((kvGet (tableOf a) ((nth b k).node)).getD zeroRow).heads))), (44, (.int .i64 (((((kvGet (tableOf a) ((nth b k).node)).getD zeroRow).heads).length : Nat) : Int))), (45, (.int .i64 ((j : Nat) : Int)))] eb77 ∧ Ctx w (objM bm m.oh m.ops) w76 [rowR 24 2 stampCh ho acc, boxR b59 39 [[(.int .i64 2)], [(.int .i64 0)], [(.int .i64 0)], [(.int .i64 (((nth b k).node).T))], [(.int .i64 (((nth b k).node).R))], [(.int .i64 0)], [(.int .i64 0)], [(.string ByteArray.empty)], (idCells ((nth ((nth b k).heads) 0).data)), [(slV ho acc)]], boxR b25 44 [[(.int .i64 ((((kvGet (tableOf a) ((nth b k).node)).getD zeroRow).node).T))], [(.int .i64 ((((kvGet (tableOf a) ((nth b k).node)).getD zeroRow).node).R))], [(.int .i64 ((((kvGet (tableOf a) ((nth b k).node)).getD zeroRow).par).T))], [(.int .i64 ((((kvGet (tableOf a) ((nth b k).node)).getD zeroRow).par).R))], [(.int .i64 ((((kvGet (tableOf a) ((nth b k).node)).getD zeroRow).tm).T))], [(.int .i64 ((((kvGet (tableOf a) ((nth b k).node)).getD zeroRow).tm).R))], [(.string (((kvGet (tableOf a) ((nth b k).node)).getD zeroRow).name))], [(slV (((kvGet (tableOf a) ((nth b k).node)).getD zeroRow).hh) (((kvGet (tableOf a) ((nth b k).node)).getD zeroRow).heads))]], boxR b17 44 [[(.int .i64 (((nth b k).node).T))], [(.int .i64 (((nth b k).node).R))], [(.int .i64 (((nth b k).par).T))], [(.int .i64 (((nth b k).par).R))], [(.int .i64 (((nth b k).tm).T))], [(.int .i64 (((nth b k).tm).R))], [(.string ((nth b k).name))], [(slV ((nth b k).hh) ((nth b k).heads))]], mapO r5 (fun x : Stamp => stampV x) rowV (tableOf a), boxR bm 71 [[(.int .i64 mm.at_.T)], [(.int .i64 mm.at_.R)], [(slV mm.oh mm.ops)], [(.bool mm.bad)]], rowR 39 41 opCh mm.oh mm.ops] [deepI Fb headCh 34 (fun x : RowS => x.hh) (fun x : RowS => x.heads) b, slI Fb rowCh 8 hb b, deepI Fa headCh 34 (fun x : RowS => x.hh) (fun x : RowS => x.heads) a, slI Fa rowCh 8 ha a, deepI SS stampCh 2 (fun x : OpS => x.oh) (fun x : OpS => x.over) mm.ops]) _ ⟨0, [], nilH, rfl, (by omega), rfl, (by simp), (tab_heads hha _), (fun c h => by simp [nilH, Value.ownBlock] at h), _, envL_self ⟨rfl, rfl, rfl, rfl, rfl, rfl, rfl, rfl, rfl, rfl, rfl, rfl, rfl, rfl, rfl, rfl, rfl, rfl, rfl, rfl, rfl, rfl, rfl, rfl, rfl, rfl, rfl, rfl, rfl, rfl, rfl, rfl, rfl, rfl, rfl, rfl, trivial⟩, H73⟩ ?_
    rintro m74 _ w76 ⟨j, acc, ho, rfl, hj, hacc, hal, hhw, hov, eb77, rfl, H78⟩
    refine W_seq (W_reg ?_)
    refine O_v rfl (R_cmp (a := ((j : Nat) : Int)) (b := (((((kvGet (tableOf a) ((nth b k).node)).getD zeroRow).heads).length : Nat) : Int)) (r := (decide (((j : Nat) : Int) < (((((kvGet (tableOf a) ((nth b k).node)).getD zeroRow).heads).length : Nat) : Int)))) rfl rfl rfl ?_)
    refine O_nil (Then_n (W_seq ?_))
    refine W_cond (t := (decide (((j : Nat) : Int) < (((((kvGet (tableOf a) ((nth b k).node)).getD zeroRow).heads).length : Nat) : Int)))) rfl (fun hc79 => ?_) (fun hc79 => ?_)
    ·have hc79 : (((j : Nat) : Int) < (((((kvGet (tableOf a) ((nth b k).node)).getD zeroRow).heads).length : Nat) : Int)) := (of_decide_eq_true hc79)
     refine W_skip (Then_n (W_seq (W_block (W_seq (W_reg ?_)))))
     refine O_v rfl (R_index_pure (Sl.as (((kvGet (tableOf a) ((nth b k).node)).getD zeroRow).hh) (((kvGet (tableOf a) ((nth b k).node)).getD zeroRow).heads) (tab_deep (H78.getImm 2 rfl) ((nth b k).node))) (n := (((kvGet (tableOf a) ((nth b k).node)).getD zeroRow).heads).length) rfl (j := ((j : Nat) : Int)) (oo := ((((kvGet (tableOf a) ((nth b k).node)).getD zeroRow).hh).o + j * 34)) Try.underlying42 Try.sizeOf62 rfl rfl (by omega) (by omega) rfl ?_)
     refine O_v rfl (R_loadA (cs := [[(.int .i64 (((nth (((kvGet (tableOf a) ((nth b k).node)).getD zeroRow).heads) j).tm).T))], [(.int .i64 (((nth (((kvGet (tableOf a) ((nth b k).node)).getD zeroRow).heads) j).tm).R))], (idCells ((nth (((kvGet (tableOf a) ((nth b k).node)).getD zeroRow).heads) j).data))]) Try.isAgg62 Try.sizeOf62 rfl rfl ((Sl.elem (Sl.as (((kvGet (tableOf a) ((nth b k).node)).getD zeroRow).hh) (((kvGet (tableOf a) ((nth b k).node)).getD zeroRow).heads) (tab_deep (H78.getImm 2 rfl) ((nth b k).node))) (i := j) (by omega) rfl).chunks 0 3 0 ((((kvGet (tableOf a) ((nth b k).node)).getD zeroRow).hh).o + j * 34) _ rfl rfl rfl) ?_)
     refine O_v rfl (C_alloc H78 [[(.int .i64 0)], [(.int .i64 0)], (idCells zeroId)] Try.zeroValue62 ?_)
     intro b80 w81 hb82 hx83 H84
     refine O_u (C_storeA H84 0 rfl 0 (sub := [[(.int .i64 (((nth (((kvGet (tableOf a) ((nth b k).node)).getD zeroRow).heads) j).tm).T))], [(.int .i64 (((nth (((kvGet (tableOf a) ((nth b k).node)).getD zeroRow).heads) j).tm).R))], (idCells ((nth (((kvGet (tableOf a) ((nth b k).node)).getD zeroRow).heads) j).data))]) [[(.int .i64 (((nth (((kvGet (tableOf a) ((nth b k).node)).getD zeroRow).heads) j).tm).T))], [(.int .i64 (((nth (((kvGet (tableOf a) ((nth b k).node)).getD zeroRow).heads) j).tm).R))], (idCells ((nth (((kvGet (tableOf a) ((nth b k).node)).getD zeroRow).heads) j).data))] Try.sizeOf62 rfl rfl rfl rfl ⟨[[(.int .i64 0)], [(.int .i64 0)], (idCells zeroId)], [], rfl, rfl, rfl⟩ rfl ?_)
     intro w85 hg86 H87
     refine O_nil (Then_n (W_reg ?_))
     refine O_v rfl (R_fieldAddr (off := 40) (oo := 40) Try.underlying39 rfl rfl Try.sizeOf37 rfl rfl ?_)
     refine O_v rfl (R_load1 (v := (slV ho acc)) Try.isAgg37 rfl ((boxR_at (H87.getOwn 2 rfl)).chunks 9 1 40 40 _ rfl rfl rfl) ?_)
     refine O_v rfl (R_fieldAddr (off := 0) (oo := 0) Try.underlying62 rfl rfl Try.sizeOf24 rfl rfl ?_)
     refine O_v rfl (R_loadA (cs := [[(.int .i64 (((nth (((kvGet (tableOf a) ((nth b k).node)).getD zeroRow).heads) j).tm).T))], [(.int .i64 (((nth (((kvGet (tableOf a) ((nth b k).node)).getD zeroRow).heads) j).tm).R))]]) Try.isAgg24 Try.sizeOf24 rfl rfl ((boxR_at (H87.getOwn 0 rfl)).chunks 0 2 0 0 _ rfl rfl rfl) ?_)
     refine O_v rfl (C_buildSliceL H87 (enc := stampCh) (val := stampV) ([((nth (((kvGet (tableOf a) ((nth b k).node)).getD zeroRow).heads) j).tm)] : List Stamp) Try.underlying37 Try.sizeOf24 Try.zeroValue24 rfl (by decide) (fun _ => rfl) (fun _ => rfl) rfl rfl (by decide) ?_)
     intro b88 w89 hb90 hx91 H92
     refine O_v rfl (C_appendN H92 2 rfl (bytes := 16) (l := acc) (ys := ([((nth (((kvGet (tableOf a) ((nth b k).node)).getD zeroRow).heads) j).tm)] : List Stamp)) Try.underlying37 rfl rfl rfl rfl rfl (by decide) rfl rfl (OwnS.sl (H92.getOwn 0 rfl) (fun _ => rfl)) (fun _ => rfl) (fun _ => rfl) (by simp only [List.length_append, List.length_cons, List.length_nil]; omega) (by decide) ?_)
     intro h93 w94 hg95 H96 hn97
     refine O_v rfl (R_fieldAddr (off := 40) (oo := 40) Try.underlying39 rfl rfl Try.sizeOf37 rfl rfl ?_)
     refine O_u (C_store1 H96 3 rfl 9 (v := (slV h93 (acc ++ ([((nth (((kvGet (tableOf a) ((nth b k).node)).getD zeroRow).heads) j).tm)] : List Stamp)))) [[(.int .i64 2)], [(.int .i64 0)], [(.int .i64 0)], [(.int .i64 (((nth b k).node).T))], [(.int .i64 (((nth b k).node).R))], [(.int .i64 0)], [(.int .i64 0)], [(.string ByteArray.empty)], (idCells ((nth ((nth b k).heads) 0).data)), [(slV h93 (acc ++ ([((nth (((kvGet (tableOf a) ((nth b k).node)).getD zeroRow).heads) j).tm)] : List Stamp)))]] Try.sizeOf37 rfl rfl rfl rfl rfl rfl rfl ?_)
     intro w98 hg99 H100
     refine O_nil (Blk_n (Then_n (W_reg ?_)))
     refine O_v rfl (R_arith (a := ((j : Nat) : Int)) (b := 1) (r0 := ((j : Nat) : Int) + 1) (r := ((j + 1 : Nat) : Int)) rfl rfl rfl (wrapN _ (by omega)) ?_)
     refine O_v rfl (R_move (v := (.int .i64 ((j + 1 : Nat) : Int))) rfl ?_)
     refine O_nil (Then_n ?_)
     have H101 := H100.sub (B' := [rowR 24 2 stampCh h93 (acc ++ ([((nth (((kvGet (tableOf a) ((nth b k).node)).getD zeroRow).heads) j).tm)] : List Stamp)), boxR b59 39 [[(.int .i64 2)], [(.int .i64 0)], [(.int .i64 0)], [(.int .i64 (((nth b k).node).T))], [(.int .i64 (((nth b k).node).R))], [(.int .i64 0)], [(.int .i64 0)], [(.string ByteArray.empty)], (idCells ((nth ((nth b k).heads) 0).data)), [(slV h93 (acc ++ ([((nth (((kvGet (tableOf a) ((nth b k).node)).getD zeroRow).heads) j).tm)] : List Stamp)))]], boxR b25 44 [[(.int .i64 ((((kvGet (tableOf a) ((nth b k).node)).getD zeroRow).node).T))], [(.int .i64 ((((kvGet (tableOf a) ((nth b k).node)).getD zeroRow).node).R))], [(.int .i64 ((((kvGet (tableOf a) ((nth b k).node)).getD zeroRow).par).T))], [(.int .i64 ((((kvGet (tableOf a) ((nth b k).node)).getD zeroRow).par).R))], [(.int .i64 ((((kvGet (tableOf a) ((nth b k).node)).getD zeroRow).tm).T))], [(.int .i64 ((((kvGet (tableOf a) ((nth b k).node)).getD zeroRow).tm).R))], [(.string (((kvGet (tableOf a) ((nth b k).node)).getD zeroRow).name))], [(slV (((kvGet (tableOf a) ((nth b k).node)).getD zeroRow).hh) (((kvGet (tableOf a) ((nth b k).node)).getD zeroRow).heads))]], boxR b17 44 [[(.int .i64 (((nth b k).node).T))], [(.int .i64 (((nth b k).node).R))], [(.int .i64 (((nth b k).par).T))], [(.int .i64 (((nth b k).par).R))], [(.int .i64 (((nth b k).tm).T))], [(.int .i64 (((nth b k).tm).R))], [(.string ((nth b k).name))], [(slV ((nth b k).hh) ((nth b k).heads))]], mapO r5 (fun x : Stamp => stampV x) rowV (tableOf a), boxR bm 71 [[(.int .i64 mm.at_.T)], [(.int .i64 mm.at_.R)], [(slV mm.oh mm.ops)], [(.bool mm.bad)]], rowR 39 41 opCh mm.oh mm.ops]) (I' := [deepI Fb headCh 34 (fun x : RowS => x.hh) (fun x : RowS => x.heads) b, slI Fb rowCh 8 hb b, deepI Fa headCh 34 (fun x : RowS => x.hh) (fun x : RowS => x.heads) a, slI Fa rowCh 8 ha a, deepI SS stampCh 2 (fun x : OpS => x.oh) (fun x : OpS => x.over) mm.ops]) (List.Sublist.cons _ (List.Sublist.cons _ (List.Sublist.cons_cons _ (List.Sublist.cons_cons _ (List.Sublist.cons_cons _ (List.Sublist.cons_cons _ (List.Sublist.cons_cons _ (List.Sublist.cons_cons _ (List.Sublist.cons_cons _ List.Sublist.slnil))))))))) (List.forall_mem_cons.2 ⟨List.mem_of_getElem? (i := 0) rfl, List.forall_mem_cons.2 ⟨List.mem_of_getElem? (i := 1) rfl, List.forall_mem_cons.2 ⟨List.mem_of_getElem? (i := 2) rfl, List.forall_mem_cons.2 ⟨List.mem_of_getElem? (i := 3) rfl, List.forall_mem_cons.2 ⟨List.mem_of_getElem? (i := 4) rfl, fun _ h => (nomatch h)⟩⟩⟩⟩⟩)
     refine ⟨_, ?_, (j + 1), (acc ++ ([((nth (((kvGet (tableOf a) ((nth b k).node)).getD zeroRow).heads) j).tm)] : List Stamp)), h93, rfl, (by omega), (over_step hacc (by omega)), (by simp only [List.length_append, List.length_cons, List.length_nil]; omega), hhw, (fun c hc => (hn97 c hc).elim (hov c) (fun h => Nat.le_trans H92.gr.size h)), _, envL_self ⟨rfl, rfl, rfl, rfl, rfl, rfl, rfl, rfl, rfl, rfl, rfl, rfl, rfl, rfl, rfl, rfl, rfl, rfl, rfl, rfl, rfl, rfl, rfl, rfl, rfl, rfl, rfl, rfl, rfl, rfl, rfl, rfl, rfl, rfl, rfl, rfl, trivial⟩, H101⟩
     omega
    ·have hc79 : ¬ (((j : Nat) : Int) < (((((kvGet (tableOf a) ((nth b k).node)).getD zeroRow).heads).length : Nat) : Int)) := (of_decide_eq_false hc79)
     refine W_exit (Then_x (Then_x (Blk_x (Then_n (W_reg ?_)))))
     refine O_v rfl (R_move (v := (.pointer (some ⟨bm, 0, none⟩))) rfl ?_)
     refine O_v rfl (R_loadA (cs := [[(.int .i64 2)], [(.int .i64 0)], [(.int .i64 0)], [(.int .i64 (((nth b k).node).T))], [(.int .i64 (((nth b k).node).R))], [(.int .i64 0)], [(.int .i64 0)], [(.string ByteArray.empty)], (idCells ((nth ((nth b k).heads) 0).data)), [(slV ho acc)]]) Try.isAgg39 Try.sizeOf39 rfl rfl ((boxR_at (H78.getOwn 1 rfl)).chunks 0 10 0 0 _ rfl rfl rfl) ?_)
     have H102 := H78.freeze 0 rfl (fun _ => rfl)
     refine O_v rfl (R_callL (vs := [(.pointer (some ⟨bm, 0, none⟩)), (aggOf [[(.int .i64 2)], [(.int .i64 0)], [(.int .i64 0)], [(.int .i64 (((nth b k).node).T))], [(.int .i64 (((nth b k).node).R))], [(.int .i64 0)], [(.int .i64 0)], [(.string ByteArray.empty)], (idCells ((nth ((nth b k).heads) 0).data)), [(slV ho acc)]])]) maker_edits_c53 rfl rfl ((maker_put bm mm SS ({ kind := 2, tm := ({ T := 0, R := 0 } : Stamp), node := ((nth b k).node), par := ({ T := 0, R := 0 } : Stamp), name := ByteArray.empty, data := (nth ((nth b k).heads) 0).data, over := acc, oh := ho } : OpS) w76 ((H102.pick (B' := [boxR bm 71 [[(.int .i64 mm.at_.T)], [(.int .i64 mm.at_.R)], [(slV mm.oh mm.ops)], [(.bool mm.bad)]], rowR 39 41 opCh mm.oh mm.ops]) (I' := [deepI SS stampCh 2 (fun x : OpS => x.oh) (fun x : OpS => x.over) mm.ops]) [4, 5] (by decide) rfl (List.forall_mem_cons.2 ⟨List.mem_of_getElem? (i := 5) rfl, fun _ h => (nomatch h)⟩)).objStart) (fun b => (slV ho acc).ownBlock = some b) (H102.objFree 4 5 rfl rfl 0 rfl) (H102.sl 0 rfl) (fun h => absurd h (show ¬ (2 : Int) = 1 by decide)) (T_room hst hT (by have := edits_len a b k; omega)) (L_room hst hml (by have := edits_len a b k; omega))).ret ?_))
     rintro _ w105 ⟨m103, S104, rfl, hg106, hQ107, hk108, hS109, hr110⟩
     have H111 := H102.obj2 4 5 (by decide) rfl rfl rfl (fun _ h => h) hg106 hQ107 rfl hk108 (fun c hc => (hS109 c hc).elim (fun h => .inl ⟨_, List.mem_of_getElem? (i := 5) rfl, h⟩) (fun h => h.elim .inr (fun h => .inl ⟨_, List.mem_of_getElem? (i := 0) rfl, h⟩)))
     refine O_nil (Blk_n (Then_n (W_reg ?_)))
     refine O_v rfl (R_arith (a := ((k : Nat) : Int)) (b := 1) (r0 := ((k : Nat) : Int) + 1) (r := ((k + 1 : Nat) : Int)) rfl rfl rfl (wrapN _ (by omega)) ?_)
     refine O_v rfl (R_move (v := (.int .i64 ((k + 1 : Nat) : Int))) rfl ?_)
     refine O_nil (Then_n ?_)
     have H112 := H111.sub (B' := [mapO r5 (fun x : Stamp => stampV x) rowV (tableOf a), boxR bm 71 [[(.int .i64 m103.at_.T)], [(.int .i64 m103.at_.R)], [(slV m103.oh m103.ops)], [(.bool m103.bad)]], rowR 39 41 opCh m103.oh m103.ops]) (I' := [deepI Fb headCh 34 (fun x : RowS => x.hh) (fun x : RowS => x.heads) b, slI Fb rowCh 8 hb b, deepI Fa headCh 34 (fun x : RowS => x.hh) (fun x : RowS => x.heads) a, slI Fa rowCh 8 ha a, deepI S104 stampCh 2 (fun x : OpS => x.oh) (fun x : OpS => x.over) m103.ops]) (List.Sublist.cons _ (List.Sublist.cons _ (List.Sublist.cons _ (List.Sublist.cons_cons _ (List.Sublist.cons_cons _ (List.Sublist.cons_cons _ List.Sublist.slnil)))))) (List.forall_mem_cons.2 ⟨List.mem_of_getElem? (i := 2) rfl, List.forall_mem_cons.2 ⟨List.mem_of_getElem? (i := 3) rfl, List.forall_mem_cons.2 ⟨List.mem_of_getElem? (i := 4) rfl, List.forall_mem_cons.2 ⟨List.mem_of_getElem? (i := 5) rfl, List.forall_mem_cons.2 ⟨List.mem_of_getElem? (i := 0) rfl, fun _ h => (nomatch h)⟩⟩⟩⟩⟩)
     refine ⟨_, ?_, (k + 1), m103, one, S104, rfl, (by omega), (edits_put hst hone (by omega) (by assumption) (by omega) (by rw [over_end hacc (by omega)]; rfl) (put_st hr110)).1, (edits_put hst hone (by omega) (by assumption) (by omega) (by rw [over_end hacc (by omega)]; rfl) (put_st hr110)).2, (SS_stepF hSS hS109 H102.gr.size hov), _, envL_self ⟨rfl, rfl, rfl, rfl, rfl, rfl, rfl, trivial⟩, H112⟩
     omega
 ·have hc16 : ¬ (((k : Nat) : Int) < ((b.length : Nat) : Int)) := (of_decide_eq_false hc16)
  refine W_exit (Then_x (Then_x (Blk_x (Then_n (W_seq (W_reg ?_))))))
  refine O_v rfl (R_move (v := (.bool one)) rfl ?_)
  refine O_v rfl (R_assign (v := (.bool one)) rfl ?_)
  refine O_nil (Then_n (W_ret ?_))
  refine ret_1 (v := (.bool one)) Try.results37 rfl ?_
  have HQ := (H15.pick (B' := [boxR bm 71 [[(.int .i64 mm.at_.T)], [(.int .i64 mm.at_.R)], [(slV mm.oh mm.ops)], [(.bool mm.bad)]], rowR 39 41 opCh mm.oh mm.ops]) (I' := [deepI SS stampCh 2 (fun x : OpS => x.oh) (fun x : OpS => x.over) mm.ops]) [1, 2] (by decide) rfl (List.forall_mem_cons.2 ⟨List.mem_of_getElem? (i := 4) rfl, fun _ h => (nomatch h)⟩)).objStart
  exact ⟨mm, _, (by rw [hone, List.take_of_length_le (by omega)]), H15.gr, HQ, H15.objBlk 1 2 (by decide) rfl rfl, hSS, (by rw [hst, List.take_of_length_le (by omega)])⟩

end Go.Proofs.Ytiknfldhommmpaa
