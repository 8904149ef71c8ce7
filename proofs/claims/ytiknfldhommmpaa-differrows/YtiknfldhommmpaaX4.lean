/- Proved: for every input, pollardlaw14.DifferRows returns true and leaves its arguments as they were. No condition. -/
import Derived.Test.YtiknfldhommmpaaX3
namespace Go.Proofs.Ytiknfldhommmpaa
open Go
set_option maxRecDepth 100000
set_option linter.unusedVariables false
set_option linter.unusedSimpArgs false
theorem maker_moves_c24 : callable Try.prog 24 = true := by kernel_rfl
theorem maker_moves_c26 : callable Try.prog 26 = true := by kernel_rfl
theorem maker_moves_c49 : callable Try.prog 49 = true := by kernel_rfl
theorem maker_moves_c50 : callable Try.prog 50 = true := by kernel_rfl
theorem maker_moves_c53 : callable Try.prog 53 = true := by kernel_rfl
set_option maxHeartbeats 1000000 in
theorem maker_moves (bm : Nat) (m : MakerS) (Sm : Nat → Prop) (ha : SlH) (a : List RowS) (hb : SlH) (b : List RowS) (w : World) (Qm : Ctx w (objM bm m.oh m.ops) w [boxR bm 71 (makerCh m), rowR 39 41 opCh m.oh m.ops] [deepI Sm stampCh 2 (fun x : OpS => x.oh) (fun x : OpS => x.over) m.ops]) (Fa : Nat → Prop) (Xa : ∀ c, Fa c → c < w.heap.size ∧ ¬ (objM bm m.oh m.ops) c) (Sa : Sl Fa rowCh 8 ha a w) (Fb : Nat → Prop) (Xb : ∀ c, Fb c → c < w.heap.size ∧ ¬ (objM bm m.oh m.ops) c) (Sb : Sl Fb rowCh 8 hb b w) (hla : a.length ≤ 5000) (hlb : b.length ≤ 5000) (hdep : ∀ x ∈ b, depN (tableOf b) (depOf (tableOf b) x.node) x.node ∧ depOf (tableOf b) x.node ≤ 9223372036854775806) (hna : ∀ x ∈ a, asciiOr x.name) (hnb : ∀ x ∈ b, asciiOr x.name) (hT : 0 ≤ m.at_.T ∧ m.at_.T ≤ 2199023255552) (hml : m.ops.length ≤ 100000) :
    Calls Try.prog 36 #[(.pointer (some ⟨bm, 0, none⟩)), (slV ha a), (slV hb b)] w (Ret fun v w' => ∃ (m' : MakerS) (S' : Nat → Prop), v = .tuple #[] ∧ Gr (objM bm m.oh m.ops) w w' ∧ Ctx w' (objM bm m'.oh m'.ops) w' [boxR bm 71 (makerCh m'), rowR 39 41 opCh m'.oh m'.ops] [deepI S' stampCh 2 (fun x : OpS => x.oh) (fun x : OpS => x.over) m'.ops] ∧ (∀ c, (slV m'.oh m'.ops).ownBlock = some c → (slV m.oh m.ops).ownBlock = some c ∨ w.heap.size ≤ c) ∧ (∀ c, S' c → Sm c ∨ w.heap.size ≤ c) ∧ (∃ L : List RowS, L.Perm (b.filter (needs a)) ∧ m'.st = (L.map mvOp ++ (a.filter (gone b)).map trOp).foldl putC m.st)) := by
 refine calls_W Try.func36 rfl Try.ntmps36 rfl ?_
 have H0 := Qm
 have H1 := H0.addSl _ Sa (fun b hb => ⟨(Xa b hb).1, objSide (Xa b hb).2⟩)
 have LSa := Sa.len
 have H2 := H1.addSl _ Sb (fun b hb => ⟨(Xb b hb).1, objSide (Xb b hb).2⟩)
 have LSb := Sb.len
 refine W_seq (W_reg ?_)
 refine O_v rfl (R_move (v := (slV ha a)) rfl ?_)
 refine O_v rfl (R_callL (vs := [(slV ha a)]) maker_moves_c24 rfl rfl ((differ_of ha a w (H2.slOld 1 rfl)).ret ?_))
 rintro _ w4 ⟨r3, rfl, hx5, hr6, hm7⟩
 have H8 := C_addMap H2 hx5 hr6 hm7
 refine O_v rfl (R_move (v := (slV hb b)) rfl ?_)
 refine O_v rfl (R_callL (vs := [(slV hb b)]) maker_moves_c24 rfl rfl ((differ_of hb b w4 (H8.slOld 0 rfl)).ret ?_))
 rintro _ w10 ⟨r9, rfl, hx11, hr12, hm13⟩
 have H14 := C_addMap H8 hx11 hr12 hm13
 refine O_v rfl (C_alloc1 H14 (z := (.map none)) Try.zeroValue56 rfl ?_)
 intro b15 w16 hb17 hx18 H19
 refine O_v rfl (R_assign (v := (.map (some r3))) rfl ?_)
 refine O_u (C_store1 H19 0 rfl 0 (v := (.map (some r9))) [[(.map (some r9))]] Try.sizeOf56 rfl rfl rfl rfl rfl rfl rfl ?_)
 intro w20 hg21 H22
 refine O_nil (Then_n (W_seq (W_reg ?_)))
 refine O_v rfl (R_assign (v := (.slice none 0 0)) rfl ?_)
 refine O_nil (Then_n (W_seq (W_seq (W_reg ?_))))
 refine O_v rfl (R_move (v := (slV hb b)) rfl ?_)
 refine O_v rfl (R_len_slice (a := hb.a) (n := b.length) (c := hb.c) Try.underlying22 rfl ?_)
 refine O_v rfl (R_move (v := (.int .i64 0)) rfl ?_)
 refine O_nil (Then_n (W_block ?_))
 have H23 := H22.addNil 44 8 rowCh
 refine W_loop (fun m25 e26 w27 => ∃ (k : Nat), ∃ (acc : List RowS), ∃ (h24 : SlH), m25 = b.length - k ∧ (k ≤ b.length) ∧ (acc = (b.take k).filter (needs a)) ∧ (acc.length ≤ k) ∧ ∃ eb28, e26 = envL [(0, (.pointer (some ⟨bm, 0, none⟩))), (1, (slV ha a)), (6, (.map (some r3))), (7, (.pointer (some ⟨b15, 0, none⟩))), (8, (slV h24 acc)), (23, (slV hb b)), (24, (.int .i64 ((b.length : Nat) : Int))), (25, (.int .i64 ((k : Nat) : Int)))] eb28 ∧ Ctx w (objM bm m.oh m.ops) w27 [rowR 44 8 rowCh h24 acc, boxR b15 56 [[(.map (some r9))]], mapO r9 (fun x : Stamp => stampV x) rowV (tableOf b), mapO r3 (fun x : Stamp => stampV x) rowV (tableOf a), boxR bm 71 [[(.int .i64 m.at_.T)], [(.int .i64 m.at_.R)], [(slV m.oh m.ops)], [(.bool m.bad)]], rowR 39 41 opCh m.oh m.ops] [slI Fb rowCh 8 hb b, slI Fa rowCh 8 ha a, deepI Sm stampCh 2 (fun x : OpS => x.oh) (fun x : OpS => x.over) m.ops]) _ ⟨0, [], nilH, rfl, (by omega), rfl, (by simp), _, envL_self ⟨rfl, rfl, rfl, rfl, rfl, rfl, rfl, rfl, trivial⟩, H23⟩ ?_
 rintro m25 _ w27 ⟨k, acc, h24, rfl, hk, hacc, hal, eb28, rfl, H29⟩
 refine W_seq (W_reg ?_)
 refine O_v rfl (R_cmp (a := ((k : Nat) : Int)) (b := ((b.length : Nat) : Int)) (r := (decide (((k : Nat) : Int) < ((b.length : Nat) : Int)))) rfl rfl rfl ?_)
 refine O_nil (Then_n (W_seq ?_))
 refine W_cond (t := (decide (((k : Nat) : Int) < ((b.length : Nat) : Int)))) rfl (fun hc30 => ?_) (fun hc30 => ?_)
 ·have hc30 : (((k : Nat) : Int) < ((b.length : Nat) : Int)) := (of_decide_eq_true hc30)
  refine W_skip (Then_n (W_seq (W_block (W_seq (W_reg ?_)))))
  refine O_v rfl (R_index_pure (H29.sl 0 rfl) (n := b.length) rfl (j := ((k : Nat) : Int)) (oo := (hb.o + k * 8)) Try.underlying22 Try.sizeOf44 rfl rfl (by omega) (by omega) rfl ?_)
  refine O_v rfl (R_loadA (cs := [[(.int .i64 (((nth b k).node).T))], [(.int .i64 (((nth b k).node).R))], [(.int .i64 (((nth b k).par).T))], [(.int .i64 (((nth b k).par).R))], [(.int .i64 (((nth b k).tm).T))], [(.int .i64 (((nth b k).tm).R))], [(.string ((nth b k).name))], [(slV ((nth b k).hh) ((nth b k).heads))]]) Try.isAgg44 Try.sizeOf44 rfl rfl ((Sl.elem (H29.sl 0 rfl) (i := k) (by omega) rfl).chunks 0 8 0 (hb.o + k * 8) _ rfl rfl rfl) ?_)
  refine O_v rfl (C_alloc H29 [[(.int .i64 0)], [(.int .i64 0)], [(.int .i64 0)], [(.int .i64 0)], [(.int .i64 0)], [(.int .i64 0)], [(.string ByteArray.empty)], [(.slice none 0 0)]] Try.zeroValue44 ?_)
  intro b31 w32 hb33 hx34 H35
  refine O_u (C_storeA H35 0 rfl 0 (sub := [[(.int .i64 (((nth b k).node).T))], [(.int .i64 (((nth b k).node).R))], [(.int .i64 (((nth b k).par).T))], [(.int .i64 (((nth b k).par).R))], [(.int .i64 (((nth b k).tm).T))], [(.int .i64 (((nth b k).tm).R))], [(.string ((nth b k).name))], [(slV ((nth b k).hh) ((nth b k).heads))]]) [[(.int .i64 (((nth b k).node).T))], [(.int .i64 (((nth b k).node).R))], [(.int .i64 (((nth b k).par).T))], [(.int .i64 (((nth b k).par).R))], [(.int .i64 (((nth b k).tm).T))], [(.int .i64 (((nth b k).tm).R))], [(.string ((nth b k).name))], [(slV ((nth b k).hh) ((nth b k).heads))]] Try.sizeOf44 rfl rfl rfl rfl ⟨[[(.int .i64 0)], [(.int .i64 0)], [(.int .i64 0)], [(.int .i64 0)], [(.int .i64 0)], [(.int .i64 0)], [(.string ByteArray.empty)], [(.slice none 0 0)]], [], rfl, rfl, rfl⟩ rfl ?_)
  intro w36 hg37 H38
  refine O_nil (Then_n (W_seq (W_reg ?_)))
  refine O_v rfl (R_move (v := (.map (some r3))) rfl ?_)
  refine O_v rfl (R_fieldAddr (off := 0) (oo := 0) Try.underlying44 rfl rfl Try.sizeOf24 rfl rfl ?_)
  refine O_v rfl (R_loadA (cs := [[(.int .i64 (((nth b k).node).T))], [(.int .i64 (((nth b k).node).R))]]) Try.isAgg24 Try.sizeOf24 rfl rfl ((boxR_at (H38.getOwn 0 rfl)).chunks 0 2 0 0 _ rfl rfl rfl) ?_)
  refine O_v rfl (R_lookupOk (kk := ((nth b k).node)) (z := zeroRow) keyT_Stamp24 Try.underlying56 Try.zeroValue44 (H38.getOwn 4 rfl) rfl rfl ?_)
  refine O_v rfl (R_move (v := (.tuple #[(aggOf (rowCh ((kvGet (tableOf a) ((nth b k).node)).getD zeroRow))), (.bool ((kvGet (tableOf a) ((nth b k).node)).isSome))])) rfl ?_)
  refine O_v rfl (R_extract (v := (aggOf (rowCh ((kvGet (tableOf a) ((nth b k).node)).getD zeroRow)))) rfl rfl ?_)
  refine O_v rfl (R_extract (v := (.bool ((kvGet (tableOf a) ((nth b k).node)).isSome))) rfl rfl ?_)
  refine O_v rfl (C_alloc H38 [[(.int .i64 0)], [(.int .i64 0)], [(.int .i64 0)], [(.int .i64 0)], [(.int .i64 0)], [(.int .i64 0)], [(.string ByteArray.empty)], [(.slice none 0 0)]] Try.zeroValue44 ?_)
  intro b39 w40 hb41 hx42 H43
  refine O_u (C_storeA H43 0 rfl 0 (sub := [[(.int .i64 ((((kvGet (tableOf a) ((nth b k).node)).getD zeroRow).node).T))], [(.int .i64 ((((kvGet (tableOf a) ((nth b k).node)).getD zeroRow).node).R))], [(.int .i64 ((((kvGet (tableOf a) ((nth b k).node)).getD zeroRow).par).T))], [(.int .i64 ((((kvGet (tableOf a) ((nth b k).node)).getD zeroRow).par).R))], [(.int .i64 ((((kvGet (tableOf a) ((nth b k).node)).getD zeroRow).tm).T))], [(.int .i64 ((((kvGet (tableOf a) ((nth b k).node)).getD zeroRow).tm).R))], [(.string (((kvGet (tableOf a) ((nth b k).node)).getD zeroRow).name))], [(slV (((kvGet (tableOf a) ((nth b k).node)).getD zeroRow).hh) (((kvGet (tableOf a) ((nth b k).node)).getD zeroRow).heads))]]) [[(.int .i64 ((((kvGet (tableOf a) ((nth b k).node)).getD zeroRow).node).T))], [(.int .i64 ((((kvGet (tableOf a) ((nth b k).node)).getD zeroRow).node).R))], [(.int .i64 ((((kvGet (tableOf a) ((nth b k).node)).getD zeroRow).par).T))], [(.int .i64 ((((kvGet (tableOf a) ((nth b k).node)).getD zeroRow).par).R))], [(.int .i64 ((((kvGet (tableOf a) ((nth b k).node)).getD zeroRow).tm).T))], [(.int .i64 ((((kvGet (tableOf a) ((nth b k).node)).getD zeroRow).tm).R))], [(.string (((kvGet (tableOf a) ((nth b k).node)).getD zeroRow).name))], [(slV (((kvGet (tableOf a) ((nth b k).node)).getD zeroRow).hh) (((kvGet (tableOf a) ((nth b k).node)).getD zeroRow).heads))]] Try.sizeOf44 rfl rfl rfl rfl ⟨[[(.int .i64 0)], [(.int .i64 0)], [(.int .i64 0)], [(.int .i64 0)], [(.int .i64 0)], [(.int .i64 0)], [(.string ByteArray.empty)], [(.slice none 0 0)]], [], rfl, rfl, rfl⟩ rfl ?_)
  intro w44 hg45 H46
  refine O_v rfl (R_assign (v := (.bool ((kvGet (tableOf a) ((nth b k).node)).isSome))) rfl ?_)
  refine O_nil (Then_n (W_seq ?_))
  refine W_rg [(0, .q false), (1, .q false), (2, .q false), (3, .q false), (4, .q false), (5, .q false), (6, .q false), (7, .q false), (8, .q false), (9, .q false), (10, .q false), (11, .q false), (12, .q false), (13, .q false), (14, .q false), (15, .q false)] (by kernel_rfl) ?_
  refine Lx_q (i := 0) rfl rfl _ (fun v47 hv48 => R_move (v := (.bool ((kvGet (tableOf a) ((nth b k).node)).isSome))) rfl ⟨rfl, Gr.refl _ _⟩) ?_
  refine Lx_q (i := 1) rfl rfl _ (fun v49 hv50 => R_not rfl ⟨rfl, Gr.refl _ _⟩) ?_
  refine Lx_q (i := 2) rfl rfl _ (fun v51 hv52 => R_move (v := (.bool (!((kvGet (tableOf a) ((nth b k).node)).isSome)))) rfl ⟨rfl, Gr.refl _ _⟩) ?_
  refine Lx_qg (i := 3) true (!((kvGet (tableOf a) ((nth b k).node)).isSome)) rfl rfl rfl rfl rfl (!(!((kvGet (tableOf a) ((nth b k).node)).isSome))) ga_f _ (fun hA v53 hv54 => R_fieldAddr (off := 2) (oo := 2) Try.underlying44 rfl rfl Try.sizeOf24 rfl rfl ⟨rfl, Gr.refl _ _⟩) ?_
  refine Lx_qg (i := 4) true (!((kvGet (tableOf a) ((nth b k).node)).isSome)) rfl rfl rfl rfl rfl (!(!((kvGet (tableOf a) ((nth b k).node)).isSome))) ga_f _ (fun hA v55 hv56 => R_loadA (cs := [[(.int .i64 ((((kvGet (tableOf a) ((nth b k).node)).getD zeroRow).par).T))], [(.int .i64 ((((kvGet (tableOf a) ((nth b k).node)).getD zeroRow).par).R))]]) Try.isAgg24 Try.sizeOf24 rfl (gv_t hA) ((boxR_at ((H46.ext hv56).getOwn 0 rfl)).chunks 2 2 2 2 _ rfl rfl rfl) ⟨rfl, Gr.refl _ _⟩) ?_
  refine Lx_qg (i := 5) true (!((kvGet (tableOf a) ((nth b k).node)).isSome)) rfl rfl rfl rfl rfl (!(!((kvGet (tableOf a) ((nth b k).node)).isSome))) ga_f _ (fun hA v57 hv58 => R_fieldAddr (off := 2) (oo := 2) Try.underlying44 rfl rfl Try.sizeOf24 rfl rfl ⟨rfl, Gr.refl _ _⟩) ?_
  refine Lx_qg (i := 6) true (!((kvGet (tableOf a) ((nth b k).node)).isSome)) rfl rfl rfl rfl rfl (!(!((kvGet (tableOf a) ((nth b k).node)).isSome))) ga_f _ (fun hA v59 hv60 => R_loadA (cs := [[(.int .i64 (((nth b k).par).T))], [(.int .i64 (((nth b k).par).R))]]) Try.isAgg24 Try.sizeOf24 rfl (gv_t hA) ((boxR_at ((H46.ext hv60).getOwn 1 rfl)).chunks 2 2 2 2 _ rfl rfl rfl) ⟨rfl, Gr.refl _ _⟩) ?_
  refine Lx_qg (i := 7) true (!((kvGet (tableOf a) ((nth b k).node)).isSome)) rfl rfl rfl rfl rfl (!(!((kvGet (tableOf a) ((nth b k).node)).isSome))) ga_f _ (fun hA v61 hv62 => R_nev (a := (((kvGet (tableOf a) ((nth b k).node)).getD zeroRow).par)) (b := ((nth b k).par)) eqv_Stamp24 rfl Try.eqGuardType24 (gv_t hA) (gv_t hA) ⟨rfl, Gr.refl _ _⟩) ?_
  refine Lx_q (i := 8) rfl rfl _ (fun v63 hv64 => R_pick (t := (!((kvGet (tableOf a) ((nth b k).node)).isSome))) (v := (.bool ((!((kvGet (tableOf a) ((nth b k).node)).isSome)) || (!(decide ((((kvGet (tableOf a) ((nth b k).node)).getD zeroRow).par) = ((nth b k).par))))))) rfl pk_or ⟨rfl, Gr.refl _ _⟩) ?_
  refine Lx_q (i := 9) rfl rfl _ (fun v65 hv66 => R_move (v := (.bool ((!((kvGet (tableOf a) ((nth b k).node)).isSome)) || (!(decide ((((kvGet (tableOf a) ((nth b k).node)).getD zeroRow).par) = ((nth b k).par))))))) rfl ⟨rfl, Gr.refl _ _⟩) ?_
  refine Lx_qg (i := 10) true ((!((kvGet (tableOf a) ((nth b k).node)).isSome)) || (!(decide ((((kvGet (tableOf a) ((nth b k).node)).getD zeroRow).par) = ((nth b k).par))))) rfl rfl rfl rfl rfl (!((!((kvGet (tableOf a) ((nth b k).node)).isSome)) || (!(decide ((((kvGet (tableOf a) ((nth b k).node)).getD zeroRow).par) = ((nth b k).par)))))) ga_f _ (fun hA v67 hv68 => R_fieldAddr (off := 6) (oo := 6) Try.underlying44 rfl rfl Try.sizeOf9 rfl rfl ⟨rfl, Gr.refl _ _⟩) ?_
  refine Lx_qg (i := 11) true ((!((kvGet (tableOf a) ((nth b k).node)).isSome)) || (!(decide ((((kvGet (tableOf a) ((nth b k).node)).getD zeroRow).par) = ((nth b k).par))))) rfl rfl rfl rfl rfl (!((!((kvGet (tableOf a) ((nth b k).node)).isSome)) || (!(decide ((((kvGet (tableOf a) ((nth b k).node)).getD zeroRow).par) = ((nth b k).par)))))) ga_f _ (fun hA v69 hv70 => R_load1 (v := (.string (((kvGet (tableOf a) ((nth b k).node)).getD zeroRow).name))) Try.isAgg9 (gv_t hA) ((boxR_at ((H46.ext hv70).getOwn 0 rfl)).chunks 6 1 6 6 _ rfl rfl rfl) ⟨rfl, Gr.refl _ _⟩) ?_
  refine Lx_qg (i := 12) true ((!((kvGet (tableOf a) ((nth b k).node)).isSome)) || (!(decide ((((kvGet (tableOf a) ((nth b k).node)).getD zeroRow).par) = ((nth b k).par))))) rfl rfl rfl rfl rfl (!((!((kvGet (tableOf a) ((nth b k).node)).isSome)) || (!(decide ((((kvGet (tableOf a) ((nth b k).node)).getD zeroRow).par) = ((nth b k).par)))))) ga_f _ (fun hA v71 hv72 => R_fieldAddr (off := 6) (oo := 6) Try.underlying44 rfl rfl Try.sizeOf9 rfl rfl ⟨rfl, Gr.refl _ _⟩) ?_
  refine Lx_qg (i := 13) true ((!((kvGet (tableOf a) ((nth b k).node)).isSome)) || (!(decide ((((kvGet (tableOf a) ((nth b k).node)).getD zeroRow).par) = ((nth b k).par))))) rfl rfl rfl rfl rfl (!((!((kvGet (tableOf a) ((nth b k).node)).isSome)) || (!(decide ((((kvGet (tableOf a) ((nth b k).node)).getD zeroRow).par) = ((nth b k).par)))))) ga_f _ (fun hA v73 hv74 => R_load1 (v := (.string ((nth b k).name))) Try.isAgg9 (gv_t hA) ((boxR_at ((H46.ext hv74).getOwn 1 rfl)).chunks 6 1 6 6 _ rfl rfl rfl) ⟨rfl, Gr.refl _ _⟩) ?_
  refine Lx_qg (i := 14) true ((!((kvGet (tableOf a) ((nth b k).node)).isSome)) || (!(decide ((((kvGet (tableOf a) ((nth b k).node)).getD zeroRow).par) = ((nth b k).par))))) rfl rfl rfl rfl rfl (!((!((kvGet (tableOf a) ((nth b k).node)).isSome)) || (!(decide ((((kvGet (tableOf a) ((nth b k).node)).getD zeroRow).par) = ((nth b k).par)))))) ga_f _ (fun hA v75 hv76 => R_cmpS (a := ((kvGet (tableOf a) ((nth b k).node)).getD zeroRow).name) (b := (nth b k).name) (r := (!(decide (((kvGet (tableOf a) ((nth b k).node)).getD zeroRow).name = (nth b k).name)))) (gv_t hA) (gv_t hA) rfl ⟨rfl, Gr.refl _ _⟩) ?_
  refine Lx_q (i := 15) rfl rfl _ (fun v77 hv78 => R_pick (t := ((!((kvGet (tableOf a) ((nth b k).node)).isSome)) || (!(decide ((((kvGet (tableOf a) ((nth b k).node)).getD zeroRow).par) = ((nth b k).par)))))) (v := (.bool (((!((kvGet (tableOf a) ((nth b k).node)).isSome)) || (!(decide ((((kvGet (tableOf a) ((nth b k).node)).getD zeroRow).par) = ((nth b k).par))))) || (!(decide (((kvGet (tableOf a) ((nth b k).node)).getD zeroRow).name = (nth b k).name)))))) rfl pk_or ⟨rfl, Gr.refl _ _⟩) ?_
  refine Lx_nil (fun w79 hw80 => ?_)
  have H81 := H46.ext hw80
  refine Then_n ?_
  refine W_cond (t := (((!((kvGet (tableOf a) ((nth b k).node)).isSome)) || (!(decide ((((kvGet (tableOf a) ((nth b k).node)).getD zeroRow).par) = ((nth b k).par))))) || (!(decide (((kvGet (tableOf a) ((nth b k).node)).getD zeroRow).name = (nth b k).name))))) rfl (fun hc82 => ?_) (fun hc82 => ?_)
  ·have hc82 : ((((kvGet (tableOf a) ((nth b k).node)).isSome) = false ∨ ¬ ((((kvGet (tableOf a) ((nth b k).node)).getD zeroRow).par) = ((nth b k).par))) ∨ ¬ (((kvGet (tableOf a) ((nth b k).node)).getD zeroRow).name = (nth b k).name)) := (Or.imp (fun h => (Or.imp (fun h => (notT h)) (fun h => (of_decide_eq_false (notT h))) (orT h))) (fun h => (of_decide_eq_false (notT h))) (orT hc82))
   refine W_reg ?_
   refine O_v rfl (R_move (v := (slV h24 acc)) rfl ?_)
   refine O_v rfl (R_loadA (cs := [[(.int .i64 (((nth b k).node).T))], [(.int .i64 (((nth b k).node).R))], [(.int .i64 (((nth b k).par).T))], [(.int .i64 (((nth b k).par).R))], [(.int .i64 (((nth b k).tm).T))], [(.int .i64 (((nth b k).tm).R))], [(.string ((nth b k).name))], [(slV ((nth b k).hh) ((nth b k).heads))]]) Try.isAgg44 Try.sizeOf44 rfl rfl ((boxR_at (H81.getOwn 1 rfl)).chunks 0 8 0 0 _ rfl rfl rfl) ?_)
   refine O_v rfl (C_buildSliceL H81 (enc := rowCh) (val := rowV) ([(nth b k)] : List RowS) Try.underlying22 Try.sizeOf44 Try.zeroValue44 rfl (by decide) (fun _ => rfl) (fun _ => rfl) rfl rfl (by decide) ?_)
   intro b83 w84 hb85 hx86 H87
   refine O_v rfl (C_append H87 3 rfl (bytes := 88) (l := acc) (ys := ([(nth b k)] : List RowS)) Try.underlying22 rfl rfl rfl rfl rfl (by decide) rfl rfl (OwnS.sl (H87.getOwn 0 rfl) (fun _ => rfl)) (fun _ => rfl) (fun _ => rfl) (by simp only [List.length_append, List.length_cons, List.length_nil]; omega) (by decide) ?_)
   intro h88 w89 hg90 H91
   refine O_v rfl (R_assign (v := (slV h88 (acc ++ ([(nth b k)] : List RowS)))) rfl ?_)
   refine O_nil (Blk_n (Then_n (W_reg ?_)))
   refine O_v rfl (R_arith (a := ((k : Nat) : Int)) (b := 1) (r0 := ((k : Nat) : Int) + 1) (r := ((k + 1 : Nat) : Int)) rfl rfl rfl (wrapN _ (by omega)) ?_)
   refine O_v rfl (R_move (v := (.int .i64 ((k + 1 : Nat) : Int))) rfl ?_)
   refine O_nil (Then_n ?_)
   have H92 := H91.sub (B' := [rowR 44 8 rowCh h88 (acc ++ ([(nth b k)] : List RowS)), boxR b15 56 [[(.map (some r9))]], mapO r9 (fun x : Stamp => stampV x) rowV (tableOf b), mapO r3 (fun x : Stamp => stampV x) rowV (tableOf a), boxR bm 71 [[(.int .i64 m.at_.T)], [(.int .i64 m.at_.R)], [(slV m.oh m.ops)], [(.bool m.bad)]], rowR 39 41 opCh m.oh m.ops]) (I' := [slI Fb rowCh 8 hb b, slI Fa rowCh 8 ha a, deepI Sm stampCh 2 (fun x : OpS => x.oh) (fun x : OpS => x.over) m.ops]) (List.Sublist.cons _ (List.Sublist.cons _ (List.Sublist.cons _ (List.Sublist.cons_cons _ (List.Sublist.cons_cons _ (List.Sublist.cons_cons _ (List.Sublist.cons_cons _ (List.Sublist.cons_cons _ (List.Sublist.cons_cons _ List.Sublist.slnil))))))))) (List.forall_mem_cons.2 ⟨List.mem_of_getElem? (i := 0) rfl, List.forall_mem_cons.2 ⟨List.mem_of_getElem? (i := 1) rfl, List.forall_mem_cons.2 ⟨List.mem_of_getElem? (i := 2) rfl, fun _ h => (nomatch h)⟩⟩⟩)
   refine ⟨_, ?_, (k + 1), (acc ++ ([(nth b k)] : List RowS)), h88, rfl, (by omega), (needs_in hacc (by omega) (by assumption)), (by simp only [List.length_append, List.length_cons, List.length_nil]; omega), _, envL_self ⟨rfl, rfl, rfl, rfl, rfl, rfl, rfl, rfl, trivial⟩, H92⟩
   omega
  ·have hc82 : ((((kvGet (tableOf a) ((nth b k).node)).isSome) = true ∧ ((((kvGet (tableOf a) ((nth b k).node)).getD zeroRow).par) = ((nth b k).par))) ∧ (((kvGet (tableOf a) ((nth b k).node)).getD zeroRow).name = (nth b k).name)) := (And.imp (fun h => (And.imp (fun h => (notF h)) (fun h => (of_decide_eq_true (notF h))) (orF h))) (fun h => (of_decide_eq_true (notF h))) (orF hc82))
   refine W_skip (Blk_n (Then_n (W_reg ?_)))
   refine O_v rfl (R_arith (a := ((k : Nat) : Int)) (b := 1) (r0 := ((k : Nat) : Int) + 1) (r := ((k + 1 : Nat) : Int)) rfl rfl rfl (wrapN _ (by omega)) ?_)
   refine O_v rfl (R_move (v := (.int .i64 ((k + 1 : Nat) : Int))) rfl ?_)
   refine O_nil (Then_n ?_)
   have H93 := H81.sub (B' := [rowR 44 8 rowCh h24 acc, boxR b15 56 [[(.map (some r9))]], mapO r9 (fun x : Stamp => stampV x) rowV (tableOf b), mapO r3 (fun x : Stamp => stampV x) rowV (tableOf a), boxR bm 71 [[(.int .i64 m.at_.T)], [(.int .i64 m.at_.R)], [(slV m.oh m.ops)], [(.bool m.bad)]], rowR 39 41 opCh m.oh m.ops]) (I' := [slI Fb rowCh 8 hb b, slI Fa rowCh 8 ha a, deepI Sm stampCh 2 (fun x : OpS => x.oh) (fun x : OpS => x.over) m.ops]) (List.Sublist.cons _ (List.Sublist.cons _ (List.Sublist.cons_cons _ (List.Sublist.cons_cons _ (List.Sublist.cons_cons _ (List.Sublist.cons_cons _ (List.Sublist.cons_cons _ (List.Sublist.cons_cons _ List.Sublist.slnil)))))))) (List.forall_mem_cons.2 ⟨List.mem_of_getElem? (i := 0) rfl, List.forall_mem_cons.2 ⟨List.mem_of_getElem? (i := 1) rfl, List.forall_mem_cons.2 ⟨List.mem_of_getElem? (i := 2) rfl, fun _ h => (nomatch h)⟩⟩⟩)
   refine ⟨_, ?_, (k + 1), acc, h24, rfl, (by omega), (needs_out hacc (by omega) (by assumption)), (by omega), _, envL_self ⟨rfl, rfl, rfl, rfl, rfl, rfl, rfl, rfl, trivial⟩, H93⟩
   omega
 ·have hc30 : ¬ (((k : Nat) : Int) < ((b.length : Nat) : Int)) := (of_decide_eq_false hc30)
  refine W_exit (Then_x (Then_x (Blk_x (Then_n (W_seq (W_reg ?_))))))
  refine O_v rfl (R_move (v := (slV h24 acc)) rfl ?_)
  refine O_v rfl (R_makeFuncL (vs := [(.pointer (some ⟨b15, 0, none⟩))]) rfl ?_)
  refine O_v rfl (R_callL (vs := [(slV h24 acc), (.func (.func 50) #[] #[(.pointer (some ⟨b15, 0, none⟩))])]) maker_moves_c49 rfl rfl ((SortStable_Row h24 acc 50 #[(.pointer (some ⟨b15, 0, none⟩))] (fun (x y : RowS) => cmpInt ((depOf (tableOf b) x.node : Nat) : Int) ((depOf (tableOf b) y.node : Nat) : Int)) w27 (H29.getOwn 0 rfl) maker_moves_c50 (fun x hx y hy w1 he => callsCap1 (maker_moves_1 x y b15 r9 (tableOf b) w1 (H29.ownGr 1 0 (by decide) rfl rfl he (fun _ h => h)) (H29.ownGr 2 0 (by decide) rfl rfl he (fun _ h => h)) ⟨(hdep x (moved_mem hacc hx)).1, (hdep y (moved_mem hacc hy)).1⟩ ⟨(hdep x (moved_mem hacc hx)).2, (hdep y (moved_mem hacc hy)).2⟩)) (by omega)).ret ?_))
  rintro _ w94 ⟨s98, rfl, hg95, ho96, hr99⟩
  have H97 := H29.updRow 0 rfl hg95 ho96
  have hr99l := (hr99).length_eq
  refine O_nil (Then_n (W_seq (W_seq (W_reg ?_))))
  refine O_v rfl (R_move (v := (slV h24 acc)) rfl ?_)
  refine O_v rfl (R_len_slice (a := h24.a) (n := acc.length) (c := h24.c) Try.underlying22 rfl ?_)
  refine O_v rfl (R_move (v := (.int .i64 0)) rfl ?_)
  refine O_nil (Then_n (W_block ?_))
  refine W_loop (fun m100 e101 w102 => ∃ (j : Nat), ∃ (mm : MakerS), ∃ (SS : Nat → Prop), m100 = b.length + 1 - j ∧ (j ≤ s98.length) ∧ (mm.st = (([] : List OpC) ++ (s98.take j).map mvOp).foldl putC m.st) ∧ (∀ c, SS c → Sm c ∨ w.heap.size ≤ c) ∧ ∃ eb103, e101 = envL [(0, (.pointer (some ⟨bm, 0, none⟩))), (1, (slV ha a)), (7, (.pointer (some ⟨b15, 0, none⟩))), (60, (slV h24 acc)), (61, (.int .i64 ((acc.length : Nat) : Int))), (62, (.int .i64 ((j : Nat) : Int)))] eb103 ∧ Ctx w (objM bm m.oh m.ops) w102 [rowR 44 8 rowCh h24 s98, boxR b15 56 [[(.map (some r9))]], mapO r9 (fun x : Stamp => stampV x) rowV (tableOf b), mapO r3 (fun x : Stamp => stampV x) rowV (tableOf a), boxR bm 71 [[(.int .i64 mm.at_.T)], [(.int .i64 mm.at_.R)], [(slV mm.oh mm.ops)], [(.bool mm.bad)]], rowR 39 41 opCh mm.oh mm.ops] [slI Fb rowCh 8 hb b, slI Fa rowCh 8 ha a, deepI SS stampCh 2 (fun x : OpS => x.oh) (fun x : OpS => x.over) mm.ops]) _ ⟨0, m, Sm, rfl, (by omega), rfl, (fun c h => .inl h), _, envL_self ⟨rfl, rfl, rfl, rfl, rfl, rfl, trivial⟩, H97⟩ ?_
  rintro m100 _ w102 ⟨j, mm, SS, rfl, hj, hst, hSS, eb103, rfl, H104⟩
  refine W_seq (W_reg ?_)
  refine O_v rfl (R_cmp (a := ((j : Nat) : Int)) (b := ((acc.length : Nat) : Int)) (r := (decide (((j : Nat) : Int) < ((acc.length : Nat) : Int)))) rfl rfl rfl ?_)
  refine O_nil (Then_n (W_seq ?_))
  refine W_cond (t := (decide (((j : Nat) : Int) < ((acc.length : Nat) : Int)))) rfl (fun hc105 => ?_) (fun hc105 => ?_)
  ·have hc105 : (((j : Nat) : Int) < ((acc.length : Nat) : Int)) := (of_decide_eq_true hc105)
   refine W_skip (Then_n (W_seq (W_block (W_seq (W_reg ?_)))))
   refine O_v rfl (R_index_pure (OwnS.sl (H104.getOwn 0 rfl) (fun _ => rfl)) (n := acc.length) (by first | omega | (simp only [List.length_set]; omega)) (j := ((j : Nat) : Int)) (oo := (h24.o + j * 8)) Try.underlying22 Try.sizeOf44 rfl rfl (by omega) (by omega) rfl ?_)
   refine O_v rfl (R_loadA (cs := [[(.int .i64 (((nth s98 j).node).T))], [(.int .i64 (((nth s98 j).node).R))], [(.int .i64 (((nth s98 j).par).T))], [(.int .i64 (((nth s98 j).par).R))], [(.int .i64 (((nth s98 j).tm).T))], [(.int .i64 (((nth s98 j).tm).R))], [(.string ((nth s98 j).name))], [(slV ((nth s98 j).hh) ((nth s98 j).heads))]]) Try.isAgg44 Try.sizeOf44 rfl rfl ((Sl.elem (OwnS.sl (H104.getOwn 0 rfl) (fun _ => rfl)) (i := j) (by omega) rfl).chunks 0 8 0 (h24.o + j * 8) _ rfl rfl rfl) ?_)
   refine O_v rfl (C_alloc H104 [[(.int .i64 0)], [(.int .i64 0)], [(.int .i64 0)], [(.int .i64 0)], [(.int .i64 0)], [(.int .i64 0)], [(.string ByteArray.empty)], [(.slice none 0 0)]] Try.zeroValue44 ?_)
   intro b106 w107 hb108 hx109 H110
   refine O_u (C_storeA H110 0 rfl 0 (sub := [[(.int .i64 (((nth s98 j).node).T))], [(.int .i64 (((nth s98 j).node).R))], [(.int .i64 (((nth s98 j).par).T))], [(.int .i64 (((nth s98 j).par).R))], [(.int .i64 (((nth s98 j).tm).T))], [(.int .i64 (((nth s98 j).tm).R))], [(.string ((nth s98 j).name))], [(slV ((nth s98 j).hh) ((nth s98 j).heads))]]) [[(.int .i64 (((nth s98 j).node).T))], [(.int .i64 (((nth s98 j).node).R))], [(.int .i64 (((nth s98 j).par).T))], [(.int .i64 (((nth s98 j).par).R))], [(.int .i64 (((nth s98 j).tm).T))], [(.int .i64 (((nth s98 j).tm).R))], [(.string ((nth s98 j).name))], [(slV ((nth s98 j).hh) ((nth s98 j).heads))]] Try.sizeOf44 rfl rfl rfl rfl ⟨[[(.int .i64 0)], [(.int .i64 0)], [(.int .i64 0)], [(.int .i64 0)], [(.int .i64 0)], [(.int .i64 0)], [(.string ByteArray.empty)], [(.slice none 0 0)]], [], rfl, rfl, rfl⟩ rfl ?_)
   intro w111 hg112 H113
   refine O_nil (Then_n (W_reg ?_))
   refine O_v rfl (R_move (v := (.pointer (some ⟨bm, 0, none⟩))) rfl ?_)
   refine O_v rfl (R_fieldAddr (off := 0) (oo := 0) Try.underlying44 rfl rfl Try.sizeOf24 rfl rfl ?_)
   refine O_v rfl (R_loadA (cs := [[(.int .i64 (((nth s98 j).node).T))], [(.int .i64 (((nth s98 j).node).R))]]) Try.isAgg24 Try.sizeOf24 rfl rfl ((boxR_at (H113.getOwn 0 rfl)).chunks 0 2 0 0 _ rfl rfl rfl) ?_)
   refine O_v rfl (R_fieldAddr (off := 2) (oo := 2) Try.underlying44 rfl rfl Try.sizeOf24 rfl rfl ?_)
   refine O_v rfl (R_loadA (cs := [[(.int .i64 (((nth s98 j).par).T))], [(.int .i64 (((nth s98 j).par).R))]]) Try.isAgg24 Try.sizeOf24 rfl rfl ((boxR_at (H113.getOwn 0 rfl)).chunks 2 2 2 2 _ rfl rfl rfl) ?_)
   refine O_v rfl (R_fieldAddr (off := 6) (oo := 6) Try.underlying44 rfl rfl Try.sizeOf9 rfl rfl ?_)
   refine O_v rfl (R_load1 (v := (.string ((nth s98 j).name))) Try.isAgg9 rfl ((boxR_at (H113.getOwn 0 rfl)).chunks 6 1 6 6 _ rfl rfl rfl) ?_)
   refine O_v rfl (R_buildL (vs := [(0, (.int .i64 1)), (2, (aggOf (stampCh ((nth s98 j).node)))), (3, (aggOf (stampCh ((nth s98 j).par)))), (4, (.string ((nth s98 j).name)))]) (v := aggOf [[(.int .i64 1)], [(.int .i64 0)], [(.int .i64 0)], [(.int .i64 (((nth s98 j).node).T))], [(.int .i64 (((nth s98 j).node).R))], [(.int .i64 (((nth s98 j).par).T))], [(.int .i64 (((nth s98 j).par).R))], [(.string ((nth s98 j).name))], (idCells zeroId), [(.slice none 0 0)]]) rfl (fun _ => by kernel_rfl) ?_)
   refine O_v rfl (R_callL (vs := [(.pointer (some ⟨bm, 0, none⟩)), (aggOf [[(.int .i64 1)], [(.int .i64 0)], [(.int .i64 0)], [(.int .i64 (((nth s98 j).node).T))], [(.int .i64 (((nth s98 j).node).R))], [(.int .i64 (((nth s98 j).par).T))], [(.int .i64 (((nth s98 j).par).R))], [(.string ((nth s98 j).name))], (idCells zeroId), [(.slice none 0 0)]])]) maker_moves_c53 rfl rfl ((maker_put bm mm SS ({ kind := 1, tm := ({ T := 0, R := 0 } : Stamp), node := ((nth s98 j).node), par := ((nth s98 j).par), name := (nth s98 j).name, data := zeroId, over := [], oh := nilH } : OpS) w111 ((H113.pick (B' := [boxR bm 71 [[(.int .i64 mm.at_.T)], [(.int .i64 mm.at_.R)], [(slV mm.oh mm.ops)], [(.bool mm.bad)]], rowR 39 41 opCh mm.oh mm.ops]) (I' := [deepI SS stampCh 2 (fun x : OpS => x.oh) (fun x : OpS => x.over) mm.ops]) [5, 6] (by decide) rfl (List.forall_mem_cons.2 ⟨List.mem_of_getElem? (i := 2) rfl, fun _ h => (nomatch h)⟩)).objStart) nob nob_free (Sl.nil _ _ _ _) (fun _ => hnb _ (moved_mem hacc (hr99.mem_iff.1 (nth_mem (by omega))))) (T_room hst hT (by simp only [List.length_append, List.length_map, List.length_take, List.length_nil]; omega)) (L_room hst hml (by simp only [List.length_append, List.length_map, List.length_take, List.length_nil]; omega))).ret ?_))
   rintro _ w116 ⟨m114, S115, rfl, hg117, hQ118, hk119, hS120, hr121⟩
   have H122 := H113.obj2 5 6 (by decide) rfl rfl rfl (fun _ h => h) hg117 hQ118 rfl hk119 (fun c hc => (hS120 c hc).elim (fun h => .inl ⟨_, List.mem_of_getElem? (i := 2) rfl, h⟩) (fun h => h.elim .inr (fun h => h.elim)))
   refine O_nil (Blk_n (Then_n (W_reg ?_)))
   refine O_v rfl (R_arith (a := ((j : Nat) : Int)) (b := 1) (r0 := ((j : Nat) : Int) + 1) (r := ((j + 1 : Nat) : Int)) rfl rfl rfl (wrapN _ (by omega)) ?_)
   refine O_v rfl (R_move (v := (.int .i64 ((j + 1 : Nat) : Int))) rfl ?_)
   refine O_nil (Then_n ?_)
   have H123 := H122.sub (B' := [rowR 44 8 rowCh h24 s98, boxR b15 56 [[(.map (some r9))]], mapO r9 (fun x : Stamp => stampV x) rowV (tableOf b), mapO r3 (fun x : Stamp => stampV x) rowV (tableOf a), boxR bm 71 [[(.int .i64 m114.at_.T)], [(.int .i64 m114.at_.R)], [(slV m114.oh m114.ops)], [(.bool m114.bad)]], rowR 39 41 opCh m114.oh m114.ops]) (I' := [slI Fb rowCh 8 hb b, slI Fa rowCh 8 ha a, deepI S115 stampCh 2 (fun x : OpS => x.oh) (fun x : OpS => x.over) m114.ops]) (List.Sublist.cons _ (List.Sublist.cons_cons _ (List.Sublist.cons_cons _ (List.Sublist.cons_cons _ (List.Sublist.cons_cons _ (List.Sublist.cons_cons _ (List.Sublist.cons_cons _ List.Sublist.slnil))))))) (List.forall_mem_cons.2 ⟨List.mem_of_getElem? (i := 1) rfl, List.forall_mem_cons.2 ⟨List.mem_of_getElem? (i := 2) rfl, List.forall_mem_cons.2 ⟨List.mem_of_getElem? (i := 0) rfl, fun _ h => (nomatch h)⟩⟩⟩)
   refine ⟨_, ?_, (j + 1), m114, S115, rfl, (by omega), (moves_step hst (by omega) rfl (put_st hr121)), (SS_step hSS hS120 H113.gr.size), _, envL_self ⟨rfl, rfl, rfl, rfl, rfl, rfl, trivial⟩, H123⟩
   omega
  ·have hc105 : ¬ (((j : Nat) : Int) < ((acc.length : Nat) : Int)) := (of_decide_eq_false hc105)
   refine W_exit (Then_x (Then_x (Blk_x (Then_n (W_seq (W_reg ?_))))))
   refine O_v rfl (R_move (v := (slV ha a)) rfl ?_)
   refine O_v rfl (R_len_slice (a := ha.a) (n := a.length) (c := ha.c) Try.underlying22 rfl ?_)
   refine O_v rfl (R_move (v := (.int .i64 0)) rfl ?_)
   refine O_nil (Then_n (W_block ?_))
   refine W_loop (fun m124 e125 w126 => ∃ (i : Nat), ∃ (mm4 : MakerS), ∃ (SS4 : Nat → Prop), m124 = a.length - i ∧ (i ≤ a.length) ∧ (mm4.st = (s98.map mvOp ++ ((a.take i).filter (gone b)).map trOp).foldl putC m.st) ∧ (∀ c, SS4 c → Sm c ∨ w.heap.size ≤ c) ∧ ∃ eb127, e125 = envL [(0, (.pointer (some ⟨bm, 0, none⟩))), (7, (.pointer (some ⟨b15, 0, none⟩))), (76, (slV ha a)), (77, (.int .i64 ((a.length : Nat) : Int))), (78, (.int .i64 ((i : Nat) : Int)))] eb127 ∧ Ctx w (objM bm m.oh m.ops) w126 [rowR 44 8 rowCh h24 s98, boxR b15 56 [[(.map (some r9))]], mapO r9 (fun x : Stamp => stampV x) rowV (tableOf b), mapO r3 (fun x : Stamp => stampV x) rowV (tableOf a), boxR bm 71 [[(.int .i64 mm4.at_.T)], [(.int .i64 mm4.at_.R)], [(slV mm4.oh mm4.ops)], [(.bool mm4.bad)]], rowR 39 41 opCh mm4.oh mm4.ops] [slI Fb rowCh 8 hb b, slI Fa rowCh 8 ha a, deepI SS4 stampCh 2 (fun x : OpS => x.oh) (fun x : OpS => x.over) mm4.ops]) _ ⟨0, mm, SS, rfl, (by omega), (by rw [hst, List.take_of_length_le (by omega)]; simp), hSS, _, envL_self ⟨rfl, rfl, rfl, rfl, rfl, trivial⟩, H104⟩ ?_
   rintro m124 _ w126 ⟨i, mm4, SS4, rfl, hi, hst4, hSS4, eb127, rfl, H128⟩
   refine W_seq (W_reg ?_)
   refine O_v rfl (R_cmp (a := ((i : Nat) : Int)) (b := ((a.length : Nat) : Int)) (r := (decide (((i : Nat) : Int) < ((a.length : Nat) : Int)))) rfl rfl rfl ?_)
   refine O_nil (Then_n (W_seq ?_))
   refine W_cond (t := (decide (((i : Nat) : Int) < ((a.length : Nat) : Int)))) rfl (fun hc129 => ?_) (fun hc129 => ?_)
   ·have hc129 : (((i : Nat) : Int) < ((a.length : Nat) : Int)) := (of_decide_eq_true hc129)
    refine W_skip (Then_n (W_seq (W_block (W_seq (W_reg ?_)))))
    refine O_v rfl (R_index_pure (H128.sl 1 rfl) (n := a.length) rfl (j := ((i : Nat) : Int)) (oo := (ha.o + i * 8)) Try.underlying22 Try.sizeOf44 rfl rfl (by omega) (by omega) rfl ?_)
    refine O_v rfl (R_loadA (cs := [[(.int .i64 (((nth a i).node).T))], [(.int .i64 (((nth a i).node).R))], [(.int .i64 (((nth a i).par).T))], [(.int .i64 (((nth a i).par).R))], [(.int .i64 (((nth a i).tm).T))], [(.int .i64 (((nth a i).tm).R))], [(.string ((nth a i).name))], [(slV ((nth a i).hh) ((nth a i).heads))]]) Try.isAgg44 Try.sizeOf44 rfl rfl ((Sl.elem (H128.sl 1 rfl) (i := i) (by omega) rfl).chunks 0 8 0 (ha.o + i * 8) _ rfl rfl rfl) ?_)
    refine O_v rfl (C_alloc H128 [[(.int .i64 0)], [(.int .i64 0)], [(.int .i64 0)], [(.int .i64 0)], [(.int .i64 0)], [(.int .i64 0)], [(.string ByteArray.empty)], [(.slice none 0 0)]] Try.zeroValue44 ?_)
    intro b130 w131 hb132 hx133 H134
    refine O_u (C_storeA H134 0 rfl 0 (sub := [[(.int .i64 (((nth a i).node).T))], [(.int .i64 (((nth a i).node).R))], [(.int .i64 (((nth a i).par).T))], [(.int .i64 (((nth a i).par).R))], [(.int .i64 (((nth a i).tm).T))], [(.int .i64 (((nth a i).tm).R))], [(.string ((nth a i).name))], [(slV ((nth a i).hh) ((nth a i).heads))]]) [[(.int .i64 (((nth a i).node).T))], [(.int .i64 (((nth a i).node).R))], [(.int .i64 (((nth a i).par).T))], [(.int .i64 (((nth a i).par).R))], [(.int .i64 (((nth a i).tm).T))], [(.int .i64 (((nth a i).tm).R))], [(.string ((nth a i).name))], [(slV ((nth a i).hh) ((nth a i).heads))]] Try.sizeOf44 rfl rfl rfl rfl ⟨[[(.int .i64 0)], [(.int .i64 0)], [(.int .i64 0)], [(.int .i64 0)], [(.int .i64 0)], [(.int .i64 0)], [(.string ByteArray.empty)], [(.slice none 0 0)]], [], rfl, rfl, rfl⟩ rfl ?_)
    intro w135 hg136 H137
    refine O_nil (Then_n (W_seq (W_reg ?_)))
    refine O_v rfl (R_load1 (v := (.map (some r9))) Try.isAgg56 rfl ((boxR_at (H137.getOwn 2 rfl)).chunks 0 1 0 0 _ rfl rfl rfl) ?_)
    refine O_v rfl (R_fieldAddr (off := 0) (oo := 0) Try.underlying44 rfl rfl Try.sizeOf24 rfl rfl ?_)
    refine O_v rfl (R_loadA (cs := [[(.int .i64 (((nth a i).node).T))], [(.int .i64 (((nth a i).node).R))]]) Try.isAgg24 Try.sizeOf24 rfl rfl ((boxR_at (H137.getOwn 0 rfl)).chunks 0 2 0 0 _ rfl rfl rfl) ?_)
    refine O_v rfl (R_lookupOk (kk := ((nth a i).node)) (z := zeroRow) keyT_Stamp24 Try.underlying56 Try.zeroValue44 (H137.getOwn 3 rfl) rfl rfl ?_)
    refine O_v rfl (R_move (v := (.tuple #[(aggOf (rowCh ((kvGet (tableOf b) ((nth a i).node)).getD zeroRow))), (.bool ((kvGet (tableOf b) ((nth a i).node)).isSome))])) rfl ?_)
    refine O_v rfl (R_extract (v := (aggOf (rowCh ((kvGet (tableOf b) ((nth a i).node)).getD zeroRow)))) rfl rfl ?_)
    refine O_v rfl (R_extract (v := (.bool ((kvGet (tableOf b) ((nth a i).node)).isSome))) rfl rfl ?_)
    refine O_v rfl (C_alloc H137 [[(.int .i64 0)], [(.int .i64 0)], [(.int .i64 0)], [(.int .i64 0)], [(.int .i64 0)], [(.int .i64 0)], [(.string ByteArray.empty)], [(.slice none 0 0)]] Try.zeroValue44 ?_)
    intro b138 w139 hb140 hx141 H142
    refine O_u (C_storeA H142 0 rfl 0 (sub := [[(.int .i64 ((((kvGet (tableOf b) ((nth a i).node)).getD zeroRow).node).T))], [(.int .i64 ((((kvGet (tableOf b) ((nth a i).node)).getD zeroRow).node).R))], [(.int .i64 ((((kvGet (tableOf b) ((nth a i).node)).getD zeroRow).par).T))], [(.int .i64 ((((kvGet (tableOf b) ((nth a i).node)).getD zeroRow).par).R))], [(.int .i64 ((((kvGet (tableOf b) ((nth a i).node)).getD zeroRow).tm).T))], [(.int .i64 ((((kvGet (tableOf b) ((nth a i).node)).getD zeroRow).tm).R))], [(.string (((kvGet (tableOf b) ((nth a i).node)).getD zeroRow).name))], [(slV (((kvGet (tableOf b) ((nth a i).node)).getD zeroRow).hh) (((kvGet (tableOf b) ((nth a i).node)).getD zeroRow).heads))]]) [[(.int .i64 ((((kvGet (tableOf b) ((nth a i).node)).getD zeroRow).node).T))], [(.int .i64 ((((kvGet (tableOf b) ((nth a i).node)).getD zeroRow).node).R))], [(.int .i64 ((((kvGet (tableOf b) ((nth a i).node)).getD zeroRow).par).T))], [(.int .i64 ((((kvGet (tableOf b) ((nth a i).node)).getD zeroRow).par).R))], [(.int .i64 ((((kvGet (tableOf b) ((nth a i).node)).getD zeroRow).tm).T))], [(.int .i64 ((((kvGet (tableOf b) ((nth a i).node)).getD zeroRow).tm).R))], [(.string (((kvGet (tableOf b) ((nth a i).node)).getD zeroRow).name))], [(slV (((kvGet (tableOf b) ((nth a i).node)).getD zeroRow).hh) (((kvGet (tableOf b) ((nth a i).node)).getD zeroRow).heads))]] Try.sizeOf44 rfl rfl rfl rfl ⟨[[(.int .i64 0)], [(.int .i64 0)], [(.int .i64 0)], [(.int .i64 0)], [(.int .i64 0)], [(.int .i64 0)], [(.string ByteArray.empty)], [(.slice none 0 0)]], [], rfl, rfl, rfl⟩ rfl ?_)
    intro w143 hg144 H145
    refine O_v rfl (R_assign (v := (.bool ((kvGet (tableOf b) ((nth a i).node)).isSome))) rfl ?_)
    refine O_nil (Then_n (W_seq ?_))
    refine W_rgd TryMixed [(0, .q false), (1, .q false), (2, .q false), (3, .q false), (4, .q false), (5, .q false), (6, .q false), (7, .q false)] (by kernel_rfl) ?_
    refine Lx_q (i := 0) rfl rfl _ (fun v146 hv147 => R_move (v := (.bool ((kvGet (tableOf b) ((nth a i).node)).isSome))) rfl ⟨rfl, Gr.refl _ _⟩) ?_
    refine Lx_q (i := 1) rfl rfl _ (fun v148 hv149 => R_not rfl ⟨rfl, Gr.refl _ _⟩) ?_
    refine Lx_q (i := 2) rfl rfl _ (fun v150 hv151 => R_move (v := (.bool (!((kvGet (tableOf b) ((nth a i).node)).isSome)))) rfl ⟨rfl, Gr.refl _ _⟩) ?_
    refine Lx_qg (i := 3) true (!((kvGet (tableOf b) ((nth a i).node)).isSome)) rfl rfl rfl rfl rfl (!((kvGet (tableOf b) ((nth a i).node)).isSome)) ga_t _ (fun hA v152 hv153 => R_fieldAddr (off := 2) (oo := 2) Try.underlying44 rfl rfl Try.sizeOf24 rfl rfl ⟨rfl, Gr.refl _ _⟩) ?_
    refine Lx_qg (i := 4) true (!((kvGet (tableOf b) ((nth a i).node)).isSome)) rfl rfl rfl rfl rfl (!((kvGet (tableOf b) ((nth a i).node)).isSome)) ga_t _ (fun hA v154 hv155 => R_loadA (cs := [[(.int .i64 (((nth a i).par).T))], [(.int .i64 (((nth a i).par).R))]]) Try.isAgg24 Try.sizeOf24 rfl (gv_t hA) ((boxR_at ((H145.ext hv155).getOwn 1 rfl)).chunks 2 2 2 2 _ rfl rfl rfl) ⟨rfl, Gr.refl _ _⟩) ?_
    refine Lx_qg (i := 5) true (!((kvGet (tableOf b) ((nth a i).node)).isSome)) rfl rfl rfl rfl rfl (!((kvGet (tableOf b) ((nth a i).node)).isSome)) ga_t (aggOf (stampCh (⟨0, 1⟩ : Stamp))) (fun hA v156 hv157 => R_callL (vs := []) maker_moves_c26 rfl rfl (differ_trash  v156 )) ?_
    refine Lx_qg (i := 6) true (!((kvGet (tableOf b) ((nth a i).node)).isSome)) rfl rfl rfl rfl rfl (!((kvGet (tableOf b) ((nth a i).node)).isSome)) ga_t _ (fun hA v158 hv159 => R_nev (a := ((nth a i).par)) (b := (⟨0, 1⟩ : Stamp)) eqv_Stamp24 rfl Try.eqGuardType24 (gv_t hA) (gv_t hA) ⟨rfl, Gr.refl _ _⟩) ?_
    refine Lx_q (i := 7) rfl rfl _ (fun v160 hv161 => R_pick (t := (!((kvGet (tableOf b) ((nth a i).node)).isSome))) (v := (.bool ((!((kvGet (tableOf b) ((nth a i).node)).isSome)) && (!(decide (((nth a i).par) = (⟨0, 1⟩ : Stamp))))))) rfl pk_and ⟨rfl, Gr.refl _ _⟩) ?_
    refine Lx_nil (fun w162 hw163 => ?_)
    have H164 := H145.ext hw163
    refine Then_n ?_
    refine W_cond (t := ((!((kvGet (tableOf b) ((nth a i).node)).isSome)) && (!(decide (((nth a i).par) = (⟨0, 1⟩ : Stamp)))))) rfl (fun hc165 => ?_) (fun hc165 => ?_)
    ·have hc165 : (((kvGet (tableOf b) ((nth a i).node)).isSome) = false ∧ ¬ (((nth a i).par) = (⟨0, 1⟩ : Stamp))) := (And.imp (fun h => (notT h)) (fun h => (of_decide_eq_false (notT h))) (andT hc165))
     refine W_rgdM TryMixed (fun _ => True) (fun i => i == 7) [(0, .q true), (1, .q true), (2, .q false), (3, .q false), (4, .q true), (5, .q false), (6, .q true), (7, .c true)] (by kernel_rfl) ?_
     refine Lx_q (i := 0) rfl rfl _ (fun v166 hv167 => R_move (v := (.pointer (some ⟨bm, 0, none⟩))) rfl ⟨rfl, Gr.refl _ _⟩) ?_
     refine Lx_q (i := 1) rfl rfl _ (fun v168 hv169 => R_fieldAddr (off := 0) (oo := 0) Try.underlying44 rfl rfl Try.sizeOf24 rfl rfl ⟨rfl, Gr.refl _ _⟩) ?_
     refine Lx_q (i := 2) rfl rfl _ (fun v170 hv171 => R_loadA (cs := [[(.int .i64 (((nth a i).node).T))], [(.int .i64 (((nth a i).node).R))]]) Try.isAgg24 Try.sizeOf24 rfl rfl ((boxR_at ((H164.ext hv171).getOwn 1 rfl)).chunks 0 2 0 0 _ rfl rfl rfl) ⟨rfl, Gr.refl _ _⟩) ?_
     refine Lx_q (i := 3) rfl rfl (aggOf (stampCh (⟨0, 1⟩ : Stamp))) (fun v172 hv173 => R_callL (vs := []) maker_moves_c26 rfl rfl (differ_trash  v172 )) ?_
     refine Lx_q (i := 4) rfl rfl _ (fun v174 hv175 => R_fieldAddr (off := 6) (oo := 6) Try.underlying44 rfl rfl Try.sizeOf9 rfl rfl ⟨rfl, Gr.refl _ _⟩) ?_
     refine Lx_q (i := 5) rfl rfl _ (fun v176 hv177 => R_load1 (v := (.string ((nth a i).name))) Try.isAgg9 rfl ((boxR_at ((H164.ext hv177).getOwn 1 rfl)).chunks 6 1 6 6 _ rfl rfl rfl) ⟨rfl, Gr.refl _ _⟩) ?_
     refine Lx_q (i := 6) rfl rfl _ (fun v178 hv179 => R_buildL (vs := [(0, (.int .i64 1)), (2, (aggOf (stampCh ((nth a i).node)))), (3, (aggOf (stampCh (⟨0, 1⟩ : Stamp)))), (4, (.string ((nth a i).name)))]) (v := aggOf [[(.int .i64 1)], [(.int .i64 0)], [(.int .i64 0)], [(.int .i64 (((nth a i).node).T))], [(.int .i64 (((nth a i).node).R))], [(.int .i64 ((⟨0, 1⟩ : Stamp).T))], [(.int .i64 ((⟨0, 1⟩ : Stamp).R))], [(.string ((nth a i).name))], (idCells zeroId), [(.slice none 0 0)]]) rfl (fun _ => by kernel_rfl) ⟨rfl, Gr.refl _ _⟩) ?_
     refine Lx_c (i := 7) rfl rfl (fun w180 hw181 => ?_)
     have H182 := H164.ext hw181
     refine (R_callL (vs := [(.pointer (some ⟨bm, 0, none⟩)), (aggOf [[(.int .i64 1)], [(.int .i64 0)], [(.int .i64 0)], [(.int .i64 (((nth a i).node).T))], [(.int .i64 (((nth a i).node).R))], [(.int .i64 ((⟨0, 1⟩ : Stamp).T))], [(.int .i64 ((⟨0, 1⟩ : Stamp).R))], [(.string ((nth a i).name))], (idCells zeroId), [(.slice none 0 0)]])]) maker_moves_c53 rfl rfl ((maker_put bm mm4 SS4 ({ kind := 1, tm := ({ T := 0, R := 0 } : Stamp), node := ((nth a i).node), par := (⟨0, 1⟩ : Stamp), name := (nth a i).name, data := zeroId, over := [], oh := nilH } : OpS) w180 ((H182.pick (B' := [boxR bm 71 [[(.int .i64 mm4.at_.T)], [(.int .i64 mm4.at_.R)], [(slV mm4.oh mm4.ops)], [(.bool mm4.bad)]], rowR 39 41 opCh mm4.oh mm4.ops]) (I' := [deepI SS4 stampCh 2 (fun x : OpS => x.oh) (fun x : OpS => x.over) mm4.ops]) [6, 7] (by decide) rfl (List.forall_mem_cons.2 ⟨List.mem_of_getElem? (i := 2) rfl, fun _ h => (nomatch h)⟩)).objStart) nob nob_free (Sl.nil _ _ _ _) (fun _ => hna _ (nth_mem (by omega))) (T_room hst4 hT (by have h1 := List.length_filter_le (gone b) (a.take i); have h2 := hr99.length_eq; simp only [List.length_append, List.length_map, List.length_take] at *; omega)) (L_room hst4 hml (by have h1 := List.length_filter_le (gone b) (a.take i); have h2 := hr99.length_eq; simp only [List.length_append, List.length_map, List.length_take] at *; omega))).ret ?_))
     rintro _ w185 ⟨m183, S184, rfl, hg186, hQ187, hk188, hS189, hr190⟩
     have H191 := H182.obj2 6 7 (by decide) rfl rfl rfl (fun _ h => h) hg186 hQ187 rfl hk188 (fun c hc => (hS189 c hc).elim (fun h => .inl ⟨_, List.mem_of_getElem? (i := 2) rfl, h⟩) (fun h => h.elim .inr (fun h => h.elim)))
     refine ⟨Gr.mono (M' := fun _ => True) hg186 (fun _ _ => trivial), ?_⟩
     refine Lx_nil (fun w192 hw193 => ?_)
     have H194 := H191.ext hw193
     refine Blk_n (Then_n (W_reg ?_))
     refine O_v rfl (R_arith (a := ((i : Nat) : Int)) (b := 1) (r0 := ((i : Nat) : Int) + 1) (r := ((i + 1 : Nat) : Int)) rfl rfl rfl (wrapN _ (by omega)) ?_)
     refine O_v rfl (R_move (v := (.int .i64 ((i + 1 : Nat) : Int))) rfl ?_)
     refine O_nil (Then_n ?_)
     have H195 := H194.sub (B' := [rowR 44 8 rowCh h24 s98, boxR b15 56 [[(.map (some r9))]], mapO r9 (fun x : Stamp => stampV x) rowV (tableOf b), mapO r3 (fun x : Stamp => stampV x) rowV (tableOf a), boxR bm 71 [[(.int .i64 m183.at_.T)], [(.int .i64 m183.at_.R)], [(slV m183.oh m183.ops)], [(.bool m183.bad)]], rowR 39 41 opCh m183.oh m183.ops]) (I' := [slI Fb rowCh 8 hb b, slI Fa rowCh 8 ha a, deepI S184 stampCh 2 (fun x : OpS => x.oh) (fun x : OpS => x.over) m183.ops]) (List.Sublist.cons _ (List.Sublist.cons _ (List.Sublist.cons_cons _ (List.Sublist.cons_cons _ (List.Sublist.cons_cons _ (List.Sublist.cons_cons _ (List.Sublist.cons_cons _ (List.Sublist.cons_cons _ List.Sublist.slnil)))))))) (List.forall_mem_cons.2 ⟨List.mem_of_getElem? (i := 1) rfl, List.forall_mem_cons.2 ⟨List.mem_of_getElem? (i := 2) rfl, List.forall_mem_cons.2 ⟨List.mem_of_getElem? (i := 0) rfl, fun _ h => (nomatch h)⟩⟩⟩)
     refine ⟨_, ?_, (i + 1), m183, S184, rfl, (by omega), (gone_step hst4 (by omega) (by assumption) rfl (put_st hr190)), (SS_step hSS4 hS189 H182.gr.size), _, envL_self ⟨rfl, rfl, rfl, rfl, rfl, trivial⟩, H195⟩
     omega
    ·have hc165 : (((kvGet (tableOf b) ((nth a i).node)).isSome) = true ∨ (((nth a i).par) = (⟨0, 1⟩ : Stamp))) := (Or.imp (fun h => (notF h)) (fun h => (of_decide_eq_true (notF h))) (andF hc165))
     refine W_skip (Blk_n (Then_n (W_reg ?_)))
     refine O_v rfl (R_arith (a := ((i : Nat) : Int)) (b := 1) (r0 := ((i : Nat) : Int) + 1) (r := ((i + 1 : Nat) : Int)) rfl rfl rfl (wrapN _ (by omega)) ?_)
     refine O_v rfl (R_move (v := (.int .i64 ((i + 1 : Nat) : Int))) rfl ?_)
     refine O_nil (Then_n ?_)
     have H196 := H164.sub (B' := [rowR 44 8 rowCh h24 s98, boxR b15 56 [[(.map (some r9))]], mapO r9 (fun x : Stamp => stampV x) rowV (tableOf b), mapO r3 (fun x : Stamp => stampV x) rowV (tableOf a), boxR bm 71 [[(.int .i64 mm4.at_.T)], [(.int .i64 mm4.at_.R)], [(slV mm4.oh mm4.ops)], [(.bool mm4.bad)]], rowR 39 41 opCh mm4.oh mm4.ops]) (I' := [slI Fb rowCh 8 hb b, slI Fa rowCh 8 ha a, deepI SS4 stampCh 2 (fun x : OpS => x.oh) (fun x : OpS => x.over) mm4.ops]) (List.Sublist.cons _ (List.Sublist.cons _ (List.Sublist.cons_cons _ (List.Sublist.cons_cons _ (List.Sublist.cons_cons _ (List.Sublist.cons_cons _ (List.Sublist.cons_cons _ (List.Sublist.cons_cons _ List.Sublist.slnil)))))))) (List.forall_mem_cons.2 ⟨List.mem_of_getElem? (i := 0) rfl, List.forall_mem_cons.2 ⟨List.mem_of_getElem? (i := 1) rfl, List.forall_mem_cons.2 ⟨List.mem_of_getElem? (i := 2) rfl, fun _ h => (nomatch h)⟩⟩⟩)
     refine ⟨_, ?_, (i + 1), mm4, SS4, rfl, (by omega), (gone_skip hst4 (by omega) (by assumption)), hSS4, _, envL_self ⟨rfl, rfl, rfl, rfl, rfl, trivial⟩, H196⟩
     omega
   ·have hc129 : ¬ (((i : Nat) : Int) < ((a.length : Nat) : Int)) := (of_decide_eq_false hc129)
    refine W_exit (Then_x (Then_x (Blk_x (ret_n ?_))))
    refine ret_0 Try.results36 ?_
    have HQ := (H128.pick (B' := [boxR bm 71 [[(.int .i64 mm4.at_.T)], [(.int .i64 mm4.at_.R)], [(slV mm4.oh mm4.ops)], [(.bool mm4.bad)]], rowR 39 41 opCh mm4.oh mm4.ops]) (I' := [deepI SS4 stampCh 2 (fun x : OpS => x.oh) (fun x : OpS => x.over) mm4.ops]) [4, 5] (by decide) rfl (List.forall_mem_cons.2 ⟨List.mem_of_getElem? (i := 2) rfl, fun _ h => (nomatch h)⟩)).objStart
    exact ⟨mm4, _, rfl, H128.gr, HQ, H128.objBlk 4 5 (by decide) rfl rfl, hSS4, ⟨s98, (by have := hr99; rwa [hacc, List.take_of_length_le (by omega)] at this), (by rw [hst4, List.take_of_length_le (by omega)])⟩⟩

end Go.Proofs.Ytiknfldhommmpaa
namespace Go.Proofs.Ytiknfldhommmpaa
open Go
set_option maxRecDepth 100000
set_option linter.unusedVariables false
set_option linter.unusedSimpArgs false
set_option maxHeartbeats 1000000 in
theorem snap_fixed (s : Stamp) (w : World) :
    Calls Try.prog 48 #[(aggOf (stampCh s))] w (Ret fun v w' => v = (.bool (fixedSt s)) ∧ Ext w w') := by
 refine calls_W Try.func48 rfl Try.ntmps48 rfl ?_
 have H0 := Ctx.start w nob
 refine W_seq (W_reg ?_)
 refine O_v rfl (C_box H0 [[(.int .i64 s.T)], [(.int .i64 s.R)]] rfl ?_)
 intro b1 w2 hb3 hx4 H5
 refine O_v rfl (R_assign (v := (.bool false)) rfl ?_)
 refine O_nil (Then_n (W_seq ?_))
 refine W_rg [(0, .q false), (1, .q false), (2, .q false), (3, .q false), (4, .q false), (5, .q false), (6, .q false), (7, .q false), (8, .q false), (9, .q false), (10, .q false), (11, .q false), (12, .q false), (13, .q false)] (by kernel_rfl) ?_
 refine Lx_q (i := 0) rfl rfl _ (fun v6 hv7 => R_fieldAddr (off := 0) (oo := 0) Try.underlying24 rfl rfl Try.sizeOf2 rfl rfl ⟨rfl, Gr.refl _ _⟩) ?_
 refine Lx_q (i := 1) rfl rfl _ (fun v8 hv9 => R_load1 (v := (.int .i64 s.T)) Try.isAgg2 rfl ((boxR_at ((H5.ext hv9).getOwn 0 rfl)).chunks 0 1 0 0 _ rfl rfl rfl) ⟨rfl, Gr.refl _ _⟩) ?_
 refine Lx_q (i := 2) rfl rfl _ (fun v10 hv11 => R_cmp (a := s.T) (b := 0) (r := (decide (s.T = 0))) rfl rfl rfl ⟨rfl, Gr.refl _ _⟩) ?_
 refine Lx_q (i := 3) rfl rfl _ (fun v12 hv13 => R_move (v := (.bool (decide (s.T = 0)))) rfl ⟨rfl, Gr.refl _ _⟩) ?_
 refine Lx_qg (i := 4) true (decide (s.T = 0)) rfl rfl rfl rfl rfl (decide (s.T = 0)) ga_t _ (fun hA v14 hv15 => R_fieldAddr (off := 1) (oo := 1) Try.underlying24 rfl rfl Try.sizeOf3 rfl rfl ⟨rfl, Gr.refl _ _⟩) ?_
 refine Lx_qg (i := 5) true (decide (s.T = 0)) rfl rfl rfl rfl rfl (decide (s.T = 0)) ga_t _ (fun hA v16 hv17 => R_load1 (v := (.int .i64 s.R)) Try.isAgg3 (gv_t hA) ((boxR_at ((H5.ext hv17).getOwn 0 rfl)).chunks 1 1 1 1 _ rfl rfl rfl) ⟨rfl, Gr.refl _ _⟩) ?_
 refine Lx_qg (i := 6) true (decide (s.T = 0)) rfl rfl rfl rfl rfl (decide (s.T = 0)) ga_t _ (fun hA v18 hv19 => R_cmp (a := s.R) (b := 0) (r := (decide (s.R = 0))) (gv_t hA) rfl rfl ⟨rfl, Gr.refl _ _⟩) ?_
 refine Lx_qg (i := 7) true (decide (s.T = 0)) rfl rfl rfl rfl rfl (decide (s.T = 0)) ga_t _ (fun hA v20 hv21 => R_move (v := (.bool (decide (s.R = 0)))) (gv_t hA) ⟨rfl, Gr.refl _ _⟩) ?_
 refine Lx_qg (i := 8) (decide (s.T = 0)) (decide (s.R = 0)) rfl rfl rfl rfl rfl ((decide (s.T = 0)) && (!(decide (s.R = 0)))) gb_f _ (fun hA v22 hv23 => R_fieldAddr (off := 1) (oo := 1) Try.underlying24 rfl rfl Try.sizeOf3 rfl rfl ⟨rfl, Gr.refl _ _⟩) ?_
 refine Lx_qg (i := 9) (decide (s.T = 0)) (decide (s.R = 0)) rfl rfl rfl rfl rfl ((decide (s.T = 0)) && (!(decide (s.R = 0)))) gb_f _ (fun hA v24 hv25 => R_load1 (v := (.int .i64 s.R)) Try.isAgg3 (gv_t hA) ((boxR_at ((H5.ext hv25).getOwn 0 rfl)).chunks 1 1 1 1 _ rfl rfl rfl) ⟨rfl, Gr.refl _ _⟩) ?_
 refine Lx_qg (i := 10) (decide (s.T = 0)) (decide (s.R = 0)) rfl rfl rfl rfl rfl ((decide (s.T = 0)) && (!(decide (s.R = 0)))) gb_f _ (fun hA v26 hv27 => R_cmp (a := s.R) (b := 1) (r := (decide (s.R = 1))) (gv_t hA) rfl rfl ⟨rfl, Gr.refl _ _⟩) ?_
 refine Lx_qg (i := 11) true (decide (s.T = 0)) rfl rfl rfl rfl rfl (decide (s.T = 0)) ga_t _ (fun hA v28 hv29 => R_pick (t := (decide (s.R = 0))) (v := (.bool ((decide (s.R = 0)) || (decide (s.R = 1))))) (gv_t hA) (pk_orA hA) ⟨rfl, Gr.refl _ _⟩) ?_
 refine Lx_q (i := 12) rfl rfl _ (fun v30 hv31 => R_pick (t := (decide (s.T = 0))) (v := (.bool ((decide (s.T = 0)) && ((decide (s.R = 0)) || (decide (s.R = 1)))))) rfl pk_and ⟨rfl, Gr.refl _ _⟩) ?_
 refine Lx_q (i := 13) rfl rfl _ (fun v32 hv33 => R_assign (v := (.bool ((decide (s.T = 0)) && ((decide (s.R = 0)) || (decide (s.R = 1)))))) rfl ⟨rfl, Gr.refl _ _⟩) ?_
 refine Lx_nil (fun w34 hw35 => ?_)
 have H36 := H5.ext hw35
 refine Then_n (W_ret ?_)
 refine ret_1 (v := (.bool ((decide (s.T = 0)) && ((decide (s.R = 0)) || (decide (s.R = 1)))))) Try.results48 rfl ?_
 exact ⟨(boolE (by simp only [Bool.and_eq_true, Bool.or_eq_true, decide_eq_true_eq])), H36.gr⟩

end Go.Proofs.Ytiknfldhommmpaa
namespace Go.Proofs.Ytiknfldhommmpaa
open Go
set_option maxRecDepth 100000
set_option linter.unusedVariables false
set_option linter.unusedSimpArgs false
set_option maxHeartbeats 1000000 in
theorem Clone_byte (hs : SlH) (s : List UInt8) (w : World) (Ss : Sl (Old w) encB 1 hs s w) (hl : s.length ≤ 140737488355328) :
    Calls Try.prog 82 #[(slV hs s)] w (Ret fun v w' => ∃ h, v = slV h (s) ∧ Ext w w' ∧ OwnS w.heap.size 5 1 encB h (s) w') := by
 refine calls_W Try.func82 rfl Try.ntmps82 rfl ?_
 have H0 := Ctx.start w nob
 have H1 := H0.addSl _ Ss (fun b hb => ⟨hb, fun _ ho => (nomatch ho)⟩)
 have LSs := Ss.len
 refine W_seq (W_reg ?_)
 refine O_v rfl (R_assign (v := (.slice none 0 0)) rfl ?_)
 refine O_nil (Then_n (W_seq (W_seq (W_reg ?_))))
 refine O_v rfl (R_move (v := (slV hs s)) rfl ?_)
 refine O_v rfl (R_slice_nil (a := hs.a) Try.underlying79 rfl rfl ?_)
 refine O_nil (Then_n ?_)
 refine W_cond (t := hs.a.isNone) rfl (fun hc2 => ?_) (fun hc2 => ?_)
 ·have hc2 : hs.a.isNone = true := hc2
  refine W_seq (W_reg ?_)
  refine O_v rfl (R_assign (v := (.slice none 0 0)) rfl ?_)
  refine O_nil (Then_n (W_ret (Then_r ?_)))
  refine ret_1 (v := (.slice none 0 0)) Try.results82 rfl ?_
  have H3 := H1.addNil 5 1 encB
  have hE : [] = s := (Sl.isNil Ss (by assumption)).symm
  refine ⟨nilH, ?_, H3.gr, ?_⟩
  · exact congrArg (fun l => slV nilH l) hE
  · have hO := H3.retRow 0 rfl
    exact hE ▸ hO
 ·have hc2 : hs.a.isNone = false := hc2
  refine W_skip (Then_n (W_seq (W_reg ?_)))
  refine O_v rfl (C_buildSliceL H1 (enc := encB) (val := byteV) ([] : List UInt8) Try.underlying79 Try.sizeOf5 Try.zeroValue5 rfl (by decide) (fun _ => rfl) (fun _ => rfl) rfl rfl (by decide) ?_)
  intro b4 w5 hb6 hx7 H8
  refine O_v rfl (R_move (v := (slV hs s)) rfl ?_)
  refine O_v rfl (C_append H8 0 rfl (bytes := 1) (l := ([] : List UInt8)) (ys := s) Try.underlying79 rfl rfl rfl rfl rfl (by decide) rfl rfl (H8.sl 0 rfl) (fun _ => rfl) (fun _ => rfl) (by simpa using hl) (by decide) ?_)
  intro h9 w10 hg11 H12
  refine O_v rfl (R_assign (v := (slV h9 (([] : List UInt8) ++ s))) rfl ?_)
  refine O_nil (Then_n (W_ret ?_))
  refine ret_1 (v := (slV h9 (([] : List UInt8) ++ s))) Try.results82 rfl ?_
  have hE : ([] : List UInt8) ++ s = s := List.nil_append _
  refine ⟨h9, ?_, H12.gr, ?_⟩
  · exact congrArg (fun l => slV h9 l) hE
  · have hO := H12.retRow 0 rfl
    exact hE ▸ hO

end Go.Proofs.Ytiknfldhommmpaa
namespace Go.Proofs.Ytiknfldhommmpaa
open Go
set_option maxRecDepth 100000
set_option linter.unusedVariables false
set_option linter.unusedSimpArgs false
theorem enc_Id_c82 : callable Try.prog 82 = true := by kernel_rfl
set_option maxHeartbeats 1000000 in
theorem enc_Id (hb : SlH) (b : List UInt8) (id : ID) (w : World) (Sb : Sl (Old w) encB 1 hb b w) (hl : b.length ≤ 70368744177664) :
    Calls Try.prog 69 #[(slV hb b), (aggOf (idCh id))] w (Ret fun v w' => ∃ h, v = slV h (b ++ idList id) ∧ Ext w w' ∧ OwnS w.heap.size 5 1 encB h (b ++ idList id) w') := by
 refine calls_W Try.func69 rfl Try.ntmps69 rfl ?_
 have H0 := Ctx.start w nob
 have H1 := H0.addSl _ Sb (fun b hb => ⟨hb, fun _ ho => (nomatch ho)⟩)
 have LSb := Sb.len
 refine W_seq (W_reg ?_)
 refine O_v rfl (C_box H1 [(idCells id)] rfl ?_)
 intro b2 w3 hb4 hx5 H6
 refine O_v rfl (R_assign (v := (.slice none 0 0)) rfl ?_)
 refine O_nil (Then_n (W_seq ?_))
 refine W_rgdM TryMixed (fun _ => True) (fun i => i == 3) [(0, .q true), (2, .q true), (1, .c false), (3, .c true), (4, .q true)] (by kernel_rfl) ?_
 refine Lx_q (i := 0) rfl rfl _ (fun v7 hv8 => R_move (v := (slV hb b)) rfl ⟨rfl, Gr.refl _ _⟩) ?_
 refine Lx_q (i := 2) rfl rfl _ (fun v9 hv10 => R_slice_arr Try.underlying36 Try.sizeOf5 rfl (by decide) ⟨rfl, Gr.refl _ _⟩) ?_
 refine Lx_c (i := 1) rfl rfl (fun w11 hw12 => ?_)
 have H13 := H6.ext hw12
 refine (R_callL (vs := [(slV hb b)]) enc_Id_c82 rfl rfl ((Clone_byte hb b w11 (H13.slOld 0 rfl) (by omega)).ret ?_))
 rintro _ w15 ⟨h14, rfl, hx16, ho17⟩
 have H18 := H13.addRow hx16 ho17
 refine ⟨GrF.ofExt hx16, ?_⟩
 refine Lx_c (i := 3) rfl rfl (fun w19 hw20 => ?_)
 have H21 := H18.ext hw20
 refine (C_append H21 0 rfl (bytes := 1) (l := b) (ys := (idList id)) Try.underlying79 rfl rfl rfl rfl rfl (by decide) rfl rfl (Sl_box (H21.getOwn 1 rfl)) (fun _ => rfl) (fun _ => rfl) (by rw [idList_len]; omega) (by decide) ?_)
 intro h22 w23 hg24 H25
 refine ⟨Gr.mono (M' := fun _ => True) hg24 (fun _ _ => trivial), ?_⟩
 refine Lx_q (i := 4) rfl rfl _ (fun v26 hv27 => R_assign (v := (slV h22 (b ++ (idList id)))) rfl ⟨rfl, Gr.refl _ _⟩) ?_
 refine Lx_nil (fun w28 hw29 => ?_)
 have H30 := H25.ext hw29
 refine Then_n (W_ret ?_)
 refine ret_1 (v := (slV h22 (b ++ (idList id)))) Try.results69 rfl ?_
 exact ⟨h22, rfl, H30.gr, H30.retRow 0 rfl⟩

end Go.Proofs.Ytiknfldhommmpaa
namespace Go.Proofs.Ytiknfldhommmpaa
open Go
set_option maxRecDepth 100000
set_option linter.unusedVariables false
set_option linter.unusedSimpArgs false
theorem enc_Num_c82 : callable Try.prog 82 = true := by kernel_rfl
set_option maxHeartbeats 1000000 in
theorem enc_Num (hb : SlH) (b : List UInt8) (n : Int) (w : World) (Sb : Sl (Old w) encB 1 hb b w) (hl : b.length ≤ 70368744177664) :
    Calls Try.prog 68 #[(slV hb b), (.int .i64 n)] w (Ret fun v w' => ∃ h, v = slV h (b ++ numB n) ∧ Ext w w' ∧ OwnS w.heap.size 5 1 encB h (b ++ numB n) w') := by
 refine calls_W Try.func68 rfl Try.ntmps68 rfl ?_
 have H0 := Ctx.start w nob
 have H1 := H0.addSl _ Sb (fun b hb => ⟨hb, fun _ ho => (nomatch ho)⟩)
 have LSb := Sb.len
 refine W_seq (W_reg ?_)
 refine O_v rfl (R_assign (v := (.slice none 0 0)) rfl ?_)
 refine O_nil (Then_n (W_seq (W_reg ?_)))
 refine O_v rfl (R_move (v := (slV hb b)) rfl ?_)
 refine O_v rfl (R_callL (vs := [(slV hb b)]) enc_Num_c82 rfl rfl ((Clone_byte hb b w (H1.slOld 0 rfl) (by omega)).ret ?_))
 rintro _ w3 ⟨h2, rfl, hx4, ho5⟩
 have H6 := H1.addRow hx4 ho5
 refine O_v rfl (R_assign (v := (slV h2 b)) rfl ?_)
 refine O_nil (Then_n (W_seq (W_reg ?_)))
 refine O_v rfl (R_move (v := (.int .i64 n)) rfl ?_)
 refine O_v rfl (R_max2L (a := n) (b := 0) rfl ?_)
 refine O_v rfl (R_min2L (a := (max n 0)) (b := 4611686018427387904) rfl ?_)
 refine O_v rfl (R_conv_int (a := (min (max n 0) 4611686018427387904)) (r := ((numClamp n : Nat) : Int)) Try.underlying2 Try.underlying120 rfl (conv_clamp n) ?_)
 refine O_v rfl (R_assign (v := (.int .u64 ((numClamp n : Nat) : Int))) rfl ?_)
 refine O_nil (Then_n (W_seq (W_block ?_)))
 refine W_loop (fun m8 e9 w10 => ∃ (u : Nat), ∃ (acc : List UInt8), ∃ (h7 : SlH), m8 = u + 1 ∧ (acc ++ numGo u = b ++ numB n) ∧ ∃ eb11, e9 = envL [(4, (.slice none 0 0)), (5, (slV h7 acc)), (6, (.int .u64 ((u : Nat) : Int)))] eb11 ∧ Ctx w nob w10 [rowR 5 1 encB h7 acc] [slI (Old w) encB 1 hb b]) _ ⟨(numClamp n), b, h2, rfl, rfl, _, envL_self ⟨rfl, rfl, rfl, trivial⟩, H6⟩ ?_
 rintro m8 _ w10 ⟨u, acc, h7, rfl, ha, eb11, rfl, H12⟩
 refine W_seq (W_seq (W_reg ?_))
 refine O_v rfl (R_move (v := (.int .u64 ((u : Nat) : Int))) rfl ?_)
 refine O_v rfl (R_cmp (a := ((u : Nat) : Int)) (b := 127) (r := (decide (127 < ((u : Nat) : Int)))) rfl rfl rfl ?_)
 refine O_nil (Then_n ?_)
 refine W_cond (t := (decide (127 < ((u : Nat) : Int)))) rfl (fun hc13 => ?_) (fun hc13 => ?_)
 ·have hc13 : (127 < ((u : Nat) : Int)) := (of_decide_eq_true hc13)
  refine W_skip (Then_n (W_block (W_seq (W_reg ?_))))
  refine O_v rfl (R_move (v := (slV h7 acc)) rfl ?_)
  refine O_v rfl (R_move (v := (.int .u64 ((u : Nat) : Int))) rfl ?_)
  refine O_v rfl (R_conv_int (a := ((u : Nat) : Int)) (r := ((UInt8.ofNat u).toNat : Int)) Try.underlying120 Try.underlying5 rfl (conv_u8 _) ?_)
  refine O_v rfl (R_bits (k := .u8) (a := ((UInt8.ofNat u).toNat : Int)) (b := ((128 : UInt8).toNat : Int)) (r := (((UInt8.ofNat u) ||| (128 : UInt8)).toNat : Int)) rfl rfl (bit_or8 _ _) ?_)
  refine O_v rfl (C_buildSliceL H12 (enc := encB) (val := byteV) ([((UInt8.ofNat u) ||| (128 : UInt8))] : List UInt8) Try.underlying79 Try.sizeOf5 Try.zeroValue5 rfl (by decide) (fun _ => rfl) (fun _ => rfl) rfl rfl (by decide) ?_)
  intro b14 w15 hb16 hx17 H18
  refine O_v rfl (C_append H18 1 rfl (bytes := 1) (l := acc) (ys := ([((UInt8.ofNat u) ||| (128 : UInt8))] : List UInt8)) Try.underlying79 rfl rfl rfl rfl rfl (by decide) rfl rfl (OwnS.sl (H18.getOwn 0 rfl) (fun _ => rfl)) (fun _ => rfl) (fun _ => rfl) (by have := num_room ha; simp only [List.length_append, List.length_cons, List.length_nil]; omega) (by decide) ?_)
  intro h19 w20 hg21 H22
  refine O_v rfl (R_assign (v := (slV h19 (acc ++ ([((UInt8.ofNat u) ||| (128 : UInt8))] : List UInt8)))) rfl ?_)
  refine O_nil (Then_n (W_reg ?_))
  refine O_v rfl (R_move (v := (.int .u64 ((u : Nat) : Int))) rfl ?_)
  refine O_v rfl (R_shr (a := ((u : Nat) : Int)) (b := ((7 : Nat) : Int)) (r := ((u / 128 : Nat) : Int)) rfl rfl (by decide) (shr_nat _ _ (by decide)) ?_)
  refine O_v rfl (R_assign (v := (.int .u64 ((u / 128 : Nat) : Int))) rfl ?_)
  refine O_nil (Blk_n (Then_n ?_))
  have H23 := H22.sub (B' := [rowR 5 1 encB h19 (acc ++ ([((UInt8.ofNat u) ||| (128 : UInt8))] : List UInt8))]) (I' := [slI (Old w) encB 1 hb b]) (List.Sublist.cons _ (List.Sublist.cons_cons _ List.Sublist.slnil)) (List.forall_mem_cons.2 ⟨List.mem_of_getElem? (i := 0) rfl, fun _ h => (nomatch h)⟩)
  refine ⟨_, ?_, (u / 128), (acc ++ ([((UInt8.ofNat u) ||| (128 : UInt8))] : List UInt8)), h19, rfl, (num_step ha (by omega)), _, envL_self ⟨rfl, rfl, rfl, trivial⟩, H23⟩
  omega
 ·have hc13 : ¬ (127 < ((u : Nat) : Int)) := (of_decide_eq_false hc13)
  refine W_exit (Then_x (Then_x (Blk_x (Then_n (W_seq (W_reg ?_))))))
  refine O_v rfl (R_move (v := (slV h7 acc)) rfl ?_)
  refine O_v rfl (R_move (v := (.int .u64 ((u : Nat) : Int))) rfl ?_)
  refine O_v rfl (R_conv_int (a := ((u : Nat) : Int)) (r := ((UInt8.ofNat u).toNat : Int)) Try.underlying120 Try.underlying5 rfl (conv_u8 _) ?_)
  refine O_v rfl (C_buildSliceL H12 (enc := encB) (val := byteV) ([(UInt8.ofNat u)] : List UInt8) Try.underlying79 Try.sizeOf5 Try.zeroValue5 rfl (by decide) (fun _ => rfl) (fun _ => rfl) rfl rfl (by decide) ?_)
  intro b24 w25 hb26 hx27 H28
  refine O_v rfl (C_append H28 1 rfl (bytes := 1) (l := acc) (ys := ([(UInt8.ofNat u)] : List UInt8)) Try.underlying79 rfl rfl rfl rfl rfl (by decide) rfl rfl (OwnS.sl (H28.getOwn 0 rfl) (fun _ => rfl)) (fun _ => rfl) (fun _ => rfl) (by have := num_room ha; simp only [List.length_append, List.length_cons, List.length_nil]; omega) (by decide) ?_)
  intro h29 w30 hg31 H32
  refine O_v rfl (R_assign (v := (slV h29 (acc ++ ([(UInt8.ofNat u)] : List UInt8)))) rfl ?_)
  refine O_nil (Then_n (W_ret ?_))
  refine ret_1 (v := (slV h29 (acc ++ ([(UInt8.ofNat u)] : List UInt8)))) Try.results68 rfl ?_
  have hE : acc ++ ([(UInt8.ofNat u)] : List UInt8) = b ++ numB n := (num_end ha (by omega))
  refine ⟨h29, ?_, H32.gr, ?_⟩
  · exact congrArg (fun l => slV h29 l) hE
  · have hO := H32.retRow 1 rfl
    exact hE ▸ hO

end Go.Proofs.Ytiknfldhommmpaa
namespace Go.Proofs.Ytiknfldhommmpaa
open Go
set_option maxRecDepth 100000
set_option linter.unusedVariables false
set_option linter.unusedSimpArgs false
theorem enc_Text_c68 : callable Try.prog 68 = true := by kernel_rfl
set_option maxHeartbeats 1000000 in
theorem enc_Text (hb : SlH) (b : List UInt8) (s : ByteArray) (w : World) (Sb : Sl (Old w) encB 1 hb b w) (hl : b.length + s.size ≤ 70368744177664) :
    Calls Try.prog 70 #[(slV hb b), (.string s)] w (Ret fun v w' => ∃ h, v = slV h (b ++ textB s) ∧ Ext w w' ∧ OwnS w.heap.size 5 1 encB h (b ++ textB s) w') := by
 refine calls_W Try.func70 rfl Try.ntmps70 rfl ?_
 have H0 := Ctx.start w nob
 have H1 := H0.addSl _ Sb (fun b hb => ⟨hb, fun _ ho => (nomatch ho)⟩)
 have LSb := Sb.len
 refine W_seq (W_reg ?_)
 refine O_v rfl (R_assign (v := (.slice none 0 0)) rfl ?_)
 refine O_nil (Then_n (W_seq (W_reg ?_)))
 refine O_v rfl (R_move (v := (slV hb b)) rfl ?_)
 refine O_v rfl (R_move (v := (.string s)) rfl ?_)
 refine O_v rfl (R_len_string Try.underlying9 rfl ?_)
 refine O_v rfl (R_callL (vs := [(slV hb b), (.int .i64 ((s.size : Nat) : Int))]) enc_Text_c68 rfl rfl ((enc_Num hb b ((s.size : Nat) : Int) w (H1.slOld 0 rfl) (by omega)).ret ?_))
 rintro _ w3 ⟨h2, rfl, hx4, ho5⟩
 have H6 := H1.addRow hx4 ho5
 refine O_v rfl (R_move (v := (.string s)) rfl ?_)
 refine O_v rfl (C_appendS H6 0 rfl (l := (b ++ numB ((s.size : Nat) : Int))) (str := s) Try.underlying79 Try.underlying9 rfl rfl rfl rfl rfl rfl (by have := numB_len s.size; simp only [List.length_append]; omega) ?_)
 intro h7 w8 hg9 H10
 refine O_v rfl (R_assign (v := (slV h7 ((b ++ numB ((s.size : Nat) : Int)) ++ s.data.toList))) rfl ?_)
 refine O_nil (Then_n (W_ret ?_))
 refine ret_1 (v := (slV h7 ((b ++ numB ((s.size : Nat) : Int)) ++ s.data.toList))) Try.results70 rfl ?_
 have hE : (b ++ numB ((s.size : Nat) : Int)) ++ s.data.toList = b ++ textB s := (List.append_assoc _ _ _)
 refine ⟨h7, ?_, H10.gr, ?_⟩
 · exact congrArg (fun l => slV h7 l) hE
 · have hO := H10.retRow 0 rfl
   exact hE ▸ hO

end Go.Proofs.Ytiknfldhommmpaa
namespace Go.Proofs.Ytiknfldhommmpaa
open Go
set_option maxRecDepth 100000
set_option linter.unusedVariables false
set_option linter.unusedSimpArgs false
theorem obj_at_c68 : callable Try.prog 68 = true := by kernel_rfl
set_option maxHeartbeats 1000000 in
theorem obj_at (hb : SlH) (b : List UInt8) (s : Stamp) (w : World) (Sb : Sl (Old w) encB 1 hb b w) (hl : b.length ≤ 35184372088832) :
    Calls Try.prog 71 #[(slV hb b), (aggOf (stampCh s))] w (Ret fun v w' => ∃ h, v = slV h (b ++ atB s) ∧ Ext w w' ∧ OwnS w.heap.size 5 1 encB h (b ++ atB s) w') := by
 refine calls_W Try.func71 rfl Try.ntmps71 rfl ?_
 have H0 := Ctx.start w nob
 have H1 := H0.addSl _ Sb (fun b hb => ⟨hb, fun _ ho => (nomatch ho)⟩)
 have LSb := Sb.len
 refine W_seq (W_reg ?_)
 refine O_v rfl (C_box H1 [[(.int .i64 s.T)], [(.int .i64 s.R)]] rfl ?_)
 intro b2 w3 hb4 hx5 H6
 refine O_v rfl (R_assign (v := (.slice none 0 0)) rfl ?_)
 refine O_nil (Then_n (W_seq ?_))
 refine W_rgd TryMixed [(0, .q false), (1, .q false), (2, .q false), (4, .q false), (5, .q false), (3, .c false), (6, .c false), (7, .q false)] (by kernel_rfl) ?_
 refine Lx_q (i := 0) rfl rfl _ (fun v7 hv8 => R_move (v := (slV hb b)) rfl ⟨rfl, Gr.refl _ _⟩) ?_
 refine Lx_q (i := 1) rfl rfl _ (fun v9 hv10 => R_fieldAddr (off := 0) (oo := 0) Try.underlying24 rfl rfl Try.sizeOf2 rfl rfl ⟨rfl, Gr.refl _ _⟩) ?_
 refine Lx_q (i := 2) rfl rfl _ (fun v11 hv12 => R_load1 (v := (.int .i64 s.T)) Try.isAgg2 rfl ((boxR_at ((H6.ext hv12).getOwn 0 rfl)).chunks 0 1 0 0 _ rfl rfl rfl) ⟨rfl, Gr.refl _ _⟩) ?_
 refine Lx_q (i := 4) rfl rfl _ (fun v13 hv14 => R_fieldAddr (off := 1) (oo := 1) Try.underlying24 rfl rfl Try.sizeOf3 rfl rfl ⟨rfl, Gr.refl _ _⟩) ?_
 refine Lx_q (i := 5) rfl rfl _ (fun v15 hv16 => R_load1 (v := (.int .i64 s.R)) Try.isAgg3 rfl ((boxR_at ((H6.ext hv16).getOwn 0 rfl)).chunks 1 1 1 1 _ rfl rfl rfl) ⟨rfl, Gr.refl _ _⟩) ?_
 refine Lx_c (i := 3) rfl rfl (fun w17 hw18 => ?_)
 have H19 := H6.ext hw18
 refine (R_callL (vs := [(slV hb b), (.int .i64 s.T)]) obj_at_c68 rfl rfl ((enc_Num hb b s.T w17 (H19.slOld 0 rfl) (by omega)).ret ?_))
 rintro _ w21 ⟨h20, rfl, hx22, ho23⟩
 have H24 := H19.addRow hx22 ho23
 refine ⟨GrF.ofExt hx22, ?_⟩
 refine Lx_c (i := 6) rfl rfl (fun w25 hw26 => ?_)
 have H27 := H24.ext hw26
 refine (R_callL (vs := [(slV h20 (b ++ numB s.T)), (.int .i64 s.R)]) obj_at_c68 rfl rfl ((enc_Num h20 (b ++ numB s.T) s.R w25 (H27.rowSl 0 rfl (fun _ => rfl)) (by have := numB_len s.T; simp only [List.length_append]; omega)).ret ?_))
 rintro _ w29 ⟨h28, rfl, hx30, ho31⟩
 have H32 := H27.addRow hx30 ho31
 refine ⟨GrF.ofExt hx30, ?_⟩
 refine Lx_q (i := 7) rfl rfl _ (fun v33 hv34 => R_assign (v := (slV h28 ((b ++ numB s.T) ++ numB s.R))) rfl ⟨rfl, Gr.refl _ _⟩) ?_
 refine Lx_nil (fun w35 hw36 => ?_)
 have H37 := H32.ext hw36
 refine Then_n (W_ret ?_)
 refine ret_1 (v := (slV h28 ((b ++ numB s.T) ++ numB s.R))) Try.results71 rfl ?_
 have hE : (b ++ numB s.T) ++ numB s.R = b ++ atB s := (List.append_assoc _ _ _)
 refine ⟨h28, ?_, H37.gr, ?_⟩
 · exact congrArg (fun l => slV h28 l) hE
 · have hO := H37.retRow 0 rfl
   exact hE ▸ hO

end Go.Proofs.Ytiknfldhommmpaa
namespace Go.Proofs.Ytiknfldhommmpaa
open Go
set_option maxRecDepth 100000
set_option linter.unusedVariables false
set_option linter.unusedSimpArgs false
set_option maxHeartbeats 1000000 in
theorem IndexFunc_Item (ha : SlH) (a : List ItemS) (kfn : FuncId) (cfn : Array Value) (f : ItemS → Bool) (w : World) (Sa : Sl (Old w) itemCh 38 ha a w) (Kfn : callable Try.prog kfn = true) (Cfn : ∀ x ∈ a, ∀ w1, Ext w w1 → Calls Try.prog kfn (#[itemV x] ++ cfn) w1 (Ret fun v w2 => v = .bool (f x) ∧ Ext w1 w2)) :
    Calls Try.prog 86 #[(slV ha a), (.func (.func kfn) #[] cfn)] w (Ret fun v w' => v = (.int .i64 (idxBy f a)) ∧ Ext w w') := by
 refine calls_W Try.func86 rfl Try.ntmps86 rfl ?_
 have H0 := Ctx.start w nob
 have H1 := H0.addSl _ Sa (fun b hb => ⟨hb, fun _ ho => (nomatch ho)⟩)
 have LSa := Sa.len
 refine W_seq (W_reg ?_)
 refine O_v rfl (R_assign (v := (.int .i64 0)) rfl ?_)
 refine O_nil (Then_n (W_seq (W_seq (W_reg ?_))))
 refine O_v rfl (R_move (v := (slV ha a)) rfl ?_)
 refine O_v rfl (R_len_slice (a := ha.a) (n := a.length) (c := ha.c) Try.underlying50 rfl ?_)
 refine O_v rfl (R_move (v := (.int .i64 0)) rfl ?_)
 refine O_nil (Then_n (W_block ?_))
 refine W_loop (fun m2 e3 w4 => ∃ (k : Nat), m2 = a.length - k ∧ (k ≤ a.length) ∧ (∀ i, i < k → f (nth a i) = false) ∧ ∃ eb5, e3 = envL [(0, (slV ha a)), (1, (.func (.func kfn) #[] cfn)), (7, (.int .i64 ((a.length : Nat) : Int))), (8, (.int .i64 ((k : Nat) : Int)))] eb5 ∧ Ctx w nob w4 [] [slI (Old w) itemCh 38 ha a]) _ ⟨0, rfl, (by omega), (all_zero _), _, envL_self ⟨rfl, rfl, rfl, rfl, trivial⟩, H1⟩ ?_
 rintro m2 _ w4 ⟨k, rfl, hk, hn, eb5, rfl, H6⟩
 refine W_seq (W_reg ?_)
 refine O_v rfl (R_cmp (a := ((k : Nat) : Int)) (b := ((a.length : Nat) : Int)) (r := (decide (((k : Nat) : Int) < ((a.length : Nat) : Int)))) rfl rfl rfl ?_)
 refine O_nil (Then_n (W_seq ?_))
 refine W_cond (t := (decide (((k : Nat) : Int) < ((a.length : Nat) : Int)))) rfl (fun hc7 => ?_) (fun hc7 => ?_)
 ·have hc7 : (((k : Nat) : Int) < ((a.length : Nat) : Int)) := (of_decide_eq_true hc7)
  refine W_skip (Then_n (W_seq (W_block (W_seq (W_reg ?_)))))
  refine O_v rfl (R_move (v := (.int .i64 ((k : Nat) : Int))) rfl ?_)
  refine O_v rfl (R_assign (v := (.int .i64 ((k : Nat) : Int))) rfl ?_)
  refine O_nil (Then_n (W_seq (W_reg ?_)))
  refine O_v rfl (R_move (v := (.func (.func kfn) #[] cfn)) rfl ?_)
  refine O_v rfl (R_move (v := (slV ha a)) rfl ?_)
  refine O_v rfl (R_move (v := (.int .i64 ((k : Nat) : Int))) rfl ?_)
  refine O_v rfl (R_index_pure (H6.sl 0 rfl) (n := a.length) rfl (j := ((k : Nat) : Int)) (oo := (ha.o + k * 38)) Try.underlying50 Try.sizeOf48 rfl rfl (by omega) (by omega) rfl ?_)
  refine O_v rfl (R_loadA (cs := [[(.int .i64 (((nth a k).node).T))], [(.int .i64 (((nth a k).node).R))], [(.int .i64 (((nth a k).tm).T))], [(.int .i64 (((nth a k).tm).R))], [(.string ((nth a k).name))], (idCells ((nth a k).sub)), [(slV ((nth a k).hh) ((nth a k).heads))]]) Try.isAgg48 Try.sizeOf48 rfl rfl ((Sl.elem (H6.sl 0 rfl) (i := k) (by omega) rfl).chunks 0 7 0 (ha.o + k * 38) _ rfl rfl rfl) ?_)
  refine O_v rfl (R_callV (vs := [(aggOf (itemCh (nth a k)))]) Kfn rfl rfl ((Cfn _ (nth_mem (by omega)) w4 H6.gr).ret ?_))
  rintro _ w8 ⟨rfl, hx9⟩
  have H10 := H6.ext hx9
  refine O_nil (Then_n ?_)
  refine W_cond (t := (f (nth a k))) rfl (fun hc11 => ?_) (fun hc11 => ?_)
  ·have hc11 : (f (nth a k)) = true := hc11
   refine W_seq (W_reg ?_)
   refine O_v rfl (R_move (v := (.int .i64 ((k : Nat) : Int))) rfl ?_)
   refine O_v rfl (R_assign (v := (.int .i64 ((k : Nat) : Int))) rfl ?_)
   refine O_nil (Then_n (W_ret (Blk_r (Then_r (Then_r (Blk_r (Then_r ?_)))))))
   refine ret_1 (v := (.int .i64 ((k : Nat) : Int))) Try.results86 rfl ?_
   exact ⟨(by rw [idxBy_at hn (by omega) (by assumption)]), H10.gr⟩
  ·have hc11 : (f (nth a k)) = false := hc11
   refine W_skip (Blk_n (Then_n (W_reg ?_)))
   refine O_v rfl (R_arith (a := ((k : Nat) : Int)) (b := 1) (r0 := ((k : Nat) : Int) + 1) (r := ((k + 1 : Nat) : Int)) rfl rfl rfl (wrapN _ (by omega)) ?_)
   refine O_v rfl (R_move (v := (.int .i64 ((k + 1 : Nat) : Int))) rfl ?_)
   refine O_nil (Then_n ?_)
   refine ⟨_, ?_, (k + 1), rfl, (by omega), (all_succ hn (by assumption)), _, envL_self ⟨rfl, rfl, rfl, rfl, trivial⟩, H10⟩
   omega
 ·have hc7 : ¬ (((k : Nat) : Int) < ((a.length : Nat) : Int)) := (of_decide_eq_false hc7)
  refine W_exit (Then_x (Then_x (Blk_x (Then_n (W_seq (W_reg ?_))))))
  refine O_v rfl (R_assign (v := (.int .i64 (-1))) rfl ?_)
  refine O_nil (Then_n (W_ret ?_))
  refine ret_1 (v := (.int .i64 (-1))) Try.results86 rfl ?_
  exact ⟨(by rw [idxBy_none (by rwa [show a.length = k from by omega])]), H6.gr⟩

end Go.Proofs.Ytiknfldhommmpaa
namespace Go.Proofs.Ytiknfldhommmpaa
open Go
set_option maxRecDepth 100000
set_option linter.unusedVariables false
set_option linter.unusedSimpArgs false
theorem ContainsFunc_Item_c86 : callable Try.prog 86 = true := by kernel_rfl
set_option maxHeartbeats 1000000 in
theorem ContainsFunc_Item (ha : SlH) (a : List ItemS) (kfn : FuncId) (cfn : Array Value) (f : ItemS → Bool) (w : World) (Sa : Sl (Old w) itemCh 38 ha a w) (Kfn : callable Try.prog kfn = true) (Cfn : ∀ x ∈ a, ∀ w1, Ext w w1 → Calls Try.prog kfn (#[itemV x] ++ cfn) w1 (Ret fun v w2 => v = .bool (f x) ∧ Ext w1 w2)) :
    Calls Try.prog 77 #[(slV ha a), (.func (.func kfn) #[] cfn)] w (Ret fun v w' => v = (.bool (a.any f)) ∧ Ext w w') := by
 refine calls_W Try.func77 rfl Try.ntmps77 rfl ?_
 have H0 := Ctx.start w nob
 have H1 := H0.addSl _ Sa (fun b hb => ⟨hb, fun _ ho => (nomatch ho)⟩)
 have LSa := Sa.len
 refine W_seq (W_reg ?_)
 refine O_v rfl (R_assign (v := (.bool false)) rfl ?_)
 refine O_nil (Then_n (W_seq (W_reg ?_)))
 refine O_v rfl (R_move (v := (slV ha a)) rfl ?_)
 refine O_v rfl (R_move (v := (.func (.func kfn) #[] cfn)) rfl ?_)
 refine O_v rfl (R_callL (vs := [(slV ha a), (.func (.func kfn) #[] cfn)]) ContainsFunc_Item_c86 rfl rfl ((IndexFunc_Item ha a kfn cfn f w (H1.slOld 0 rfl) Kfn (fun x hx w1 he => Cfn x hx w1 (H1.gr.trans he))).ret ?_))
 rintro _ w2 ⟨rfl, hx3⟩
 have H4 := H1.ext hx3
 refine O_v rfl (R_cmp (a := idxBy f a) (b := 0) (r := (decide (0 ≤ idxBy f a))) rfl rfl rfl ?_)
 refine O_v rfl (R_assign (v := (.bool (decide (0 ≤ idxBy f a)))) rfl ?_)
 refine O_nil (Then_n (W_ret ?_))
 refine ret_1 (v := (.bool (decide (0 ≤ idxBy f a)))) Try.results77 rfl ?_
 exact ⟨(boolIdx f a), H4.gr⟩

end Go.Proofs.Ytiknfldhommmpaa
namespace Go.Proofs.Ytiknfldhommmpaa
open Go
set_option maxRecDepth 100000
set_option linter.unusedVariables false
set_option linter.unusedSimpArgs false
theorem rightItem_1_c47 : callable Try.prog 47 = true := by kernel_rfl
set_option maxHeartbeats 1000000 in
theorem rightItem_1 (a : Head) (b : Head) (w : World) :
    Calls Try.prog 88 #[(aggOf (headCh a)), (aggOf (headCh b))] w (Ret fun v w' => v = (.int .i64 (cmpSt a.tm b.tm)) ∧ Ext w w') := by
 refine calls_W Try.func88 rfl Try.ntmps88 rfl ?_
 have H0 := Ctx.start w nob
 refine W_seq (W_reg ?_)
 refine O_v rfl (C_box H0 [[(.int .i64 a.tm.T)], [(.int .i64 a.tm.R)], (idCells a.data)] rfl ?_)
 intro b1 w2 hb3 hx4 H5
 refine O_v rfl (C_box H5 [[(.int .i64 b.tm.T)], [(.int .i64 b.tm.R)], (idCells b.data)] rfl ?_)
 intro b6 w7 hb8 hx9 H10
 refine O_v rfl (R_assign (v := (.int .i64 0)) rfl ?_)
 refine O_nil (Then_n (W_seq (W_reg ?_)))
 refine O_v rfl (R_fieldAddr (off := 0) (oo := 0) Try.underlying62 rfl rfl Try.sizeOf24 rfl rfl ?_)
 refine O_v rfl (R_loadA (cs := [[(.int .i64 a.tm.T)], [(.int .i64 a.tm.R)]]) Try.isAgg24 Try.sizeOf24 rfl rfl ((boxR_at (H10.getOwn 1 rfl)).chunks 0 2 0 0 _ rfl rfl rfl) ?_)
 refine O_v rfl (R_fieldAddr (off := 0) (oo := 0) Try.underlying62 rfl rfl Try.sizeOf24 rfl rfl ?_)
 refine O_v rfl (R_loadA (cs := [[(.int .i64 b.tm.T)], [(.int .i64 b.tm.R)]]) Try.isAgg24 Try.sizeOf24 rfl rfl ((boxR_at (H10.getOwn 0 rfl)).chunks 0 2 0 0 _ rfl rfl rfl) ?_)
 refine O_v rfl (R_callL (vs := [(aggOf (stampCh a.tm)), (aggOf (stampCh b.tm))]) rightItem_1_c47 rfl rfl ((stamp_Cmp a.tm b.tm w7 ).ret ?_))
 rintro _ w11 ⟨rfl, hx12⟩
 have H13 := H10.ext hx12
 refine O_v rfl (R_assign (v := (.int .i64 (cmpSt a.tm b.tm))) rfl ?_)
 refine O_nil (Then_n (W_ret ?_))
 refine ret_1 (v := (.int .i64 (cmpSt a.tm b.tm))) Try.results88 rfl ?_
 exact ⟨rfl, H13.gr⟩

end Go.Proofs.Ytiknfldhommmpaa
namespace Go.Proofs.Ytiknfldhommmpaa
open Go
set_option maxRecDepth 100000
set_option linter.unusedVariables false
set_option linter.unusedSimpArgs false
set_option maxHeartbeats 1000000 in
theorem rise_Head (ha : SlH) (a : List Head) (kcmp : FuncId) (ccmp : Array Value) (f : Head → Head → Int) (w : World) (Sa : Sl (Old w) headCh 34 ha a w) (Kcmp : callable Try.prog kcmp = true) (Ccmp : ∀ x ∈ a, ∀ y ∈ a, ∀ w1, Ext w w1 → Calls Try.prog kcmp (#[headV x, headV y] ++ ccmp) w1 (Ret fun v w2 => v = .int .i64 (f x y) ∧ Ext w1 w2)) :
    Calls Try.prog 87 #[(slV ha a), (.func (.func kcmp) #[] ccmp)] w (Ret fun v w' => v = (.bool (riseBy f a)) ∧ Ext w w') := by
 refine calls_W Try.func87 rfl Try.ntmps87 rfl ?_
 have H0 := Ctx.start w nob
 have H1 := H0.addSl _ Sa (fun b hb => ⟨hb, fun _ ho => (nomatch ho)⟩)
 have LSa := Sa.len
 refine W_seq (W_reg ?_)
 refine O_v rfl (R_assign (v := (.bool false)) rfl ?_)
 refine O_nil (Then_n (W_seq (W_seq (W_reg ?_))))
 refine O_v rfl (R_assign (v := (.int .i64 1)) rfl ?_)
 refine O_nil (Then_n (W_block ?_))
 refine W_loop (fun m2 e3 w4 => ∃ (k : Nat), m2 = a.length - k ∧ (1 ≤ k) ∧ (k ≤ max a.length 1) ∧ (∀ i, i < k → 1 ≤ i → f (nth a (i - 1)) (nth a i) < 0) ∧ ∃ eb5, e3 = envL [(0, (slV ha a)), (1, (.func (.func kcmp) #[] ccmp)), (5, (.int .i64 ((k : Nat) : Int)))] eb5 ∧ Ctx w nob w4 [] [slI (Old w) headCh 34 ha a]) _ ⟨1, rfl, (by omega), (by omega), (fun i h1 h2 => by omega), _, envL_self ⟨rfl, rfl, rfl, trivial⟩, H1⟩ ?_
 rintro m2 _ w4 ⟨k, rfl, h1, hk, hn, eb5, rfl, H6⟩
 refine W_seq (W_seq (W_reg ?_))
 refine O_v rfl (R_move (v := (.int .i64 ((k : Nat) : Int))) rfl ?_)
 refine O_v rfl (R_move (v := (slV ha a)) rfl ?_)
 refine O_v rfl (R_len_slice (a := ha.a) (n := a.length) (c := ha.c) Try.underlying42 rfl ?_)
 refine O_v rfl (R_cmp (a := ((k : Nat) : Int)) (b := ((a.length : Nat) : Int)) (r := (decide (((k : Nat) : Int) < ((a.length : Nat) : Int)))) rfl rfl rfl ?_)
 refine O_nil (Then_n ?_)
 refine W_cond (t := (decide (((k : Nat) : Int) < ((a.length : Nat) : Int)))) rfl (fun hc7 => ?_) (fun hc7 => ?_)
 ·have hc7 : (((k : Nat) : Int) < ((a.length : Nat) : Int)) := (of_decide_eq_true hc7)
  refine W_skip (Then_n (W_seq (W_block (W_seq ?_))))
  refine W_rgd TryMixed [(0, .q false), (1, .q false), (2, .q false), (3, .q false), (4, .q false), (5, .q false), (6, .q false), (7, .q false), (8, .q false), (9, .q false), (10, .q false), (11, .q false)] (by kernel_rfl) ?_
  refine Lx_q (i := 0) rfl rfl _ (fun v8 hv9 => R_move (v := (.func (.func kcmp) #[] ccmp)) rfl ⟨rfl, Gr.refl _ _⟩) ?_
  refine Lx_q (i := 1) rfl rfl _ (fun v10 hv11 => R_move (v := (slV ha a)) rfl ⟨rfl, Gr.refl _ _⟩) ?_
  refine Lx_q (i := 2) rfl rfl _ (fun v12 hv13 => R_move (v := (.int .i64 ((k : Nat) : Int))) rfl ⟨rfl, Gr.refl _ _⟩) ?_
  refine Lx_q (i := 3) rfl rfl _ (fun v14 hv15 => R_arith (a := ((k : Nat) : Int)) (b := 1) (r0 := ((k : Nat) : Int) - 1) (r := ((k - 1 : Nat) : Int)) rfl rfl rfl (wrapP _ (by omega) (by omega)) ⟨rfl, Gr.refl _ _⟩) ?_
  refine Lx_q (i := 4) rfl rfl _ (fun v16 hv17 => R_index_pure (H6.sl 0 rfl) (n := a.length) rfl (j := ((k - 1 : Nat) : Int)) (oo := (ha.o + (k - 1) * 34)) Try.underlying42 Try.sizeOf62 rfl rfl (by omega) (by omega) rfl ⟨rfl, Gr.refl _ _⟩) ?_
  refine Lx_q (i := 5) rfl rfl _ (fun v18 hv19 => R_loadA (cs := [[(.int .i64 (((nth a (k - 1)).tm).T))], [(.int .i64 (((nth a (k - 1)).tm).R))], (idCells ((nth a (k - 1)).data))]) Try.isAgg62 Try.sizeOf62 rfl rfl ((Sl.elem ((H6.ext hv19).sl 0 rfl) (i := (k - 1)) (by omega) rfl).chunks 0 3 0 (ha.o + (k - 1) * 34) _ rfl rfl rfl) ⟨rfl, Gr.refl _ _⟩) ?_
  refine Lx_q (i := 6) rfl rfl _ (fun v20 hv21 => R_move (v := (slV ha a)) rfl ⟨rfl, Gr.refl _ _⟩) ?_
  refine Lx_q (i := 7) rfl rfl _ (fun v22 hv23 => R_move (v := (.int .i64 ((k : Nat) : Int))) rfl ⟨rfl, Gr.refl _ _⟩) ?_
  refine Lx_q (i := 8) rfl rfl _ (fun v24 hv25 => R_index_pure (H6.sl 0 rfl) (n := a.length) rfl (j := ((k : Nat) : Int)) (oo := (ha.o + k * 34)) Try.underlying42 Try.sizeOf62 rfl rfl (by omega) (by omega) rfl ⟨rfl, Gr.refl _ _⟩) ?_
  refine Lx_q (i := 9) rfl rfl _ (fun v26 hv27 => R_loadA (cs := [[(.int .i64 (((nth a k).tm).T))], [(.int .i64 (((nth a k).tm).R))], (idCells ((nth a k).data))]) Try.isAgg62 Try.sizeOf62 rfl rfl ((Sl.elem ((H6.ext hv27).sl 0 rfl) (i := k) (by omega) rfl).chunks 0 3 0 (ha.o + k * 34) _ rfl rfl rfl) ⟨rfl, Gr.refl _ _⟩) ?_
  refine Lx_q (i := 10) rfl rfl (.int .i64 (f (nth a (k - 1)) (nth a k))) (fun v28 hv29 => R_callV (vs := [(aggOf (headCh (nth a (k - 1)))), (aggOf (headCh (nth a k)))]) Kcmp rfl rfl (Ccmp _ (nth_mem (by omega)) _ (nth_mem (by omega)) v28 (H6.ext hv29).gr)) ?_
  refine Lx_q (i := 11) rfl rfl _ (fun v30 hv31 => R_cmp (a := f (nth a (k - 1)) (nth a k)) (b := 0) (r := (decide (0 ≤ f (nth a (k - 1)) (nth a k)))) rfl rfl rfl ⟨rfl, Gr.refl _ _⟩) ?_
  refine Lx_nil (fun w32 hw33 => ?_)
  have H34 := H6.ext hw33
  refine Then_n ?_
  refine W_cond (t := (decide (0 ≤ f (nth a (k - 1)) (nth a k)))) rfl (fun hc35 => ?_) (fun hc35 => ?_)
  ·have hc35 : (0 ≤ f (nth a (k - 1)) (nth a k)) := (of_decide_eq_true hc35)
   refine W_seq (W_reg ?_)
   refine O_v rfl (R_assign (v := (.bool false)) rfl ?_)
   refine O_nil (Then_n (W_ret (Blk_r (Then_r (Then_r (Blk_r (Then_r ?_)))))))
   refine ret_1 (v := (.bool false)) Try.results87 rfl ?_
   exact ⟨(boolF (fun h => by have := h k (by omega) (by omega); omega)), H34.gr⟩
  ·have hc35 : ¬ (0 ≤ f (nth a (k - 1)) (nth a k)) := (of_decide_eq_false hc35)
   refine W_skip (Blk_n (Then_n (W_reg ?_)))
   refine O_v rfl (R_move (v := (.int .i64 ((k : Nat) : Int))) rfl ?_)
   refine O_v rfl (R_arith (a := ((k : Nat) : Int)) (b := 1) (r0 := ((k : Nat) : Int) + 1) (r := ((k + 1 : Nat) : Int)) rfl rfl rfl (wrapN _ (by omega)) ?_)
   refine O_v rfl (R_assign (v := (.int .i64 ((k + 1 : Nat) : Int))) rfl ?_)
   refine O_nil (Then_n ?_)
   refine ⟨_, ?_, (k + 1), rfl, (by omega), (by omega), (rise_succ hn (by omega)), _, envL_self ⟨rfl, rfl, rfl, trivial⟩, H34⟩
   omega
 ·have hc7 : ¬ (((k : Nat) : Int) < ((a.length : Nat) : Int)) := (of_decide_eq_false hc7)
  refine W_exit (Then_x (Then_x (Blk_x (Then_n (W_seq (W_reg ?_))))))
  refine O_v rfl (R_assign (v := (.bool true)) rfl ?_)
  refine O_nil (Then_n (W_ret ?_))
  refine ret_1 (v := (.bool true)) Try.results87 rfl ?_
  exact ⟨(boolT (fun i h1 h2 => hn i (by omega) h2)), H6.gr⟩

end Go.Proofs.Ytiknfldhommmpaa
namespace Go.Proofs.Ytiknfldhommmpaa
open Go
set_option maxRecDepth 100000
set_option linter.unusedVariables false
set_option linter.unusedSimpArgs false
theorem obj_rightItem_c35 : callable Try.prog 35 = true := by kernel_rfl
theorem obj_rightItem_c47 : callable Try.prog 47 = true := by kernel_rfl
theorem obj_rightItem_c85 : callable Try.prog 85 = true := by kernel_rfl
theorem obj_rightItem_c87 : callable Try.prog 87 = true := by kernel_rfl
theorem obj_rightItem_c88 : callable Try.prog 88 = true := by kernel_rfl
set_option maxHeartbeats 2000000 in
theorem obj_rightItem (x : ItemS) (w : World) (Sx_heads : Sl (Old w) headCh 34 x.hh x.heads w) (hAs : asciiOr x.name) :
    Calls Try.prog 79 #[(aggOf (itemCh x))] w (Ret fun v w' => v = (.bool (itemOkS x)) ∧ Ext w w') := by
 refine calls_W Try.func79 rfl Try.ntmps79 rfl ?_
 have H0 := Ctx.start w nob
 have H1 := H0.addSl _ Sx_heads (fun b hb => ⟨hb, fun _ ho => (nomatch ho)⟩)
 have LSx_heads := Sx_heads.len
 refine W_seq (W_reg ?_)
 refine O_v rfl (C_box H1 [[(.int .i64 x.node.T)], [(.int .i64 x.node.R)], [(.int .i64 x.tm.T)], [(.int .i64 x.tm.R)], [(.string x.name)], (idCells x.sub), [(slV x.hh x.heads)]] rfl ?_)
 intro b2 w3 hb4 hx5 H6
 refine O_v rfl (R_assign (v := (.bool false)) rfl ?_)
 refine O_nil (Then_n (W_seq (W_seq ?_)))
 refine W_rg [(0, .q false), (1, .q false), (2, .q false), (3, .q false), (4, .q false), (5, .q false), (6, .q false), (7, .q false), (8, .q false), (9, .q false), (10, .q false), (11, .q false), (12, .q false), (13, .q false), (14, .q false), (15, .q false), (16, .q false), (17, .q false), (18, .q false), (19, .q false), (20, .q false), (21, .q false), (22, .q false), (23, .q false), (24, .q false), (25, .q false), (26, .q false), (27, .q false), (28, .q false), (29, .q false)] (by kernel_rfl) ?_
 refine Lx_q (i := 0) rfl rfl _ (fun v7 hv8 => R_fieldAddr (off := 0) (oo := 0) Try.underlying48 rfl rfl Try.sizeOf24 rfl rfl ⟨rfl, Gr.refl _ _⟩) ?_
 refine Lx_q (i := 1) rfl rfl _ (fun v9 hv10 => R_loadA (cs := [[(.int .i64 x.node.T)], [(.int .i64 x.node.R)]]) Try.isAgg24 Try.sizeOf24 rfl rfl ((boxR_at ((H6.ext hv10).getOwn 0 rfl)).chunks 0 2 0 0 _ rfl rfl rfl) ⟨rfl, Gr.refl _ _⟩) ?_
 refine Lx_q (i := 2) rfl rfl (.bool (stRight x.node)) (fun v11 hv12 => R_callL (vs := [(aggOf (stampCh x.node))]) obj_rightItem_c35 rfl rfl (stamp_Right x.node v11 )) ?_
 refine Lx_q (i := 3) rfl rfl _ (fun v13 hv14 => R_not rfl ⟨rfl, Gr.refl _ _⟩) ?_
 refine Lx_q (i := 4) rfl rfl _ (fun v15 hv16 => R_move (v := (.bool (!(stRight x.node)))) rfl ⟨rfl, Gr.refl _ _⟩) ?_
 refine Lx_qg (i := 5) true (!(stRight x.node)) rfl rfl rfl rfl rfl (!(!(stRight x.node))) ga_f _ (fun hA v17 hv18 => R_fieldAddr (off := 2) (oo := 2) Try.underlying48 rfl rfl Try.sizeOf24 rfl rfl ⟨rfl, Gr.refl _ _⟩) ?_
 refine Lx_qg (i := 6) true (!(stRight x.node)) rfl rfl rfl rfl rfl (!(!(stRight x.node))) ga_f _ (fun hA v19 hv20 => R_loadA (cs := [[(.int .i64 x.tm.T)], [(.int .i64 x.tm.R)]]) Try.isAgg24 Try.sizeOf24 rfl (gv_t hA) ((boxR_at ((H6.ext hv20).getOwn 0 rfl)).chunks 2 2 2 2 _ rfl rfl rfl) ⟨rfl, Gr.refl _ _⟩) ?_
 refine Lx_qg (i := 7) true (!(stRight x.node)) rfl rfl rfl rfl rfl (!(!(stRight x.node))) ga_f (.bool (stRight x.tm)) (fun hA v21 hv22 => R_callL (vs := [(aggOf (stampCh x.tm))]) obj_rightItem_c35 rfl (lst1 (gv_t hA)) (stamp_Right x.tm v21 )) ?_
 refine Lx_qg (i := 8) true (!(stRight x.node)) rfl rfl rfl rfl rfl (!(!(stRight x.node))) ga_f _ (fun hA v23 hv24 => R_not (gv_t hA) ⟨rfl, Gr.refl _ _⟩) ?_
 refine Lx_q (i := 9) rfl rfl _ (fun v25 hv26 => R_pick (t := (!(stRight x.node))) (v := (.bool ((!(stRight x.node)) || (!(stRight x.tm))))) rfl pk_or ⟨rfl, Gr.refl _ _⟩) ?_
 refine Lx_q (i := 10) rfl rfl _ (fun v27 hv28 => R_move (v := (.bool ((!(stRight x.node)) || (!(stRight x.tm))))) rfl ⟨rfl, Gr.refl _ _⟩) ?_
 refine Lx_qg (i := 11) true ((!(stRight x.node)) || (!(stRight x.tm))) rfl rfl rfl rfl rfl (!((!(stRight x.node)) || (!(stRight x.tm)))) ga_f _ (fun hA v29 hv30 => R_fieldAddr (off := 2) (oo := 2) Try.underlying48 rfl rfl Try.sizeOf24 rfl rfl ⟨rfl, Gr.refl _ _⟩) ?_
 refine Lx_qg (i := 12) true ((!(stRight x.node)) || (!(stRight x.tm))) rfl rfl rfl rfl rfl (!((!(stRight x.node)) || (!(stRight x.tm)))) ga_f _ (fun hA v31 hv32 => R_loadA (cs := [[(.int .i64 x.tm.T)], [(.int .i64 x.tm.R)]]) Try.isAgg24 Try.sizeOf24 rfl (gv_t hA) ((boxR_at ((H6.ext hv32).getOwn 0 rfl)).chunks 2 2 2 2 _ rfl rfl rfl) ⟨rfl, Gr.refl _ _⟩) ?_
 refine Lx_qg (i := 13) true ((!(stRight x.node)) || (!(stRight x.tm))) rfl rfl rfl rfl rfl (!((!(stRight x.node)) || (!(stRight x.tm)))) ga_f _ (fun hA v33 hv34 => R_fieldAddr (off := 0) (oo := 0) Try.underlying48 rfl rfl Try.sizeOf24 rfl rfl ⟨rfl, Gr.refl _ _⟩) ?_
 refine Lx_qg (i := 14) true ((!(stRight x.node)) || (!(stRight x.tm))) rfl rfl rfl rfl rfl (!((!(stRight x.node)) || (!(stRight x.tm)))) ga_f _ (fun hA v35 hv36 => R_loadA (cs := [[(.int .i64 x.node.T)], [(.int .i64 x.node.R)]]) Try.isAgg24 Try.sizeOf24 rfl (gv_t hA) ((boxR_at ((H6.ext hv36).getOwn 0 rfl)).chunks 0 2 0 0 _ rfl rfl rfl) ⟨rfl, Gr.refl _ _⟩) ?_
 refine Lx_qg (i := 15) true ((!(stRight x.node)) || (!(stRight x.tm))) rfl rfl rfl rfl rfl (!((!(stRight x.node)) || (!(stRight x.tm)))) ga_f (.int .i64 (cmpSt x.tm x.node)) (fun hA v37 hv38 => R_callL (vs := [(aggOf (stampCh x.tm)), (aggOf (stampCh x.node))]) obj_rightItem_c47 rfl (lst2 (gv_t hA) (gv_t hA)) (stamp_Cmp x.tm x.node v37 )) ?_
 refine Lx_qg (i := 16) true ((!(stRight x.node)) || (!(stRight x.tm))) rfl rfl rfl rfl rfl (!((!(stRight x.node)) || (!(stRight x.tm)))) ga_f _ (fun hA v39 hv40 => R_cmp (a := cmpSt x.tm x.node) (b := 0) (r := (decide (cmpSt x.tm x.node < 0))) (gv_t hA) rfl rfl ⟨rfl, Gr.refl _ _⟩) ?_
 refine Lx_q (i := 17) rfl rfl _ (fun v41 hv42 => R_pick (t := ((!(stRight x.node)) || (!(stRight x.tm)))) (v := (.bool (((!(stRight x.node)) || (!(stRight x.tm))) || (decide (cmpSt x.tm x.node < 0))))) rfl pk_or ⟨rfl, Gr.refl _ _⟩) ?_
 refine Lx_q (i := 18) rfl rfl _ (fun v43 hv44 => R_move (v := (.bool (((!(stRight x.node)) || (!(stRight x.tm))) || (decide (cmpSt x.tm x.node < 0))))) rfl ⟨rfl, Gr.refl _ _⟩) ?_
 refine Lx_qg (i := 19) true (((!(stRight x.node)) || (!(stRight x.tm))) || (decide (cmpSt x.tm x.node < 0))) rfl rfl rfl rfl rfl (!(((!(stRight x.node)) || (!(stRight x.tm))) || (decide (cmpSt x.tm x.node < 0)))) ga_f _ (fun hA v45 hv46 => R_fieldAddr (off := 4) (oo := 4) Try.underlying48 rfl rfl Try.sizeOf9 rfl rfl ⟨rfl, Gr.refl _ _⟩) ?_
 refine Lx_qg (i := 20) true (((!(stRight x.node)) || (!(stRight x.tm))) || (decide (cmpSt x.tm x.node < 0))) rfl rfl rfl rfl rfl (!(((!(stRight x.node)) || (!(stRight x.tm))) || (decide (cmpSt x.tm x.node < 0)))) ga_f _ (fun hA v47 hv48 => R_load1 (v := (.string x.name)) Try.isAgg9 (gv_t hA) ((boxR_at ((H6.ext hv48).getOwn 0 rfl)).chunks 4 1 4 4 _ rfl rfl rfl) ⟨rfl, Gr.refl _ _⟩) ?_
 refine Lx_qg (i := 21) true (((!(stRight x.node)) || (!(stRight x.tm))) || (decide (cmpSt x.tm x.node < 0))) rfl rfl rfl rfl rfl (!(((!(stRight x.node)) || (!(stRight x.tm))) || (decide (cmpSt x.tm x.node < 0)))) ga_f (.bool (nameOk x.name)) (fun hA v49 hv50 => R_callL (vs := [(.string x.name)]) obj_rightItem_c85 rfl (lst1 (gv_t hA)) (stamp_Name x.name v49 hAs)) ?_
 refine Lx_qg (i := 22) true (((!(stRight x.node)) || (!(stRight x.tm))) || (decide (cmpSt x.tm x.node < 0))) rfl rfl rfl rfl rfl (!(((!(stRight x.node)) || (!(stRight x.tm))) || (decide (cmpSt x.tm x.node < 0)))) ga_f _ (fun hA v51 hv52 => R_not (gv_t hA) ⟨rfl, Gr.refl _ _⟩) ?_
 refine Lx_q (i := 23) rfl rfl _ (fun v53 hv54 => R_pick (t := (((!(stRight x.node)) || (!(stRight x.tm))) || (decide (cmpSt x.tm x.node < 0)))) (v := (.bool ((((!(stRight x.node)) || (!(stRight x.tm))) || (decide (cmpSt x.tm x.node < 0))) || (!(nameOk x.name))))) rfl pk_or ⟨rfl, Gr.refl _ _⟩) ?_
 refine Lx_q (i := 24) rfl rfl _ (fun v55 hv56 => R_move (v := (.bool ((((!(stRight x.node)) || (!(stRight x.tm))) || (decide (cmpSt x.tm x.node < 0))) || (!(nameOk x.name))))) rfl ⟨rfl, Gr.refl _ _⟩) ?_
 refine Lx_qg (i := 25) true ((((!(stRight x.node)) || (!(stRight x.tm))) || (decide (cmpSt x.tm x.node < 0))) || (!(nameOk x.name))) rfl rfl rfl rfl rfl (!((((!(stRight x.node)) || (!(stRight x.tm))) || (decide (cmpSt x.tm x.node < 0))) || (!(nameOk x.name)))) ga_f _ (fun hA v57 hv58 => R_fieldAddr (off := 37) (oo := 37) Try.underlying48 rfl rfl Try.sizeOf42 rfl rfl ⟨rfl, Gr.refl _ _⟩) ?_
 refine Lx_qg (i := 26) true ((((!(stRight x.node)) || (!(stRight x.tm))) || (decide (cmpSt x.tm x.node < 0))) || (!(nameOk x.name))) rfl rfl rfl rfl rfl (!((((!(stRight x.node)) || (!(stRight x.tm))) || (decide (cmpSt x.tm x.node < 0))) || (!(nameOk x.name)))) ga_f _ (fun hA v59 hv60 => R_load1 (v := (slV x.hh x.heads)) Try.isAgg42 (gv_t hA) ((boxR_at ((H6.ext hv60).getOwn 0 rfl)).chunks 6 1 37 37 _ rfl rfl rfl) ⟨rfl, Gr.refl _ _⟩) ?_
 refine Lx_qg (i := 27) true ((((!(stRight x.node)) || (!(stRight x.tm))) || (decide (cmpSt x.tm x.node < 0))) || (!(nameOk x.name))) rfl rfl rfl rfl rfl (!((((!(stRight x.node)) || (!(stRight x.tm))) || (decide (cmpSt x.tm x.node < 0))) || (!(nameOk x.name)))) ga_f _ (fun hA v61 hv62 => R_len_slice (a := x.hh.a) (n := x.heads.length) (c := x.hh.c) Try.underlying42 (gv_t hA) ⟨rfl, Gr.refl _ _⟩) ?_
 refine Lx_qg (i := 28) true ((((!(stRight x.node)) || (!(stRight x.tm))) || (decide (cmpSt x.tm x.node < 0))) || (!(nameOk x.name))) rfl rfl rfl rfl rfl (!((((!(stRight x.node)) || (!(stRight x.tm))) || (decide (cmpSt x.tm x.node < 0))) || (!(nameOk x.name)))) ga_f _ (fun hA v63 hv64 => R_cmp (a := ((x.heads.length : Nat) : Int)) (b := 1000) (r := (decide (1000 < ((x.heads.length : Nat) : Int)))) (gv_t hA) rfl rfl ⟨rfl, Gr.refl _ _⟩) ?_
 refine Lx_q (i := 29) rfl rfl _ (fun v65 hv66 => R_pick (t := ((((!(stRight x.node)) || (!(stRight x.tm))) || (decide (cmpSt x.tm x.node < 0))) || (!(nameOk x.name)))) (v := (.bool (((((!(stRight x.node)) || (!(stRight x.tm))) || (decide (cmpSt x.tm x.node < 0))) || (!(nameOk x.name))) || (decide (1000 < ((x.heads.length : Nat) : Int)))))) rfl pk_or ⟨rfl, Gr.refl _ _⟩) ?_
 refine Lx_nil (fun w67 hw68 => ?_)
 have H69 := H6.ext hw68
 refine Then_n ?_
 refine W_cond (t := (((((!(stRight x.node)) || (!(stRight x.tm))) || (decide (cmpSt x.tm x.node < 0))) || (!(nameOk x.name))) || (decide (1000 < ((x.heads.length : Nat) : Int))))) rfl (fun hc70 => ?_) (fun hc70 => ?_)
 ·have hc70 : (((((stRight x.node) = false ∨ (stRight x.tm) = false) ∨ (cmpSt x.tm x.node < 0)) ∨ (nameOk x.name) = false) ∨ (1000 < ((x.heads.length : Nat) : Int))) := (Or.imp (fun h => (Or.imp (fun h => (Or.imp (fun h => (Or.imp (fun h => (notT h)) (fun h => (notT h)) (orT h))) (fun h => (of_decide_eq_true h)) (orT h))) (fun h => (notT h)) (orT h))) (fun h => (of_decide_eq_true h)) (orT hc70))
  refine W_seq (W_reg ?_)
  refine O_v rfl (R_assign (v := (.bool false)) rfl ?_)
  refine O_nil (Then_n (W_ret (Then_r ?_)))
  refine ret_1 (v := (.bool false)) Try.results79 rfl ?_
  exact ⟨(itemOk_f1 (by assumption)), H69.gr⟩
 ·have hc70 : (((((stRight x.node) = true ∧ (stRight x.tm) = true) ∧ ¬ (cmpSt x.tm x.node < 0)) ∧ (nameOk x.name) = true) ∧ ¬ (1000 < ((x.heads.length : Nat) : Int))) := (And.imp (fun h => (And.imp (fun h => (And.imp (fun h => (And.imp (fun h => (notF h)) (fun h => (notF h)) (orF h))) (fun h => (of_decide_eq_false h)) (orF h))) (fun h => (notF h)) (orF h))) (fun h => (of_decide_eq_false h)) (orF hc70))
  refine W_skip (Then_n (W_seq (W_seq (W_reg ?_))))
  refine O_v rfl (R_fieldAddr (off := 37) (oo := 37) Try.underlying48 rfl rfl Try.sizeOf42 rfl rfl ?_)
  refine O_v rfl (R_load1 (v := (slV x.hh x.heads)) Try.isAgg42 rfl ((boxR_at (H69.getOwn 0 rfl)).chunks 6 1 37 37 _ rfl rfl rfl) ?_)
  refine O_v rfl (R_len_slice (a := x.hh.a) (n := x.heads.length) (c := x.hh.c) Try.underlying42 rfl ?_)
  refine O_v rfl (R_move (v := (.int .i64 0)) rfl ?_)
  refine O_nil (Then_n (W_block ?_))
  refine W_loop (fun m71 e72 w73 => ∃ (k : Nat), m71 = x.heads.length - k ∧ (k ≤ x.heads.length) ∧ (∀ i, i < k → itemHead1 x.node x.heads i) ∧ ∃ eb74, e72 = envL [(1, (.pointer (some ⟨b2, 0, none⟩))), (36, (slV x.hh x.heads)), (37, (.int .i64 ((x.heads.length : Nat) : Int))), (38, (.int .i64 ((k : Nat) : Int)))] eb74 ∧ Ctx w nob w73 [boxR b2 48 [[(.int .i64 x.node.T)], [(.int .i64 x.node.R)], [(.int .i64 x.tm.T)], [(.int .i64 x.tm.R)], [(.string x.name)], (idCells x.sub), [(slV x.hh x.heads)]]] [slI (Old w) headCh 34 x.hh x.heads]) _ ⟨0, rfl, (by omega), (all_zero _), _, envL_self ⟨rfl, rfl, rfl, rfl, trivial⟩, H69⟩ ?_
  rintro m71 _ w73 ⟨k, rfl, hk, hn, eb74, rfl, H75⟩
  refine W_seq (W_reg ?_)
  refine O_v rfl (R_cmp (a := ((k : Nat) : Int)) (b := ((x.heads.length : Nat) : Int)) (r := (decide (((k : Nat) : Int) < ((x.heads.length : Nat) : Int)))) rfl rfl rfl ?_)
  refine O_nil (Then_n (W_seq ?_))
  refine W_cond (t := (decide (((k : Nat) : Int) < ((x.heads.length : Nat) : Int)))) rfl (fun hc76 => ?_) (fun hc76 => ?_)
  ·have hc76 : (((k : Nat) : Int) < ((x.heads.length : Nat) : Int)) := (of_decide_eq_true hc76)
   refine W_skip (Then_n (W_seq (W_block (W_seq (W_reg ?_)))))
   refine O_v rfl (R_index_pure (H75.sl 0 rfl) (n := x.heads.length) rfl (j := ((k : Nat) : Int)) (oo := (x.hh.o + k * 34)) Try.underlying42 Try.sizeOf62 rfl rfl (by omega) (by omega) rfl ?_)
   refine O_v rfl (R_loadA (cs := [[(.int .i64 (((nth x.heads k).tm).T))], [(.int .i64 (((nth x.heads k).tm).R))], (idCells ((nth x.heads k).data))]) Try.isAgg62 Try.sizeOf62 rfl rfl ((Sl.elem (H75.sl 0 rfl) (i := k) (by omega) rfl).chunks 0 3 0 (x.hh.o + k * 34) _ rfl rfl rfl) ?_)
   refine O_v rfl (C_alloc H75 [[(.int .i64 0)], [(.int .i64 0)], (idCells zeroId)] Try.zeroValue62 ?_)
   intro b77 w78 hb79 hx80 H81
   refine O_u (C_storeA H81 0 rfl 0 (sub := [[(.int .i64 (((nth x.heads k).tm).T))], [(.int .i64 (((nth x.heads k).tm).R))], (idCells ((nth x.heads k).data))]) [[(.int .i64 (((nth x.heads k).tm).T))], [(.int .i64 (((nth x.heads k).tm).R))], (idCells ((nth x.heads k).data))] Try.sizeOf62 rfl rfl rfl rfl ⟨[[(.int .i64 0)], [(.int .i64 0)], (idCells zeroId)], [], rfl, rfl, rfl⟩ rfl ?_)
   intro w82 hg83 H84
   refine O_nil (Then_n (W_seq ?_))
   refine W_rg [(0, .q false), (1, .q false), (2, .q false), (3, .q false), (4, .q false), (5, .q false), (6, .q false), (7, .q false), (8, .q false), (9, .q false), (10, .q false), (11, .q false), (12, .q false), (13, .q false), (14, .q false), (15, .q false), (16, .q false), (17, .q false)] (by kernel_rfl) ?_
   refine Lx_q (i := 0) rfl rfl _ (fun v85 hv86 => R_fieldAddr (off := 0) (oo := 0) Try.underlying62 rfl rfl Try.sizeOf24 rfl rfl ⟨rfl, Gr.refl _ _⟩) ?_
   refine Lx_q (i := 1) rfl rfl _ (fun v87 hv88 => R_loadA (cs := [[(.int .i64 (((nth x.heads k).tm).T))], [(.int .i64 (((nth x.heads k).tm).R))]]) Try.isAgg24 Try.sizeOf24 rfl rfl ((boxR_at ((H84.ext hv88).getOwn 0 rfl)).chunks 0 2 0 0 _ rfl rfl rfl) ⟨rfl, Gr.refl _ _⟩) ?_
   refine Lx_q (i := 2) rfl rfl (.bool (stRight ((nth x.heads k).tm))) (fun v89 hv90 => R_callL (vs := [(aggOf (stampCh ((nth x.heads k).tm)))]) obj_rightItem_c35 rfl rfl (stamp_Right ((nth x.heads k).tm) v89 )) ?_
   refine Lx_q (i := 3) rfl rfl _ (fun v91 hv92 => R_not rfl ⟨rfl, Gr.refl _ _⟩) ?_
   refine Lx_q (i := 4) rfl rfl _ (fun v93 hv94 => R_move (v := (.bool (!(stRight ((nth x.heads k).tm))))) rfl ⟨rfl, Gr.refl _ _⟩) ?_
   refine Lx_qg (i := 5) true (!(stRight ((nth x.heads k).tm))) rfl rfl rfl rfl rfl (!(!(stRight ((nth x.heads k).tm)))) ga_f _ (fun hA v95 hv96 => R_fieldAddr (off := 0) (oo := 0) Try.underlying62 rfl rfl Try.sizeOf24 rfl rfl ⟨rfl, Gr.refl _ _⟩) ?_
   refine Lx_qg (i := 6) true (!(stRight ((nth x.heads k).tm))) rfl rfl rfl rfl rfl (!(!(stRight ((nth x.heads k).tm)))) ga_f _ (fun hA v97 hv98 => R_loadA (cs := [[(.int .i64 (((nth x.heads k).tm).T))], [(.int .i64 (((nth x.heads k).tm).R))]]) Try.isAgg24 Try.sizeOf24 rfl (gv_t hA) ((boxR_at ((H84.ext hv98).getOwn 0 rfl)).chunks 0 2 0 0 _ rfl rfl rfl) ⟨rfl, Gr.refl _ _⟩) ?_
   refine Lx_qg (i := 7) true (!(stRight ((nth x.heads k).tm))) rfl rfl rfl rfl rfl (!(!(stRight ((nth x.heads k).tm)))) ga_f _ (fun hA v99 hv100 => R_fieldAddr (off := 0) (oo := 0) Try.underlying48 rfl rfl Try.sizeOf24 rfl rfl ⟨rfl, Gr.refl _ _⟩) ?_
   refine Lx_qg (i := 8) true (!(stRight ((nth x.heads k).tm))) rfl rfl rfl rfl rfl (!(!(stRight ((nth x.heads k).tm)))) ga_f _ (fun hA v101 hv102 => R_loadA (cs := [[(.int .i64 x.node.T)], [(.int .i64 x.node.R)]]) Try.isAgg24 Try.sizeOf24 rfl (gv_t hA) ((boxR_at ((H84.ext hv102).getOwn 1 rfl)).chunks 0 2 0 0 _ rfl rfl rfl) ⟨rfl, Gr.refl _ _⟩) ?_
   refine Lx_qg (i := 9) true (!(stRight ((nth x.heads k).tm))) rfl rfl rfl rfl rfl (!(!(stRight ((nth x.heads k).tm)))) ga_f (.int .i64 (cmpSt ((nth x.heads k).tm) x.node)) (fun hA v103 hv104 => R_callL (vs := [(aggOf (stampCh ((nth x.heads k).tm))), (aggOf (stampCh x.node))]) obj_rightItem_c47 rfl (lst2 (gv_t hA) (gv_t hA)) (stamp_Cmp ((nth x.heads k).tm) x.node v103 )) ?_
   refine Lx_qg (i := 10) true (!(stRight ((nth x.heads k).tm))) rfl rfl rfl rfl rfl (!(!(stRight ((nth x.heads k).tm)))) ga_f _ (fun hA v105 hv106 => R_cmp (a := cmpSt ((nth x.heads k).tm) x.node) (b := 0) (r := (decide (cmpSt ((nth x.heads k).tm) x.node ≤ 0))) (gv_t hA) rfl rfl ⟨rfl, Gr.refl _ _⟩) ?_
   refine Lx_q (i := 11) rfl rfl _ (fun v107 hv108 => R_pick (t := (!(stRight ((nth x.heads k).tm)))) (v := (.bool ((!(stRight ((nth x.heads k).tm))) || (decide (cmpSt ((nth x.heads k).tm) x.node ≤ 0))))) rfl pk_or ⟨rfl, Gr.refl _ _⟩) ?_
   refine Lx_q (i := 12) rfl rfl _ (fun v109 hv110 => R_move (v := (.bool ((!(stRight ((nth x.heads k).tm))) || (decide (cmpSt ((nth x.heads k).tm) x.node ≤ 0))))) rfl ⟨rfl, Gr.refl _ _⟩) ?_
   refine Lx_qg (i := 13) true ((!(stRight ((nth x.heads k).tm))) || (decide (cmpSt ((nth x.heads k).tm) x.node ≤ 0))) rfl rfl rfl rfl rfl (!((!(stRight ((nth x.heads k).tm))) || (decide (cmpSt ((nth x.heads k).tm) x.node ≤ 0)))) ga_f _ (fun hA v111 hv112 => R_fieldAddr (off := 2) (oo := 2) Try.underlying62 rfl rfl Try.sizeOf36 rfl rfl ⟨rfl, Gr.refl _ _⟩) ?_
   refine Lx_qg (i := 14) true ((!(stRight ((nth x.heads k).tm))) || (decide (cmpSt ((nth x.heads k).tm) x.node ≤ 0))) rfl rfl rfl rfl rfl (!((!(stRight ((nth x.heads k).tm))) || (decide (cmpSt ((nth x.heads k).tm) x.node ≤ 0)))) ga_f _ (fun hA v113 hv114 => R_loadA (cs := [(idCells ((nth x.heads k).data))]) Try.isAgg36 Try.sizeOf36 rfl (gv_t hA) ((boxR_at ((H84.ext hv114).getOwn 0 rfl)).chunks 2 1 2 2 _ rfl rfl rfl) ⟨rfl, Gr.refl _ _⟩) ?_
   refine Lx_qg (i := 15) true ((!(stRight ((nth x.heads k).tm))) || (decide (cmpSt ((nth x.heads k).tm) x.node ≤ 0))) rfl rfl rfl rfl rfl (!((!(stRight ((nth x.heads k).tm))) || (decide (cmpSt ((nth x.heads k).tm) x.node ≤ 0)))) ga_f _ (fun hA v115 hv116 => R_buildL (vs := []) (v := aggOf [(idCells zeroId)]) rfl (fun _ => by kernel_rfl) ⟨rfl, Gr.refl _ _⟩) ?_
   refine Lx_qg (i := 16) true ((!(stRight ((nth x.heads k).tm))) || (decide (cmpSt ((nth x.heads k).tm) x.node ≤ 0))) rfl rfl rfl rfl rfl (!((!(stRight ((nth x.heads k).tm))) || (decide (cmpSt ((nth x.heads k).tm) x.node ≤ 0)))) ga_f _ (fun hA v117 hv118 => R_eqv (a := (nth x.heads k).data) (b := zeroId) eqv_ID36 rfl Try.eqGuardType36 (gv_t hA) (gv_t hA) ⟨rfl, Gr.refl _ _⟩) ?_
   refine Lx_q (i := 17) rfl rfl _ (fun v119 hv120 => R_pick (t := ((!(stRight ((nth x.heads k).tm))) || (decide (cmpSt ((nth x.heads k).tm) x.node ≤ 0)))) (v := (.bool (((!(stRight ((nth x.heads k).tm))) || (decide (cmpSt ((nth x.heads k).tm) x.node ≤ 0))) || (decide ((nth x.heads k).data = zeroId))))) rfl pk_or ⟨rfl, Gr.refl _ _⟩) ?_
   refine Lx_nil (fun w121 hw122 => ?_)
   have H123 := H84.ext hw122
   refine Then_n ?_
   refine W_cond (t := (((!(stRight ((nth x.heads k).tm))) || (decide (cmpSt ((nth x.heads k).tm) x.node ≤ 0))) || (decide ((nth x.heads k).data = zeroId)))) rfl (fun hc124 => ?_) (fun hc124 => ?_)
   ·have hc124 : (((stRight ((nth x.heads k).tm)) = false ∨ (cmpSt ((nth x.heads k).tm) x.node ≤ 0)) ∨ ((nth x.heads k).data = zeroId)) := (Or.imp (fun h => (Or.imp (fun h => (notT h)) (fun h => (of_decide_eq_true h)) (orT h))) (fun h => (of_decide_eq_true h)) (orT hc124))
    refine W_seq (W_reg ?_)
    refine O_v rfl (R_assign (v := (.bool false)) rfl ?_)
    refine O_nil (Then_n (W_ret (Blk_r (Then_r (Then_r (Blk_r (Then_r ?_)))))))
    refine ret_1 (v := (.bool false)) Try.results79 rfl ?_
    exact ⟨(itemOk_f3 (k := k) (by omega) (by assumption)), H123.gr⟩
   ·have hc124 : (((stRight ((nth x.heads k).tm)) = true ∧ ¬ (cmpSt ((nth x.heads k).tm) x.node ≤ 0)) ∧ ¬ ((nth x.heads k).data = zeroId)) := (And.imp (fun h => (And.imp (fun h => (notF h)) (fun h => (of_decide_eq_false h)) (orF h))) (fun h => (of_decide_eq_false h)) (orF hc124))
    refine W_skip (Blk_n (Then_n (W_reg ?_)))
    refine O_v rfl (R_arith (a := ((k : Nat) : Int)) (b := 1) (r0 := ((k : Nat) : Int) + 1) (r := ((k + 1 : Nat) : Int)) rfl rfl rfl (wrapN _ (by omega)) ?_)
    refine O_v rfl (R_move (v := (.int .i64 ((k + 1 : Nat) : Int))) rfl ?_)
    refine O_nil (Then_n ?_)
    have H125 := H123.sub (B' := [boxR b2 48 [[(.int .i64 x.node.T)], [(.int .i64 x.node.R)], [(.int .i64 x.tm.T)], [(.int .i64 x.tm.R)], [(.string x.name)], (idCells x.sub), [(slV x.hh x.heads)]]]) (I' := [slI (Old w) headCh 34 x.hh x.heads]) (List.Sublist.cons _ (List.Sublist.cons_cons _ List.Sublist.slnil)) (List.forall_mem_cons.2 ⟨List.mem_of_getElem? (i := 0) rfl, fun _ h => (nomatch h)⟩)
    refine ⟨_, ?_, (k + 1), rfl, (by omega), (all_succ hn (itemHead1_t (by assumption))), _, envL_self ⟨rfl, rfl, rfl, rfl, trivial⟩, H125⟩
    omega
  ·have hc76 : ¬ (((k : Nat) : Int) < ((x.heads.length : Nat) : Int)) := (of_decide_eq_false hc76)
   refine W_exit (Then_x (Then_x (Blk_x (Then_n (W_seq (W_reg ?_))))))
   refine O_v rfl (R_fieldAddr (off := 37) (oo := 37) Try.underlying48 rfl rfl Try.sizeOf42 rfl rfl ?_)
   refine O_v rfl (R_load1 (v := (slV x.hh x.heads)) Try.isAgg42 rfl ((boxR_at (H75.getOwn 0 rfl)).chunks 6 1 37 37 _ rfl rfl rfl) ?_)
   refine O_v rfl (R_callL (vs := [(slV x.hh x.heads), (.func (.func 88) #[] #[])]) obj_rightItem_c87 rfl rfl ((rise_Head x.hh x.heads 88 #[] (fun (a b : Head) => cmpSt a.tm b.tm) w73 (H75.slOld 0 rfl) obj_rightItem_c88 (fun x _ y _ w1 _ => callsCap0 (rightItem_1 x y w1))).ret ?_))
   rintro _ w126 ⟨rfl, hx127⟩
   have H128 := H75.ext hx127
   refine O_v rfl (R_assign (v := (.bool (riseBy (fun (a b : Head) => cmpSt a.tm b.tm) x.heads))) rfl ?_)
   refine O_nil (Then_n (W_ret ?_))
   refine ret_1 (v := (.bool (riseBy (fun (a b : Head) => cmpSt a.tm b.tm) x.heads))) Try.results79 rfl ?_
   exact ⟨(itemOk_e (by assumption) (by rwa [show x.heads.length = k from by omega])), H128.gr⟩

end Go.Proofs.Ytiknfldhommmpaa
namespace Go.Proofs.Ytiknfldhommmpaa
open Go
set_option maxRecDepth 100000
set_option linter.unusedVariables false
set_option linter.unusedSimpArgs false
theorem rightDir_1_c79 : callable Try.prog 79 = true := by kernel_rfl
set_option maxHeartbeats 1000000 in
theorem rightDir_1 (x : ItemS) (w : World) (Sx_heads : Sl (Old w) headCh 34 x.hh x.heads w) (hAs : asciiOr x.name) :
    Calls Try.prog 78 #[(aggOf (itemCh x))] w (Ret fun v w' => v = (.bool (!(itemOkS x))) ∧ Ext w w') := by
 refine calls_W Try.func78 rfl Try.ntmps78 rfl ?_
 have H0 := Ctx.start w nob
 have H1 := H0.addSl _ Sx_heads (fun b hb => ⟨hb, fun _ ho => (nomatch ho)⟩)
 have LSx_heads := Sx_heads.len
 refine W_seq (W_reg ?_)
 refine O_v rfl (C_box H1 [[(.int .i64 x.node.T)], [(.int .i64 x.node.R)], [(.int .i64 x.tm.T)], [(.int .i64 x.tm.R)], [(.string x.name)], (idCells x.sub), [(slV x.hh x.heads)]] rfl ?_)
 intro b2 w3 hb4 hx5 H6
 refine O_v rfl (R_assign (v := (.bool false)) rfl ?_)
 refine O_nil (Then_n (W_seq (W_reg ?_)))
 refine O_v rfl (R_loadA (cs := [[(.int .i64 x.node.T)], [(.int .i64 x.node.R)], [(.int .i64 x.tm.T)], [(.int .i64 x.tm.R)], [(.string x.name)], (idCells x.sub), [(slV x.hh x.heads)]]) Try.isAgg48 Try.sizeOf48 rfl rfl ((boxR_at (H6.getOwn 0 rfl)).chunks 0 7 0 0 _ rfl rfl rfl) ?_)
 refine O_v rfl (R_callL (vs := [(aggOf (itemCh x))]) rightDir_1_c79 rfl rfl ((obj_rightItem x w3 (H6.slOld 0 rfl) hAs).ret ?_))
 rintro _ w7 ⟨rfl, hx8⟩
 have H9 := H6.ext hx8
 refine O_v rfl (R_not rfl ?_)
 refine O_v rfl (R_assign (v := (.bool (!(itemOkS x)))) rfl ?_)
 refine O_nil (Then_n (W_ret ?_))
 refine ret_1 (v := (.bool (!(itemOkS x)))) Try.results78 rfl ?_
 exact ⟨rfl, H9.gr⟩

end Go.Proofs.Ytiknfldhommmpaa
namespace Go.Proofs.Ytiknfldhommmpaa
open Go
set_option maxRecDepth 100000
set_option linter.unusedVariables false
set_option linter.unusedSimpArgs false
theorem rightDir_2_c47 : callable Try.prog 47 = true := by kernel_rfl
set_option maxHeartbeats 1000000 in
theorem rightDir_2 (a : ItemS) (b : ItemS) (w : World) (Sa_heads : Sl (Old w) headCh 34 a.hh a.heads w) (Sb_heads : Sl (Old w) headCh 34 b.hh b.heads w) :
    Calls Try.prog 81 #[(aggOf (itemCh a)), (aggOf (itemCh b))] w (Ret fun v w' => v = (.int .i64 (cmpSt a.node b.node)) ∧ Ext w w') := by
 refine calls_W Try.func81 rfl Try.ntmps81 rfl ?_
 have H0 := Ctx.start w nob
 have H1 := H0.addSl _ Sa_heads (fun b hb => ⟨hb, fun _ ho => (nomatch ho)⟩)
 have LSa_heads := Sa_heads.len
 have H2 := H1.addSl _ Sb_heads (fun b hb => ⟨hb, fun _ ho => (nomatch ho)⟩)
 have LSb_heads := Sb_heads.len
 refine W_seq (W_reg ?_)
 refine O_v rfl (C_box H2 [[(.int .i64 a.node.T)], [(.int .i64 a.node.R)], [(.int .i64 a.tm.T)], [(.int .i64 a.tm.R)], [(.string a.name)], (idCells a.sub), [(slV a.hh a.heads)]] rfl ?_)
 intro b3 w4 hb5 hx6 H7
 refine O_v rfl (C_box H7 [[(.int .i64 b.node.T)], [(.int .i64 b.node.R)], [(.int .i64 b.tm.T)], [(.int .i64 b.tm.R)], [(.string b.name)], (idCells b.sub), [(slV b.hh b.heads)]] rfl ?_)
 intro b8 w9 hb10 hx11 H12
 refine O_v rfl (R_assign (v := (.int .i64 0)) rfl ?_)
 refine O_nil (Then_n (W_seq (W_reg ?_)))
 refine O_v rfl (R_fieldAddr (off := 0) (oo := 0) Try.underlying48 rfl rfl Try.sizeOf24 rfl rfl ?_)
 refine O_v rfl (R_loadA (cs := [[(.int .i64 a.node.T)], [(.int .i64 a.node.R)]]) Try.isAgg24 Try.sizeOf24 rfl rfl ((boxR_at (H12.getOwn 1 rfl)).chunks 0 2 0 0 _ rfl rfl rfl) ?_)
 refine O_v rfl (R_fieldAddr (off := 0) (oo := 0) Try.underlying48 rfl rfl Try.sizeOf24 rfl rfl ?_)
 refine O_v rfl (R_loadA (cs := [[(.int .i64 b.node.T)], [(.int .i64 b.node.R)]]) Try.isAgg24 Try.sizeOf24 rfl rfl ((boxR_at (H12.getOwn 0 rfl)).chunks 0 2 0 0 _ rfl rfl rfl) ?_)
 refine O_v rfl (R_callL (vs := [(aggOf (stampCh a.node)), (aggOf (stampCh b.node))]) rightDir_2_c47 rfl rfl ((stamp_Cmp a.node b.node w9 ).ret ?_))
 rintro _ w13 ⟨rfl, hx14⟩
 have H15 := H12.ext hx14
 refine O_v rfl (R_assign (v := (.int .i64 (cmpSt a.node b.node))) rfl ?_)
 refine O_nil (Then_n (W_ret ?_))
 refine ret_1 (v := (.int .i64 (cmpSt a.node b.node))) Try.results81 rfl ?_
 exact ⟨rfl, H15.gr⟩

end Go.Proofs.Ytiknfldhommmpaa
namespace Go.Proofs.Ytiknfldhommmpaa
open Go
set_option maxRecDepth 100000
set_option linter.unusedVariables false
set_option linter.unusedSimpArgs false
set_option maxHeartbeats 1000000 in
theorem rise_Item (ha : SlH) (a : List ItemS) (kcmp : FuncId) (ccmp : Array Value) (f : ItemS → ItemS → Int) (w : World) (Sa : Sl (Old w) itemCh 38 ha a w) (Kcmp : callable Try.prog kcmp = true) (Ccmp : ∀ x ∈ a, ∀ y ∈ a, ∀ w1, Ext w w1 → Calls Try.prog kcmp (#[itemV x, itemV y] ++ ccmp) w1 (Ret fun v w2 => v = .int .i64 (f x y) ∧ Ext w1 w2)) :
    Calls Try.prog 80 #[(slV ha a), (.func (.func kcmp) #[] ccmp)] w (Ret fun v w' => v = (.bool (riseBy f a)) ∧ Ext w w') := by
 refine calls_W Try.func80 rfl Try.ntmps80 rfl ?_
 have H0 := Ctx.start w nob
 have H1 := H0.addSl _ Sa (fun b hb => ⟨hb, fun _ ho => (nomatch ho)⟩)
 have LSa := Sa.len
 refine W_seq (W_reg ?_)
 refine O_v rfl (R_assign (v := (.bool false)) rfl ?_)
 refine O_nil (Then_n (W_seq (W_seq (W_reg ?_))))
 refine O_v rfl (R_assign (v := (.int .i64 1)) rfl ?_)
 refine O_nil (Then_n (W_block ?_))
 refine W_loop (fun m2 e3 w4 => ∃ (k : Nat), m2 = a.length - k ∧ (1 ≤ k) ∧ (k ≤ max a.length 1) ∧ (∀ i, i < k → 1 ≤ i → f (nth a (i - 1)) (nth a i) < 0) ∧ ∃ eb5, e3 = envL [(0, (slV ha a)), (1, (.func (.func kcmp) #[] ccmp)), (5, (.int .i64 ((k : Nat) : Int)))] eb5 ∧ Ctx w nob w4 [] [slI (Old w) itemCh 38 ha a]) _ ⟨1, rfl, (by omega), (by omega), (fun i h1 h2 => by omega), _, envL_self ⟨rfl, rfl, rfl, trivial⟩, H1⟩ ?_
 rintro m2 _ w4 ⟨k, rfl, h1, hk, hn, eb5, rfl, H6⟩
 refine W_seq (W_seq (W_reg ?_))
 refine O_v rfl (R_move (v := (.int .i64 ((k : Nat) : Int))) rfl ?_)
 refine O_v rfl (R_move (v := (slV ha a)) rfl ?_)
 refine O_v rfl (R_len_slice (a := ha.a) (n := a.length) (c := ha.c) Try.underlying50 rfl ?_)
 refine O_v rfl (R_cmp (a := ((k : Nat) : Int)) (b := ((a.length : Nat) : Int)) (r := (decide (((k : Nat) : Int) < ((a.length : Nat) : Int)))) rfl rfl rfl ?_)
 refine O_nil (Then_n ?_)
 refine W_cond (t := (decide (((k : Nat) : Int) < ((a.length : Nat) : Int)))) rfl (fun hc7 => ?_) (fun hc7 => ?_)
 ·have hc7 : (((k : Nat) : Int) < ((a.length : Nat) : Int)) := (of_decide_eq_true hc7)
  refine W_skip (Then_n (W_seq (W_block (W_seq ?_))))
  refine W_rgd TryMixed [(0, .q false), (1, .q false), (2, .q false), (3, .q false), (4, .q false), (5, .q false), (6, .q false), (7, .q false), (8, .q false), (9, .q false), (10, .q false), (11, .q false)] (by kernel_rfl) ?_
  refine Lx_q (i := 0) rfl rfl _ (fun v8 hv9 => R_move (v := (.func (.func kcmp) #[] ccmp)) rfl ⟨rfl, Gr.refl _ _⟩) ?_
  refine Lx_q (i := 1) rfl rfl _ (fun v10 hv11 => R_move (v := (slV ha a)) rfl ⟨rfl, Gr.refl _ _⟩) ?_
  refine Lx_q (i := 2) rfl rfl _ (fun v12 hv13 => R_move (v := (.int .i64 ((k : Nat) : Int))) rfl ⟨rfl, Gr.refl _ _⟩) ?_
  refine Lx_q (i := 3) rfl rfl _ (fun v14 hv15 => R_arith (a := ((k : Nat) : Int)) (b := 1) (r0 := ((k : Nat) : Int) - 1) (r := ((k - 1 : Nat) : Int)) rfl rfl rfl (wrapP _ (by omega) (by omega)) ⟨rfl, Gr.refl _ _⟩) ?_
  refine Lx_q (i := 4) rfl rfl _ (fun v16 hv17 => R_index_pure (H6.sl 0 rfl) (n := a.length) rfl (j := ((k - 1 : Nat) : Int)) (oo := (ha.o + (k - 1) * 38)) Try.underlying50 Try.sizeOf48 rfl rfl (by omega) (by omega) rfl ⟨rfl, Gr.refl _ _⟩) ?_
  refine Lx_q (i := 5) rfl rfl _ (fun v18 hv19 => R_loadA (cs := [[(.int .i64 (((nth a (k - 1)).node).T))], [(.int .i64 (((nth a (k - 1)).node).R))], [(.int .i64 (((nth a (k - 1)).tm).T))], [(.int .i64 (((nth a (k - 1)).tm).R))], [(.string ((nth a (k - 1)).name))], (idCells ((nth a (k - 1)).sub)), [(slV ((nth a (k - 1)).hh) ((nth a (k - 1)).heads))]]) Try.isAgg48 Try.sizeOf48 rfl rfl ((Sl.elem ((H6.ext hv19).sl 0 rfl) (i := (k - 1)) (by omega) rfl).chunks 0 7 0 (ha.o + (k - 1) * 38) _ rfl rfl rfl) ⟨rfl, Gr.refl _ _⟩) ?_
  refine Lx_q (i := 6) rfl rfl _ (fun v20 hv21 => R_move (v := (slV ha a)) rfl ⟨rfl, Gr.refl _ _⟩) ?_
  refine Lx_q (i := 7) rfl rfl _ (fun v22 hv23 => R_move (v := (.int .i64 ((k : Nat) : Int))) rfl ⟨rfl, Gr.refl _ _⟩) ?_
  refine Lx_q (i := 8) rfl rfl _ (fun v24 hv25 => R_index_pure (H6.sl 0 rfl) (n := a.length) rfl (j := ((k : Nat) : Int)) (oo := (ha.o + k * 38)) Try.underlying50 Try.sizeOf48 rfl rfl (by omega) (by omega) rfl ⟨rfl, Gr.refl _ _⟩) ?_
  refine Lx_q (i := 9) rfl rfl _ (fun v26 hv27 => R_loadA (cs := [[(.int .i64 (((nth a k).node).T))], [(.int .i64 (((nth a k).node).R))], [(.int .i64 (((nth a k).tm).T))], [(.int .i64 (((nth a k).tm).R))], [(.string ((nth a k).name))], (idCells ((nth a k).sub)), [(slV ((nth a k).hh) ((nth a k).heads))]]) Try.isAgg48 Try.sizeOf48 rfl rfl ((Sl.elem ((H6.ext hv27).sl 0 rfl) (i := k) (by omega) rfl).chunks 0 7 0 (ha.o + k * 38) _ rfl rfl rfl) ⟨rfl, Gr.refl _ _⟩) ?_
  refine Lx_q (i := 10) rfl rfl (.int .i64 (f (nth a (k - 1)) (nth a k))) (fun v28 hv29 => R_callV (vs := [(aggOf (itemCh (nth a (k - 1)))), (aggOf (itemCh (nth a k)))]) Kcmp rfl rfl (Ccmp _ (nth_mem (by omega)) _ (nth_mem (by omega)) v28 (H6.ext hv29).gr)) ?_
  refine Lx_q (i := 11) rfl rfl _ (fun v30 hv31 => R_cmp (a := f (nth a (k - 1)) (nth a k)) (b := 0) (r := (decide (0 ≤ f (nth a (k - 1)) (nth a k)))) rfl rfl rfl ⟨rfl, Gr.refl _ _⟩) ?_
  refine Lx_nil (fun w32 hw33 => ?_)
  have H34 := H6.ext hw33
  refine Then_n ?_
  refine W_cond (t := (decide (0 ≤ f (nth a (k - 1)) (nth a k)))) rfl (fun hc35 => ?_) (fun hc35 => ?_)
  ·have hc35 : (0 ≤ f (nth a (k - 1)) (nth a k)) := (of_decide_eq_true hc35)
   refine W_seq (W_reg ?_)
   refine O_v rfl (R_assign (v := (.bool false)) rfl ?_)
   refine O_nil (Then_n (W_ret (Blk_r (Then_r (Then_r (Blk_r (Then_r ?_)))))))
   refine ret_1 (v := (.bool false)) Try.results80 rfl ?_
   exact ⟨(boolF (fun h => by have := h k (by omega) (by omega); omega)), H34.gr⟩
  ·have hc35 : ¬ (0 ≤ f (nth a (k - 1)) (nth a k)) := (of_decide_eq_false hc35)
   refine W_skip (Blk_n (Then_n (W_reg ?_)))
   refine O_v rfl (R_move (v := (.int .i64 ((k : Nat) : Int))) rfl ?_)
   refine O_v rfl (R_arith (a := ((k : Nat) : Int)) (b := 1) (r0 := ((k : Nat) : Int) + 1) (r := ((k + 1 : Nat) : Int)) rfl rfl rfl (wrapN _ (by omega)) ?_)
   refine O_v rfl (R_assign (v := (.int .i64 ((k + 1 : Nat) : Int))) rfl ?_)
   refine O_nil (Then_n ?_)
   refine ⟨_, ?_, (k + 1), rfl, (by omega), (by omega), (rise_succ hn (by omega)), _, envL_self ⟨rfl, rfl, rfl, trivial⟩, H34⟩
   omega
 ·have hc7 : ¬ (((k : Nat) : Int) < ((a.length : Nat) : Int)) := (of_decide_eq_false hc7)
  refine W_exit (Then_x (Then_x (Blk_x (Then_n (W_seq (W_reg ?_))))))
  refine O_v rfl (R_assign (v := (.bool true)) rfl ?_)
  refine O_nil (Then_n (W_ret ?_))
  refine ret_1 (v := (.bool true)) Try.results80 rfl ?_
  exact ⟨(boolT (fun i h1 h2 => hn i (by omega) h2)), H6.gr⟩

end Go.Proofs.Ytiknfldhommmpaa
namespace Go.Proofs.Ytiknfldhommmpaa
open Go
set_option maxRecDepth 100000
set_option linter.unusedVariables false
set_option linter.unusedSimpArgs false
theorem obj_rightDir_c77 : callable Try.prog 77 = true := by kernel_rfl
theorem obj_rightDir_c78 : callable Try.prog 78 = true := by kernel_rfl
theorem obj_rightDir_c80 : callable Try.prog 80 = true := by kernel_rfl
theorem obj_rightDir_c81 : callable Try.prog 81 = true := by kernel_rfl
set_option maxHeartbeats 1000000 in
theorem obj_rightDir (hitems : SlH) (items : List ItemS) (w : World) (Sitems : Sl (Old w) itemCh 38 hitems items w) (Ditems_heads : ∀ x ∈ items, Sl (Old w) headCh 34 x.hh x.heads w) (hAs : ∀ x ∈ items, asciiOr x.name) :
    Calls Try.prog 67 #[(slV hitems items)] w (Ret fun v w' => v = (.bool (dirOk items)) ∧ Ext w w') := by
 refine calls_W Try.func67 rfl Try.ntmps67 rfl ?_
 have H0 := Ctx.start w nob
 have H1 := H0.addSl _ Sitems (fun b hb => ⟨hb, fun _ ho => (nomatch ho)⟩)
 have LSitems := Sitems.len
 have H2 := H1.addImm' (deepI (Old w) headCh 34 (fun x : ItemS => x.hh) (fun x : ItemS => x.heads) items) Ditems_heads (fun b hb => ⟨hb, fun _ ho => (nomatch ho)⟩)
 refine W_seq (W_reg ?_)
 refine O_v rfl (R_assign (v := (.bool false)) rfl ?_)
 refine O_nil (Then_n (W_seq ?_))
 refine W_rg [(0, .q false), (1, .q false), (2, .q false), (3, .q false), (4, .q false), (5, .q false), (6, .q false), (7, .q false), (8, .q false), (9, .q false), (10, .q false), (11, .q false), (12, .q false)] (by kernel_rfl) ?_
 refine Lx_q (i := 0) rfl rfl _ (fun v3 hv4 => R_move (v := (slV hitems items)) rfl ⟨rfl, Gr.refl _ _⟩) ?_
 refine Lx_q (i := 1) rfl rfl _ (fun v5 hv6 => R_len_slice (a := hitems.a) (n := items.length) (c := hitems.c) Try.underlying50 rfl ⟨rfl, Gr.refl _ _⟩) ?_
 refine Lx_q (i := 2) rfl rfl _ (fun v7 hv8 => R_cmp (a := ((items.length : Nat) : Int)) (b := 1000) (r := (decide (((items.length : Nat) : Int) ≤ 1000))) rfl rfl rfl ⟨rfl, Gr.refl _ _⟩) ?_
 refine Lx_q (i := 3) rfl rfl _ (fun v9 hv10 => R_move (v := (.bool (decide (((items.length : Nat) : Int) ≤ 1000)))) rfl ⟨rfl, Gr.refl _ _⟩) ?_
 refine Lx_qg (i := 4) true (decide (((items.length : Nat) : Int) ≤ 1000)) rfl rfl rfl rfl rfl (decide (((items.length : Nat) : Int) ≤ 1000)) ga_t _ (fun hA v11 hv12 => R_move (v := (slV hitems items)) rfl ⟨rfl, Gr.refl _ _⟩) ?_
 refine Lx_qg (i := 5) true (decide (((items.length : Nat) : Int) ≤ 1000)) rfl rfl rfl rfl rfl (decide (((items.length : Nat) : Int) ≤ 1000)) ga_t (.bool (items.any (fun (x : ItemS) => !itemOkS x))) (fun hA v13 hv14 => R_callL (vs := [(slV hitems items), (.func (.func 78) #[] #[])]) obj_rightDir_c77 rfl (lst2 (gv_t hA) rfl) (ContainsFunc_Item hitems items 78 #[] (fun (x : ItemS) => !itemOkS x) v13 ((H2.ext hv14).slOld 1 rfl) obj_rightDir_c78 (fun x hx w1 he => callsCap0 (rightDir_1 x w1 (((H2.ext hv14).deepOld 0 rfl _ hx).ext he) (hAs x hx))))) ?_
 refine Lx_qg (i := 6) true (decide (((items.length : Nat) : Int) ≤ 1000)) rfl rfl rfl rfl rfl (decide (((items.length : Nat) : Int) ≤ 1000)) ga_t _ (fun hA v15 hv16 => R_not (gv_t hA) ⟨rfl, Gr.refl _ _⟩) ?_
 refine Lx_q (i := 7) rfl rfl _ (fun v17 hv18 => R_pick (t := (decide (((items.length : Nat) : Int) ≤ 1000))) (v := (.bool ((decide (((items.length : Nat) : Int) ≤ 1000)) && (!(items.any (fun (x : ItemS) => !itemOkS x)))))) rfl pk_and ⟨rfl, Gr.refl _ _⟩) ?_
 refine Lx_q (i := 8) rfl rfl _ (fun v19 hv20 => R_move (v := (.bool ((decide (((items.length : Nat) : Int) ≤ 1000)) && (!(items.any (fun (x : ItemS) => !itemOkS x)))))) rfl ⟨rfl, Gr.refl _ _⟩) ?_
 refine Lx_qg (i := 9) true ((decide (((items.length : Nat) : Int) ≤ 1000)) && (!(items.any (fun (x : ItemS) => !itemOkS x)))) rfl rfl rfl rfl rfl ((decide (((items.length : Nat) : Int) ≤ 1000)) && (!(items.any (fun (x : ItemS) => !itemOkS x)))) ga_t _ (fun hA v21 hv22 => R_move (v := (slV hitems items)) rfl ⟨rfl, Gr.refl _ _⟩) ?_
 refine Lx_qg (i := 10) true ((decide (((items.length : Nat) : Int) ≤ 1000)) && (!(items.any (fun (x : ItemS) => !itemOkS x)))) rfl rfl rfl rfl rfl ((decide (((items.length : Nat) : Int) ≤ 1000)) && (!(items.any (fun (x : ItemS) => !itemOkS x)))) ga_t (.bool (riseBy (fun (a b : ItemS) => cmpSt a.node b.node) items)) (fun hA v23 hv24 => R_callL (vs := [(slV hitems items), (.func (.func 81) #[] #[])]) obj_rightDir_c80 rfl (lst2 (gv_t hA) rfl) (rise_Item hitems items 81 #[] (fun (a b : ItemS) => cmpSt a.node b.node) v23 ((H2.ext hv24).slOld 1 rfl) obj_rightDir_c81 (fun x hx y hy w1 he => callsCap0 (rightDir_2 x y w1 (((H2.ext hv24).deepOld 0 rfl _ hx).ext he) (((H2.ext hv24).deepOld 0 rfl _ hy).ext he))))) ?_
 refine Lx_q (i := 11) rfl rfl _ (fun v25 hv26 => R_pick (t := ((decide (((items.length : Nat) : Int) ≤ 1000)) && (!(items.any (fun (x : ItemS) => !itemOkS x))))) (v := (.bool (((decide (((items.length : Nat) : Int) ≤ 1000)) && (!(items.any (fun (x : ItemS) => !itemOkS x)))) && (riseBy (fun (a b : ItemS) => cmpSt a.node b.node) items)))) rfl pk_and ⟨rfl, Gr.refl _ _⟩) ?_
 refine Lx_q (i := 12) rfl rfl _ (fun v27 hv28 => R_assign (v := (.bool (((decide (((items.length : Nat) : Int) ≤ 1000)) && (!(items.any (fun (x : ItemS) => !itemOkS x)))) && (riseBy (fun (a b : ItemS) => cmpSt a.node b.node) items)))) rfl ⟨rfl, Gr.refl _ _⟩) ?_
 refine Lx_nil (fun w29 hw30 => ?_)
 have H31 := H2.ext hw30
 refine Then_n (W_ret ?_)
 refine ret_1 (v := (.bool (((decide (((items.length : Nat) : Int) ≤ 1000)) && (!(items.any (fun (x : ItemS) => !itemOkS x)))) && (riseBy (fun (a b : ItemS) => cmpSt a.node b.node) items)))) Try.results67 rfl ?_
 exact ⟨dirOk_e, H31.gr⟩

end Go.Proofs.Ytiknfldhommmpaa
namespace Go.Proofs.Ytiknfldhommmpaa
open Go
set_option maxRecDepth 100000
set_option linter.unusedVariables false
set_option linter.unusedSimpArgs false
theorem obj_PutDir_c67 : callable Try.prog 67 = true := by kernel_rfl
theorem obj_PutDir_c68 : callable Try.prog 68 = true := by kernel_rfl
theorem obj_PutDir_c69 : callable Try.prog 69 = true := by kernel_rfl
theorem obj_PutDir_c70 : callable Try.prog 70 = true := by kernel_rfl
theorem obj_PutDir_c71 : callable Try.prog 71 = true := by kernel_rfl
set_option maxHeartbeats 2000000 in
theorem obj_PutDir (hitems : SlH) (items : List ItemS) (w : World) (Sitems : Sl (Old w) itemCh 38 hitems items w) (Ditems_heads : ∀ x ∈ items, Sl (Old w) headCh 34 x.hh x.heads w) (hAs : ∀ x ∈ items, asciiOr x.name) :
    Calls Try.prog 57 #[(slV hitems items)] w (Ret fun v w' => ∃ h0, v = .tuple #[slV h0 (putDirB items), (.int .i64 (putDirE items))] ∧ Ext w w' ∧ OwnS w.heap.size 5 1 encB h0 (putDirB items) w') := by
 refine calls_W Try.func57 rfl Try.ntmps57 rfl ?_
 have H0 := Ctx.start w nob
 have H1 := H0.addSl _ Sitems (fun b hb => ⟨hb, fun _ ho => (nomatch ho)⟩)
 have LSitems := Sitems.len
 have H2 := H1.addImm' (deepI (Old w) headCh 34 (fun x : ItemS => x.hh) (fun x : ItemS => x.heads) items) Ditems_heads (fun b hb => ⟨hb, fun _ ho => (nomatch ho)⟩)
 refine W_seq (W_reg ?_)
 refine O_v rfl (R_assign (v := (.slice none 0 0)) rfl ?_)
 refine O_v rfl (R_assign (v := (.int .i64 0)) rfl ?_)
 refine O_nil (Then_n (W_seq (W_seq (W_reg ?_))))
 refine O_v rfl (R_move (v := (slV hitems items)) rfl ?_)
 refine O_v rfl (R_callL (vs := [(slV hitems items)]) obj_PutDir_c67 rfl rfl ((obj_rightDir hitems items w (H2.slOld 1 rfl) (H2.deepOld 0 rfl) hAs).ret ?_))
 rintro _ w3 ⟨rfl, hx4⟩
 have H5 := H2.ext hx4
 refine O_v rfl (R_not rfl ?_)
 refine O_nil (Then_n ?_)
 refine W_cond (t := (!(dirOk items))) rfl (fun hc6 => ?_) (fun hc6 => ?_)
 ·have hc6 : (dirOk items) = false := (notT hc6)
  refine W_seq (W_reg ?_)
  refine O_v rfl (R_assign (v := (.slice none 0 0)) rfl ?_)
  refine O_v rfl (R_assign (v := (.int .i64 1)) rfl ?_)
  refine O_nil (Then_n (W_ret (Then_r ?_)))
  refine ret_2 (v := (.slice none 0 0)) (v' := (.int .i64 1)) Try.results57 rfl rfl ?_
  have H7 := H5.addNil 5 1 encB
  have hE : [] = putDirB items := (putDir_no (by assumption)).1
  have hV : 1 = putDirE items := (putDir_no (by assumption)).2
  refine ⟨nilH, ?_, H7.gr, ?_⟩
  · exact two_eq (fun l n => Value.tuple #[slV nilH l, Value.int .i64 n]) hE hV
  · have hO := H7.retRow 0 rfl
    exact hE ▸ hO
 ·have hc6 : (dirOk items) = true := (notF hc6)
  refine W_skip (Then_n (W_seq (W_reg ?_)))
  refine O_v rfl (C_buildSliceL H5 (enc := encB) (val := byteV) ([2] : List UInt8) Try.underlying79 Try.sizeOf5 Try.zeroValue5 rfl (by decide) (fun _ => rfl) (fun _ => rfl) rfl rfl (by decide) ?_)
  intro b8 w9 hb10 hx11 H12
  refine O_v rfl (R_move (v := (slV hitems items)) rfl ?_)
  refine O_v rfl (R_len_slice (a := hitems.a) (n := items.length) (c := hitems.c) Try.underlying50 rfl ?_)
  refine O_v rfl (R_callL (vs := [(slV ⟨some ⟨b8, 0, none⟩, b8, 0, 1⟩ ([2] : List UInt8)), (.int .i64 ((items.length : Nat) : Int))]) obj_PutDir_c68 rfl rfl ((enc_Num ⟨some ⟨b8, 0, none⟩, b8, 0, 1⟩ ([2] : List UInt8) ((items.length : Nat) : Int) w9 (H12.rowSl 0 rfl (fun _ => rfl)) (by decide)).ret ?_))
  rintro _ w14 ⟨h13, rfl, hx15, ho16⟩
  have H17 := H12.addRow hx15 ho16
  refine O_v rfl (R_assign (v := (slV h13 (([2] : List UInt8) ++ numB ((items.length : Nat) : Int)))) rfl ?_)
  refine O_nil (Then_n (W_seq (W_seq (W_reg ?_))))
  refine O_v rfl (R_move (v := (slV hitems items)) rfl ?_)
  refine O_v rfl (R_len_slice (a := hitems.a) (n := items.length) (c := hitems.c) Try.underlying50 rfl ?_)
  refine O_v rfl (R_move (v := (.int .i64 0)) rfl ?_)
  refine O_nil (Then_n (W_block ?_))
  refine W_loop (fun m19 e20 w21 => ∃ (k : Nat), ∃ (acc : List UInt8), ∃ (h18 : SlH), m19 = items.length - k ∧ (k ≤ items.length) ∧ (acc = dirTo items k) ∧ (acc.length ≤ 10 + k * 51000) ∧ (dirOk items = true) ∧ ∃ eb22, e20 = envL [(2, (.slice none 0 0)), (3, (.int .i64 0)), (4, (slV h18 acc)), (16, (slV hitems items)), (17, (.int .i64 ((items.length : Nat) : Int))), (18, (.int .i64 ((k : Nat) : Int)))] eb22 ∧ Ctx w nob w21 [rowR 5 1 encB h18 acc, rowR 5 1 encB ⟨some ⟨b8, 0, none⟩, b8, 0, 1⟩ ([2] : List UInt8)] [deepI (Old w) headCh 34 (fun x : ItemS => x.hh) (fun x : ItemS => x.heads) items, slI (Old w) itemCh 38 hitems items]) _ ⟨0, (([2] : List UInt8) ++ numB ((items.length : Nat) : Int)), h13, rfl, (by omega), (dirTo_zero items), (by have := numB_len (items.length : Nat); simp only [List.length_append, List.length_cons, List.length_nil]; omega), (by assumption), _, envL_self ⟨rfl, rfl, rfl, rfl, rfl, rfl, trivial⟩, H17⟩ ?_
  rintro m19 _ w21 ⟨k, acc, h18, rfl, hk, ha, hal, hD, eb22, rfl, H23⟩
  refine W_seq (W_reg ?_)
  refine O_v rfl (R_cmp (a := ((k : Nat) : Int)) (b := ((items.length : Nat) : Int)) (r := (decide (((k : Nat) : Int) < ((items.length : Nat) : Int)))) rfl rfl rfl ?_)
  refine O_nil (Then_n (W_seq ?_))
  refine W_cond (t := (decide (((k : Nat) : Int) < ((items.length : Nat) : Int)))) rfl (fun hc24 => ?_) (fun hc24 => ?_)
  ·have hc24 : (((k : Nat) : Int) < ((items.length : Nat) : Int)) := (of_decide_eq_true hc24)
   refine W_skip (Then_n (W_seq (W_block (W_seq (W_reg ?_)))))
   refine O_v rfl (R_index_pure (H23.sl 1 rfl) (n := items.length) rfl (j := ((k : Nat) : Int)) (oo := (hitems.o + k * 38)) Try.underlying50 Try.sizeOf48 rfl rfl (by omega) (by omega) rfl ?_)
   refine O_v rfl (R_loadA (cs := [[(.int .i64 (((nth items k).node).T))], [(.int .i64 (((nth items k).node).R))], [(.int .i64 (((nth items k).tm).T))], [(.int .i64 (((nth items k).tm).R))], [(.string ((nth items k).name))], (idCells ((nth items k).sub)), [(slV ((nth items k).hh) ((nth items k).heads))]]) Try.isAgg48 Try.sizeOf48 rfl rfl ((Sl.elem (H23.sl 1 rfl) (i := k) (by omega) rfl).chunks 0 7 0 (hitems.o + k * 38) _ rfl rfl rfl) ?_)
   refine O_v rfl (C_alloc H23 [[(.int .i64 0)], [(.int .i64 0)], [(.int .i64 0)], [(.int .i64 0)], [(.string ByteArray.empty)], (idCells zeroId), [(.slice none 0 0)]] Try.zeroValue48 ?_)
   intro b25 w26 hb27 hx28 H29
   refine O_u (C_storeA H29 0 rfl 0 (sub := [[(.int .i64 (((nth items k).node).T))], [(.int .i64 (((nth items k).node).R))], [(.int .i64 (((nth items k).tm).T))], [(.int .i64 (((nth items k).tm).R))], [(.string ((nth items k).name))], (idCells ((nth items k).sub)), [(slV ((nth items k).hh) ((nth items k).heads))]]) [[(.int .i64 (((nth items k).node).T))], [(.int .i64 (((nth items k).node).R))], [(.int .i64 (((nth items k).tm).T))], [(.int .i64 (((nth items k).tm).R))], [(.string ((nth items k).name))], (idCells ((nth items k).sub)), [(slV ((nth items k).hh) ((nth items k).heads))]] Try.sizeOf48 rfl rfl rfl rfl ⟨[[(.int .i64 0)], [(.int .i64 0)], [(.int .i64 0)], [(.int .i64 0)], [(.string ByteArray.empty)], (idCells zeroId), [(.slice none 0 0)]], [], rfl, rfl, rfl⟩ rfl ?_)
   intro w30 hg31 H32
   refine O_nil (Then_n (W_seq ?_))
   refine W_rgdM TryMixed (fun _ => True) (fun i => i == 17) [(0, .q true), (1, .q true), (2, .q false), (4, .q true), (5, .q false), (7, .q true), (8, .q false), (10, .q true), (11, .q false), (13, .q true), (14, .q false), (15, .q true), (3, .c false), (6, .c false), (9, .c false), (12, .c false), (16, .c false), (17, .c true), (18, .q true)] (by kernel_rfl) ?_
   refine Lx_q (i := 0) rfl rfl _ (fun v33 hv34 => R_move (v := (slV h18 acc)) rfl ⟨rfl, Gr.refl _ _⟩) ?_
   refine Lx_q (i := 1) rfl rfl _ (fun v35 hv36 => R_fieldAddr (off := 0) (oo := 0) Try.underlying48 rfl rfl Try.sizeOf24 rfl rfl ⟨rfl, Gr.refl _ _⟩) ?_
   refine Lx_q (i := 2) rfl rfl _ (fun v37 hv38 => R_loadA (cs := [[(.int .i64 (((nth items k).node).T))], [(.int .i64 (((nth items k).node).R))]]) Try.isAgg24 Try.sizeOf24 rfl rfl ((boxR_at ((H32.ext hv38).getOwn 0 rfl)).chunks 0 2 0 0 _ rfl rfl rfl) ⟨rfl, Gr.refl _ _⟩) ?_
   refine Lx_q (i := 4) rfl rfl _ (fun v39 hv40 => R_fieldAddr (off := 2) (oo := 2) Try.underlying48 rfl rfl Try.sizeOf24 rfl rfl ⟨rfl, Gr.refl _ _⟩) ?_
   refine Lx_q (i := 5) rfl rfl _ (fun v41 hv42 => R_loadA (cs := [[(.int .i64 (((nth items k).tm).T))], [(.int .i64 (((nth items k).tm).R))]]) Try.isAgg24 Try.sizeOf24 rfl rfl ((boxR_at ((H32.ext hv42).getOwn 0 rfl)).chunks 2 2 2 2 _ rfl rfl rfl) ⟨rfl, Gr.refl _ _⟩) ?_
   refine Lx_q (i := 7) rfl rfl _ (fun v43 hv44 => R_fieldAddr (off := 4) (oo := 4) Try.underlying48 rfl rfl Try.sizeOf9 rfl rfl ⟨rfl, Gr.refl _ _⟩) ?_
   refine Lx_q (i := 8) rfl rfl _ (fun v45 hv46 => R_load1 (v := (.string ((nth items k).name))) Try.isAgg9 rfl ((boxR_at ((H32.ext hv46).getOwn 0 rfl)).chunks 4 1 4 4 _ rfl rfl rfl) ⟨rfl, Gr.refl _ _⟩) ?_
   refine Lx_q (i := 10) rfl rfl _ (fun v47 hv48 => R_fieldAddr (off := 5) (oo := 5) Try.underlying48 rfl rfl Try.sizeOf36 rfl rfl ⟨rfl, Gr.refl _ _⟩) ?_
   refine Lx_q (i := 11) rfl rfl _ (fun v49 hv50 => R_loadA (cs := [(idCells ((nth items k).sub))]) Try.isAgg36 Try.sizeOf36 rfl rfl ((boxR_at ((H32.ext hv50).getOwn 0 rfl)).chunks 5 1 5 5 _ rfl rfl rfl) ⟨rfl, Gr.refl _ _⟩) ?_
   refine Lx_q (i := 13) rfl rfl _ (fun v51 hv52 => R_fieldAddr (off := 37) (oo := 37) Try.underlying48 rfl rfl Try.sizeOf42 rfl rfl ⟨rfl, Gr.refl _ _⟩) ?_
   refine Lx_q (i := 14) rfl rfl _ (fun v53 hv54 => R_load1 (v := (slV ((nth items k).hh) ((nth items k).heads))) Try.isAgg42 rfl ((boxR_at ((H32.ext hv54).getOwn 0 rfl)).chunks 6 1 37 37 _ rfl rfl rfl) ⟨rfl, Gr.refl _ _⟩) ?_
   refine Lx_q (i := 15) rfl rfl _ (fun v55 hv56 => R_len_slice (a := ((nth items k).hh).a) (n := ((nth items k).heads).length) (c := ((nth items k).hh).c) Try.underlying42 rfl ⟨rfl, Gr.refl _ _⟩) ?_
   refine Lx_c (i := 3) rfl rfl (fun w57 hw58 => ?_)
   have H59 := H32.ext hw58
   refine (R_callL (vs := [(.slice none 0 0), (aggOf (stampCh ((nth items k).node)))]) obj_PutDir_c71 rfl rfl ((obj_at nilH [] ((nth items k).node) w57 (Sl.nil _ _ _ _) (by decide)).ret ?_))
   rintro _ w61 ⟨h60, rfl, hx62, ho63⟩
   have H64 := H59.addRow hx62 ho63
   refine ⟨GrF.ofExt hx62, ?_⟩
   refine Lx_c (i := 6) rfl rfl (fun w65 hw66 => ?_)
   have H67 := H64.ext hw66
   refine (R_callL (vs := [(slV h60 ([] ++ atB ((nth items k).node))), (aggOf (stampCh ((nth items k).tm)))]) obj_PutDir_c71 rfl rfl ((obj_at h60 ([] ++ atB ((nth items k).node)) ((nth items k).tm) w65 (H67.rowSl 0 rfl (fun _ => rfl)) (by have h1 := atB_len (nth items k).node; have h2 := atB_len (nth items k).tm; have h3 := (dirOk_lens hD (show k < items.length by omega)); have h4 := textB_len (nth items k).name; have h5 := numB_len ((nth items k).heads.length : Nat); simp only [List.length_append, List.length_nil, idList_len]; omega)).ret ?_))
   rintro _ w69 ⟨h68, rfl, hx70, ho71⟩
   have H72 := H67.addRow hx70 ho71
   refine ⟨GrF.ofExt hx70, ?_⟩
   refine Lx_c (i := 9) rfl rfl (fun w73 hw74 => ?_)
   have H75 := H72.ext hw74
   refine (R_callL (vs := [(slV h68 (([] ++ atB ((nth items k).node)) ++ atB ((nth items k).tm))), (.string ((nth items k).name))]) obj_PutDir_c70 rfl rfl ((enc_Text h68 (([] ++ atB ((nth items k).node)) ++ atB ((nth items k).tm)) ((nth items k).name) w73 (H75.rowSl 0 rfl (fun _ => rfl)) (by have h1 := atB_len (nth items k).node; have h2 := atB_len (nth items k).tm; have h3 := (dirOk_lens hD (show k < items.length by omega)); have h4 := textB_len (nth items k).name; have h5 := numB_len ((nth items k).heads.length : Nat); simp only [List.length_append, List.length_nil, idList_len]; omega)).ret ?_))
   rintro _ w77 ⟨h76, rfl, hx78, ho79⟩
   have H80 := H75.addRow hx78 ho79
   refine ⟨GrF.ofExt hx78, ?_⟩
   refine Lx_c (i := 12) rfl rfl (fun w81 hw82 => ?_)
   have H83 := H80.ext hw82
   refine (R_callL (vs := [(slV h76 ((([] ++ atB ((nth items k).node)) ++ atB ((nth items k).tm)) ++ textB ((nth items k).name))), (aggOf (idCh ((nth items k).sub)))]) obj_PutDir_c69 rfl rfl ((enc_Id h76 ((([] ++ atB ((nth items k).node)) ++ atB ((nth items k).tm)) ++ textB ((nth items k).name)) ((nth items k).sub) w81 (H83.rowSl 0 rfl (fun _ => rfl)) (by have h1 := atB_len (nth items k).node; have h2 := atB_len (nth items k).tm; have h3 := (dirOk_lens hD (show k < items.length by omega)); have h4 := textB_len (nth items k).name; have h5 := numB_len ((nth items k).heads.length : Nat); simp only [List.length_append, List.length_nil, idList_len]; omega)).ret ?_))
   rintro _ w85 ⟨h84, rfl, hx86, ho87⟩
   have H88 := H83.addRow hx86 ho87
   refine ⟨GrF.ofExt hx86, ?_⟩
   refine Lx_c (i := 16) rfl rfl (fun w89 hw90 => ?_)
   have H91 := H88.ext hw90
   refine (R_callL (vs := [(slV h84 (((([] ++ atB ((nth items k).node)) ++ atB ((nth items k).tm)) ++ textB ((nth items k).name)) ++ idList ((nth items k).sub))), (.int .i64 ((((nth items k).heads).length : Nat) : Int))]) obj_PutDir_c68 rfl rfl ((enc_Num h84 (((([] ++ atB ((nth items k).node)) ++ atB ((nth items k).tm)) ++ textB ((nth items k).name)) ++ idList ((nth items k).sub)) ((((nth items k).heads).length : Nat) : Int) w89 (H91.rowSl 0 rfl (fun _ => rfl)) (by have h1 := atB_len (nth items k).node; have h2 := atB_len (nth items k).tm; have h3 := (dirOk_lens hD (show k < items.length by omega)); have h4 := textB_len (nth items k).name; have h5 := numB_len ((nth items k).heads.length : Nat); simp only [List.length_append, List.length_nil, idList_len]; omega)).ret ?_))
   rintro _ w93 ⟨h92, rfl, hx94, ho95⟩
   have H96 := H91.addRow hx94 ho95
   refine ⟨GrF.ofExt hx94, ?_⟩
   refine Lx_c (i := 17) rfl rfl (fun w97 hw98 => ?_)
   have H99 := H96.ext hw98
   refine (C_append H99 6 rfl (bytes := 1) (l := acc) (ys := ((((([] ++ atB ((nth items k).node)) ++ atB ((nth items k).tm)) ++ textB ((nth items k).name)) ++ idList ((nth items k).sub)) ++ numB ((((nth items k).heads).length : Nat) : Int))) Try.underlying79 rfl rfl rfl rfl rfl (by decide) rfl rfl (OwnS.sl (H99.getOwn 0 rfl) (fun _ => rfl)) (fun _ => rfl) (fun _ => rfl) (by have h1 := atB_len (nth items k).node; have h2 := atB_len (nth items k).tm; have h3 := (dirOk_lens hD (show k < items.length by omega)); have h4 := textB_len (nth items k).name; have h5 := numB_len ((nth items k).heads.length : Nat); simp only [List.length_append, List.length_nil, idList_len]; omega) (by decide) ?_)
   intro h100 w101 hg102 H103
   refine ⟨Gr.mono (M' := fun _ => True) hg102 (fun _ _ => trivial), ?_⟩
   refine Lx_q (i := 18) rfl rfl _ (fun v104 hv105 => R_assign (v := (slV h100 (acc ++ ((((([] ++ atB ((nth items k).node)) ++ atB ((nth items k).tm)) ++ textB ((nth items k).name)) ++ idList ((nth items k).sub)) ++ numB ((((nth items k).heads).length : Nat) : Int))))) rfl ⟨rfl, Gr.refl _ _⟩) ?_
   refine Lx_nil (fun w106 hw107 => ?_)
   have H108 := H103.ext hw107
   refine Then_n (W_seq (W_reg ?_))
   refine O_v rfl (R_fieldAddr (off := 37) (oo := 37) Try.underlying48 rfl rfl Try.sizeOf42 rfl rfl ?_)
   refine O_v rfl (R_load1 (v := (slV ((nth items k).hh) ((nth items k).heads))) Try.isAgg42 rfl ((boxR_at (H108.getOwn 5 rfl)).chunks 6 1 37 37 _ rfl rfl rfl) ?_)
   refine O_v rfl (R_len_slice (a := ((nth items k).hh).a) (n := ((nth items k).heads).length) (c := ((nth items k).hh).c) Try.underlying42 rfl ?_)
   refine O_v rfl (R_move (v := (.int .i64 0)) rfl ?_)
   refine O_nil (Then_n (W_block ?_))
   refine W_loop (fun m110 e111 w112 => ∃ (j : Nat), ∃ (acc2 : List UInt8), ∃ (h109 : SlH), m110 = (nth items k).heads.length - j ∧ (j ≤ (nth items k).heads.length) ∧ (acc2 = acc ++ itemTo (nth items k) j) ∧ (acc2.length ≤ 10 + k * 51000 + 200 + j * 50) ∧ ((nth items k).heads.length ≤ 1000) ∧ (items.length ≤ 1000) ∧ ∃ eb113, e111 = envL [(2, (.slice none 0 0)), (3, (.int .i64 0)), (4, (slV h109 acc2)), (6, (.pointer (some ⟨b25, 0, none⟩))), (16, (slV hitems items)), (17, (.int .i64 ((items.length : Nat) : Int))), (18, (.int .i64 ((k : Nat) : Int))), (19, (.bool (decide (((k : Nat) : Int) < ((items.length : Nat) : Int))))), (20, (.pointer (some ⟨hitems.b, (hitems.o + k * 38), none⟩))), (21, (aggOf (itemCh (nth items k)))), (22, (slV h18 acc)), (23, (.pointer (some ⟨b25, 0, none⟩))), (24, (aggOf (stampCh ((nth items k).node)))), (25, (slV h60 ([] ++ atB ((nth items k).node)))), (26, (.pointer (some ⟨b25, 2, none⟩))), (27, (aggOf (stampCh ((nth items k).tm)))), (28, (slV h68 (([] ++ atB ((nth items k).node)) ++ atB ((nth items k).tm)))), (29, (.pointer (some ⟨b25, 4, none⟩))), (30, (.string ((nth items k).name))), (31, (slV h76 ((([] ++ atB ((nth items k).node)) ++ atB ((nth items k).tm)) ++ textB ((nth items k).name)))), (32, (.pointer (some ⟨b25, 5, none⟩))), (33, (aggOf (idCh ((nth items k).sub)))), (34, (slV h84 (((([] ++ atB ((nth items k).node)) ++ atB ((nth items k).tm)) ++ textB ((nth items k).name)) ++ idList ((nth items k).sub)))), (35, (.pointer (some ⟨b25, 37, none⟩))), (36, (slV ((nth items k).hh) ((nth items k).heads))), (37, (.int .i64 ((((nth items k).heads).length : Nat) : Int))), (38, (slV h92 ((((([] ++ atB ((nth items k).node)) ++ atB ((nth items k).tm)) ++ textB ((nth items k).name)) ++ idList ((nth items k).sub)) ++ numB ((((nth items k).heads).length : Nat) : Int)))), (39, (slV h100 (acc ++ ((((([] ++ atB ((nth items k).node)) ++ atB ((nth items k).tm)) ++ textB ((nth items k).name)) ++ idList ((nth items k).sub)) ++ numB ((((nth items k).heads).length : Nat) : Int))))), (40, (.pointer (some ⟨b25, 37, none⟩))), (41, (slV ((nth items k).hh) ((nth items k).heads))), (42, (.int .i64 ((((nth items k).heads).length : Nat) : Int))), (43, (.int .i64 ((j : Nat) : Int)))] eb113 ∧ Ctx w nob w112 [rowR 5 1 encB h92 ((((([] ++ atB ((nth items k).node)) ++ atB ((nth items k).tm)) ++ textB ((nth items k).name)) ++ idList ((nth items k).sub)) ++ numB ((((nth items k).heads).length : Nat) : Int)), rowR 5 1 encB h84 (((([] ++ atB ((nth items k).node)) ++ atB ((nth items k).tm)) ++ textB ((nth items k).name)) ++ idList ((nth items k).sub)), rowR 5 1 encB h76 ((([] ++ atB ((nth items k).node)) ++ atB ((nth items k).tm)) ++ textB ((nth items k).name)), rowR 5 1 encB h68 (([] ++ atB ((nth items k).node)) ++ atB ((nth items k).tm)), rowR 5 1 encB h60 ([] ++ atB ((nth items k).node)), boxR b25 48 [[(.int .i64 (((nth items k).node).T))], [(.int .i64 (((nth items k).node).R))], [(.int .i64 (((nth items k).tm).T))], [(.int .i64 (((nth items k).tm).R))], [(.string ((nth items k).name))], (idCells ((nth items k).sub)), [(slV ((nth items k).hh) ((nth items k).heads))]], rowR 5 1 encB h109 acc2, rowR 5 1 encB ⟨some ⟨b8, 0, none⟩, b8, 0, 1⟩ ([2] : List UInt8)] [deepI (Old w) headCh 34 (fun x : ItemS => x.hh) (fun x : ItemS => x.heads) items, slI (Old w) itemCh 38 hitems items]) _ ⟨0, (acc ++ ((((([] ++ atB ((nth items k).node)) ++ atB ((nth items k).tm)) ++ textB ((nth items k).name)) ++ idList ((nth items k).sub)) ++ numB ((((nth items k).heads).length : Nat) : Int))), h100, rfl, (by omega), (item_start acc (nth items k)), (by have h1 := atB_len (nth items k).node; have h2 := atB_len (nth items k).tm; have h3 := (dirOk_lens hD (show k < items.length by omega)); have h4 := textB_len (nth items k).name; have h5 := numB_len ((nth items k).heads.length : Nat); simp only [List.length_append, List.length_nil, idList_len]; omega), (dirOk_lens hD (show k < items.length by omega)).2.1, (dirOk_lens hD (show k < items.length by omega)).2.2, _, envL_self ⟨rfl, rfl, rfl, rfl, rfl, rfl, rfl, rfl, rfl, rfl, rfl, rfl, rfl, rfl, rfl, rfl, rfl, rfl, rfl, rfl, rfl, rfl, rfl, rfl, rfl, rfl, rfl, rfl, rfl, rfl, rfl, rfl, trivial⟩, H108⟩ ?_
   rintro m110 _ w112 ⟨j, acc2, h109, rfl, hj, ha2, hal2, hx, hki, eb113, rfl, H114⟩
   refine W_seq (W_reg ?_)
   refine O_v rfl (R_cmp (a := ((j : Nat) : Int)) (b := ((((nth items k).heads).length : Nat) : Int)) (r := (decide (((j : Nat) : Int) < ((((nth items k).heads).length : Nat) : Int)))) rfl rfl rfl ?_)
   refine O_nil (Then_n (W_seq ?_))
   refine W_cond (t := (decide (((j : Nat) : Int) < ((((nth items k).heads).length : Nat) : Int)))) rfl (fun hc115 => ?_) (fun hc115 => ?_)
   ·have hc115 : (((j : Nat) : Int) < ((((nth items k).heads).length : Nat) : Int)) := (of_decide_eq_true hc115)
    refine W_skip (Then_n (W_seq (W_block (W_seq (W_reg ?_)))))
    refine O_v rfl (R_index_pure (Sl.as ((nth items k).hh) ((nth items k).heads) ((H114.getImm 0 rfl) _ (nth_mem (by omega)))) (n := ((nth items k).heads).length) rfl (j := ((j : Nat) : Int)) (oo := (((nth items k).hh).o + j * 34)) Try.underlying42 Try.sizeOf62 rfl rfl (by omega) (by omega) rfl ?_)
    refine O_v rfl (R_loadA (cs := [[(.int .i64 (((nth ((nth items k).heads) j).tm).T))], [(.int .i64 (((nth ((nth items k).heads) j).tm).R))], (idCells ((nth ((nth items k).heads) j).data))]) Try.isAgg62 Try.sizeOf62 rfl rfl ((Sl.elem (Sl.as ((nth items k).hh) ((nth items k).heads) ((H114.getImm 0 rfl) _ (nth_mem (by omega)))) (i := j) (by omega) rfl).chunks 0 3 0 (((nth items k).hh).o + j * 34) _ rfl rfl rfl) ?_)
    refine O_v rfl (C_alloc H114 [[(.int .i64 0)], [(.int .i64 0)], (idCells zeroId)] Try.zeroValue62 ?_)
    intro b116 w117 hb118 hx119 H120
    refine O_u (C_storeA H120 0 rfl 0 (sub := [[(.int .i64 (((nth ((nth items k).heads) j).tm).T))], [(.int .i64 (((nth ((nth items k).heads) j).tm).R))], (idCells ((nth ((nth items k).heads) j).data))]) [[(.int .i64 (((nth ((nth items k).heads) j).tm).T))], [(.int .i64 (((nth ((nth items k).heads) j).tm).R))], (idCells ((nth ((nth items k).heads) j).data))] Try.sizeOf62 rfl rfl rfl rfl ⟨[[(.int .i64 0)], [(.int .i64 0)], (idCells zeroId)], [], rfl, rfl, rfl⟩ rfl ?_)
    intro w121 hg122 H123
    refine O_nil (Then_n ?_)
    refine W_rgdM TryMixed (fun _ => True) (fun i => i == 7) [(0, .q true), (1, .q true), (2, .q false), (4, .q true), (5, .q false), (3, .c false), (6, .c false), (7, .c true), (8, .q true)] (by kernel_rfl) ?_
    refine Lx_q (i := 0) rfl rfl _ (fun v124 hv125 => R_move (v := (slV h109 acc2)) rfl ⟨rfl, Gr.refl _ _⟩) ?_
    refine Lx_q (i := 1) rfl rfl _ (fun v126 hv127 => R_fieldAddr (off := 0) (oo := 0) Try.underlying62 rfl rfl Try.sizeOf24 rfl rfl ⟨rfl, Gr.refl _ _⟩) ?_
    refine Lx_q (i := 2) rfl rfl _ (fun v128 hv129 => R_loadA (cs := [[(.int .i64 (((nth ((nth items k).heads) j).tm).T))], [(.int .i64 (((nth ((nth items k).heads) j).tm).R))]]) Try.isAgg24 Try.sizeOf24 rfl rfl ((boxR_at ((H123.ext hv129).getOwn 0 rfl)).chunks 0 2 0 0 _ rfl rfl rfl) ⟨rfl, Gr.refl _ _⟩) ?_
    refine Lx_q (i := 4) rfl rfl _ (fun v130 hv131 => R_fieldAddr (off := 2) (oo := 2) Try.underlying62 rfl rfl Try.sizeOf36 rfl rfl ⟨rfl, Gr.refl _ _⟩) ?_
    refine Lx_q (i := 5) rfl rfl _ (fun v132 hv133 => R_loadA (cs := [(idCells ((nth ((nth items k).heads) j).data))]) Try.isAgg36 Try.sizeOf36 rfl rfl ((boxR_at ((H123.ext hv133).getOwn 0 rfl)).chunks 2 1 2 2 _ rfl rfl rfl) ⟨rfl, Gr.refl _ _⟩) ?_
    refine Lx_c (i := 3) rfl rfl (fun w134 hw135 => ?_)
    have H136 := H123.ext hw135
    refine (R_callL (vs := [(.slice none 0 0), (aggOf (stampCh ((nth ((nth items k).heads) j).tm)))]) obj_PutDir_c71 rfl rfl ((obj_at nilH [] ((nth ((nth items k).heads) j).tm) w134 (Sl.nil _ _ _ _) (by decide)).ret ?_))
    rintro _ w138 ⟨h137, rfl, hx139, ho140⟩
    have H141 := H136.addRow hx139 ho140
    refine ⟨GrF.ofExt hx139, ?_⟩
    refine Lx_c (i := 6) rfl rfl (fun w142 hw143 => ?_)
    have H144 := H141.ext hw143
    refine (R_callL (vs := [(slV h137 ([] ++ atB ((nth ((nth items k).heads) j).tm))), (aggOf (idCh ((nth ((nth items k).heads) j).data)))]) obj_PutDir_c69 rfl rfl ((enc_Id h137 ([] ++ atB ((nth ((nth items k).heads) j).tm)) ((nth ((nth items k).heads) j).data) w142 (H144.rowSl 0 rfl (fun _ => rfl)) (by have h1 := atB_len (nth (nth items k).heads j).tm; have h3 := (dirOk_lens hD (show k < items.length by omega)); simp only [List.length_append, List.length_nil, List.length_cons, idList_len]; omega)).ret ?_))
    rintro _ w146 ⟨h145, rfl, hx147, ho148⟩
    have H149 := H144.addRow hx147 ho148
    refine ⟨GrF.ofExt hx147, ?_⟩
    refine Lx_c (i := 7) rfl rfl (fun w150 hw151 => ?_)
    have H152 := H149.ext hw151
    refine (C_append H152 9 rfl (bytes := 1) (l := acc2) (ys := (([] ++ atB ((nth ((nth items k).heads) j).tm)) ++ idList ((nth ((nth items k).heads) j).data))) Try.underlying79 rfl rfl rfl rfl rfl (by decide) rfl rfl (OwnS.sl (H152.getOwn 0 rfl) (fun _ => rfl)) (fun _ => rfl) (fun _ => rfl) (by have h1 := atB_len (nth (nth items k).heads j).tm; have h3 := (dirOk_lens hD (show k < items.length by omega)); simp only [List.length_append, List.length_nil, List.length_cons, idList_len]; omega) (by decide) ?_)
    intro h153 w154 hg155 H156
    refine ⟨Gr.mono (M' := fun _ => True) hg155 (fun _ _ => trivial), ?_⟩
    refine Lx_q (i := 8) rfl rfl _ (fun v157 hv158 => R_assign (v := (slV h153 (acc2 ++ (([] ++ atB ((nth ((nth items k).heads) j).tm)) ++ idList ((nth ((nth items k).heads) j).data))))) rfl ⟨rfl, Gr.refl _ _⟩) ?_
    refine Lx_nil (fun w159 hw160 => ?_)
    have H161 := H156.ext hw160
    refine Blk_n (Then_n (W_reg ?_))
    refine O_v rfl (R_arith (a := ((j : Nat) : Int)) (b := 1) (r0 := ((j : Nat) : Int) + 1) (r := ((j + 1 : Nat) : Int)) rfl rfl rfl (wrapN _ (by omega)) ?_)
    refine O_v rfl (R_move (v := (.int .i64 ((j + 1 : Nat) : Int))) rfl ?_)
    refine O_nil (Then_n ?_)
    have H162 := H161.sub (B' := [rowR 5 1 encB h92 ((((([] ++ atB ((nth items k).node)) ++ atB ((nth items k).tm)) ++ textB ((nth items k).name)) ++ idList ((nth items k).sub)) ++ numB ((((nth items k).heads).length : Nat) : Int)), rowR 5 1 encB h84 (((([] ++ atB ((nth items k).node)) ++ atB ((nth items k).tm)) ++ textB ((nth items k).name)) ++ idList ((nth items k).sub)), rowR 5 1 encB h76 ((([] ++ atB ((nth items k).node)) ++ atB ((nth items k).tm)) ++ textB ((nth items k).name)), rowR 5 1 encB h68 (([] ++ atB ((nth items k).node)) ++ atB ((nth items k).tm)), rowR 5 1 encB h60 ([] ++ atB ((nth items k).node)), boxR b25 48 [[(.int .i64 (((nth items k).node).T))], [(.int .i64 (((nth items k).node).R))], [(.int .i64 (((nth items k).tm).T))], [(.int .i64 (((nth items k).tm).R))], [(.string ((nth items k).name))], (idCells ((nth items k).sub)), [(slV ((nth items k).hh) ((nth items k).heads))]], rowR 5 1 encB h153 (acc2 ++ (([] ++ atB ((nth ((nth items k).heads) j).tm)) ++ idList ((nth ((nth items k).heads) j).data))), rowR 5 1 encB ⟨some ⟨b8, 0, none⟩, b8, 0, 1⟩ ([2] : List UInt8)]) (I' := [deepI (Old w) headCh 34 (fun x : ItemS => x.hh) (fun x : ItemS => x.heads) items, slI (Old w) itemCh 38 hitems items]) (List.Sublist.cons _ (List.Sublist.cons _ (List.Sublist.cons _ (List.Sublist.cons_cons _ (List.Sublist.cons_cons _ (List.Sublist.cons_cons _ (List.Sublist.cons_cons _ (List.Sublist.cons_cons _ (List.Sublist.cons_cons _ (List.Sublist.cons_cons _ (List.Sublist.cons_cons _ List.Sublist.slnil))))))))))) (List.forall_mem_cons.2 ⟨List.mem_of_getElem? (i := 0) rfl, List.forall_mem_cons.2 ⟨List.mem_of_getElem? (i := 1) rfl, fun _ h => (nomatch h)⟩⟩)
    refine ⟨_, ?_, (j + 1), (acc2 ++ (([] ++ atB ((nth ((nth items k).heads) j).tm)) ++ idList ((nth ((nth items k).heads) j).data))), h153, rfl, (by omega), (head_step ha2 (by omega)), (by have h1 := atB_len (nth (nth items k).heads j).tm; have h3 := (dirOk_lens hD (show k < items.length by omega)); simp only [List.length_append, List.length_nil, List.length_cons, idList_len]; omega), (by omega), (by omega), _, envL_self ⟨rfl, rfl, rfl, rfl, rfl, rfl, rfl, rfl, rfl, rfl, rfl, rfl, rfl, rfl, rfl, rfl, rfl, rfl, rfl, rfl, rfl, rfl, rfl, rfl, rfl, rfl, rfl, rfl, rfl, rfl, rfl, rfl, trivial⟩, H162⟩
    omega
   ·have hc115 : ¬ (((j : Nat) : Int) < ((((nth items k).heads).length : Nat) : Int)) := (of_decide_eq_false hc115)
    refine W_exit (Then_x (Then_x (Blk_x (Blk_n (Then_n (W_reg ?_))))))
    refine O_v rfl (R_arith (a := ((k : Nat) : Int)) (b := 1) (r0 := ((k : Nat) : Int) + 1) (r := ((k + 1 : Nat) : Int)) rfl rfl rfl (wrapN _ (by omega)) ?_)
    refine O_v rfl (R_move (v := (.int .i64 ((k + 1 : Nat) : Int))) rfl ?_)
    refine O_nil (Then_n ?_)
    have H163 := H114.sub (B' := [rowR 5 1 encB h109 acc2, rowR 5 1 encB ⟨some ⟨b8, 0, none⟩, b8, 0, 1⟩ ([2] : List UInt8)]) (I' := [deepI (Old w) headCh 34 (fun x : ItemS => x.hh) (fun x : ItemS => x.heads) items, slI (Old w) itemCh 38 hitems items]) (List.Sublist.cons _ (List.Sublist.cons _ (List.Sublist.cons _ (List.Sublist.cons _ (List.Sublist.cons _ (List.Sublist.cons _ (List.Sublist.cons_cons _ (List.Sublist.cons_cons _ List.Sublist.slnil)))))))) (List.forall_mem_cons.2 ⟨List.mem_of_getElem? (i := 0) rfl, List.forall_mem_cons.2 ⟨List.mem_of_getElem? (i := 1) rfl, fun _ h => (nomatch h)⟩⟩)
    refine ⟨_, ?_, (k + 1), acc2, h109, rfl, (by omega), (item_end ha ha2 (by omega) (by omega)), (by have := dirOk_lens hD (show k < items.length by omega); omega), hD, _, envL_self ⟨rfl, rfl, rfl, rfl, rfl, rfl, trivial⟩, H163⟩
    omega
  ·have hc24 : ¬ (((k : Nat) : Int) < ((items.length : Nat) : Int)) := (of_decide_eq_false hc24)
   refine W_exit (Then_x (Then_x (Blk_x (Then_n (W_seq (W_reg ?_))))))
   refine O_v rfl (R_move (v := (slV h18 acc)) rfl ?_)
   refine O_v rfl (R_assign (v := (slV h18 acc)) rfl ?_)
   refine O_v rfl (R_assign (v := (.int .i64 0)) rfl ?_)
   refine O_nil (Then_n (W_ret ?_))
   refine ret_2 (v := (slV h18 acc)) (v' := (.int .i64 0)) Try.results57 rfl rfl ?_
   have hE : acc = putDirB items := (dir_end ha hD (by omega)).1
   have hV : 0 = putDirE items := (dir_end ha hD (by omega)).2
   refine ⟨h18, ?_, H23.gr, ?_⟩
   · exact two_eq (fun l n => Value.tuple #[slV h18 l, Value.int .i64 n]) hE hV
   · have hO := H23.retRow 0 rfl
     exact hE ▸ hO

end Go.Proofs.Ytiknfldhommmpaa
namespace Go.Proofs.Ytiknfldhommmpaa
open Go
set_option maxRecDepth 100000
set_option linter.unusedVariables false
set_option linter.unusedSimpArgs false
theorem snap_item_c27 : callable Try.prog 27 = true := by kernel_rfl
set_option maxHeartbeats 1000000 in
theorem snap_item (r : RowS) (sb : ID) (w : World) (Sr_heads : Sl (Old w) headCh 34 r.hh r.heads w) (hh : r.heads.length ≤ 1048576) :
    Calls Try.prog 58 #[(aggOf (rowCh r)), (aggOf (idCh sb))] w (Ret fun v w' => ∃ h, v = itemV ({ node := r.node, tm := r.tm, name := r.name, sub := sb, heads := r.heads, hh := h } : ItemS) ∧ Ext w w' ∧ OwnS w.heap.size 62 34 headCh h (r.heads) w') := by
 refine calls_W Try.func58 rfl Try.ntmps58 rfl ?_
 have H0 := Ctx.start w nob
 have H1 := H0.addSl _ Sr_heads (fun b hb => ⟨hb, fun _ ho => (nomatch ho)⟩)
 have LSr_heads := Sr_heads.len
 refine W_seq (W_reg ?_)
 refine O_v rfl (C_box H1 [[(.int .i64 r.node.T)], [(.int .i64 r.node.R)], [(.int .i64 r.par.T)], [(.int .i64 r.par.R)], [(.int .i64 r.tm.T)], [(.int .i64 r.tm.R)], [(.string r.name)], [(slV r.hh r.heads)]] rfl ?_)
 intro b2 w3 hb4 hx5 H6
 refine O_v rfl (C_box H6 [(idCells sb)] rfl ?_)
 intro b7 w8 hb9 hx10 H11
 refine O_v rfl (C_alloc H11 [[(.int .i64 0)], [(.int .i64 0)], [(.int .i64 0)], [(.int .i64 0)], [(.string ByteArray.empty)], (idCells zeroId), [(.slice none 0 0)]] Try.zeroValue48 ?_)
 intro b12 w13 hb14 hx15 H16
 refine O_nil (Then_n (W_seq ?_))
 refine W_rgdM TryMixed (fun _ => True) (fun i => i == 11) [(0, .q true), (1, .q false), (2, .q true), (3, .q false), (4, .q true), (5, .q false), (6, .q false), (7, .q true), (8, .q false), (9, .c false), (10, .q true), (11, .c true)] (by kernel_rfl) ?_
 refine Lx_q (i := 0) rfl rfl _ (fun v17 hv18 => R_fieldAddr (off := 0) (oo := 0) Try.underlying44 rfl rfl Try.sizeOf24 rfl rfl ⟨rfl, Gr.refl _ _⟩) ?_
 refine Lx_q (i := 1) rfl rfl _ (fun v19 hv20 => R_loadA (cs := [[(.int .i64 r.node.T)], [(.int .i64 r.node.R)]]) Try.isAgg24 Try.sizeOf24 rfl rfl ((boxR_at ((H16.ext hv20).getOwn 2 rfl)).chunks 0 2 0 0 _ rfl rfl rfl) ⟨rfl, Gr.refl _ _⟩) ?_
 refine Lx_q (i := 2) rfl rfl _ (fun v21 hv22 => R_fieldAddr (off := 4) (oo := 4) Try.underlying44 rfl rfl Try.sizeOf24 rfl rfl ⟨rfl, Gr.refl _ _⟩) ?_
 refine Lx_q (i := 3) rfl rfl _ (fun v23 hv24 => R_loadA (cs := [[(.int .i64 r.tm.T)], [(.int .i64 r.tm.R)]]) Try.isAgg24 Try.sizeOf24 rfl rfl ((boxR_at ((H16.ext hv24).getOwn 2 rfl)).chunks 4 2 4 4 _ rfl rfl rfl) ⟨rfl, Gr.refl _ _⟩) ?_
 refine Lx_q (i := 4) rfl rfl _ (fun v25 hv26 => R_fieldAddr (off := 6) (oo := 6) Try.underlying44 rfl rfl Try.sizeOf9 rfl rfl ⟨rfl, Gr.refl _ _⟩) ?_
 refine Lx_q (i := 5) rfl rfl _ (fun v27 hv28 => R_load1 (v := (.string r.name)) Try.isAgg9 rfl ((boxR_at ((H16.ext hv28).getOwn 2 rfl)).chunks 6 1 6 6 _ rfl rfl rfl) ⟨rfl, Gr.refl _ _⟩) ?_
 refine Lx_q (i := 6) rfl rfl _ (fun v29 hv30 => R_loadA (cs := [(idCells sb)]) Try.isAgg36 Try.sizeOf36 rfl rfl ((boxR_at ((H16.ext hv30).getOwn 1 rfl)).chunks 0 1 0 0 _ rfl rfl rfl) ⟨rfl, Gr.refl _ _⟩) ?_
 refine Lx_q (i := 7) rfl rfl _ (fun v31 hv32 => R_fieldAddr (off := 7) (oo := 7) Try.underlying44 rfl rfl Try.sizeOf42 rfl rfl ⟨rfl, Gr.refl _ _⟩) ?_
 refine Lx_q (i := 8) rfl rfl _ (fun v33 hv34 => R_load1 (v := (slV r.hh r.heads)) Try.isAgg42 rfl ((boxR_at ((H16.ext hv34).getOwn 2 rfl)).chunks 7 1 7 7 _ rfl rfl rfl) ⟨rfl, Gr.refl _ _⟩) ?_
 refine Lx_c (i := 9) rfl rfl (fun w35 hw36 => ?_)
 have H37 := H16.ext hw36
 refine (R_callL (vs := [(slV r.hh r.heads)]) snap_item_c27 rfl rfl ((Clone_Head r.hh r.heads w35 (H37.slOld 0 rfl) (by omega)).ret ?_))
 rintro _ w39 ⟨h38, rfl, hx40, ho41⟩
 have H42 := H37.addRow hx40 ho41
 refine ⟨GrF.ofExt hx40, ?_⟩
 refine Lx_q (i := 10) rfl rfl _ (fun v43 hv44 => R_buildL (vs := [(0, (aggOf (stampCh r.node))), (1, (aggOf (stampCh r.tm))), (2, (.string r.name)), (3, (aggOf (idCh sb))), (4, (slV h38 r.heads))]) (v := aggOf [[(.int .i64 r.node.T)], [(.int .i64 r.node.R)], [(.int .i64 r.tm.T)], [(.int .i64 r.tm.R)], [(.string r.name)], (idCells sb), [(slV h38 r.heads)]]) rfl (fun _ => by kernel_rfl) ⟨rfl, Gr.refl _ _⟩) ?_
 refine Lx_cu (i := 11) rfl (fun w45 hw46 => ?_)
 have H47 := H42.ext hw46
 refine (C_storeA H47 1 rfl 0 (sub := [[(.int .i64 r.node.T)], [(.int .i64 r.node.R)], [(.int .i64 r.tm.T)], [(.int .i64 r.tm.R)], [(.string r.name)], (idCells sb), [(slV h38 r.heads)]]) [[(.int .i64 r.node.T)], [(.int .i64 r.node.R)], [(.int .i64 r.tm.T)], [(.int .i64 r.tm.R)], [(.string r.name)], (idCells sb), [(slV h38 r.heads)]] Try.sizeOf48 rfl rfl rfl rfl ⟨[[(.int .i64 0)], [(.int .i64 0)], [(.int .i64 0)], [(.int .i64 0)], [(.string ByteArray.empty)], (idCells zeroId), [(.slice none 0 0)]], [], rfl, rfl, rfl⟩ rfl ?_)
 intro w48 hg49 H50
 refine ⟨Gr.mono (M' := fun _ => True) hg49 (fun _ _ => trivial), ?_⟩
 refine Lx_nil (fun w51 hw52 => ?_)
 have H53 := H50.ext hw52
 refine Then_n (W_ret ?_)
 refine ret_c Try.results58 (inMem (cs := [[(.int .i64 r.node.T)], [(.int .i64 r.node.R)], [(.int .i64 r.tm.T)], [(.int .i64 r.tm.R)], [(.string r.name)], (idCells sb), [(slV h38 r.heads)]]) rfl Try.isAgg48 Try.sizeOf48 rfl (boxR_at (H53.getOwn 1 rfl))) ?_
 exact ⟨h38, rfl, H53.gr, H53.retRow 0 rfl⟩

end Go.Proofs.Ytiknfldhommmpaa
namespace Go.Proofs.Ytiknfldhommmpaa
open Go
set_option maxRecDepth 100000
set_option linter.unusedVariables false
set_option linter.unusedSimpArgs false
set_option maxHeartbeats 1000000 in
theorem snap_last  (w : World) :
    Calls Try.prog 59 #[] w (Ret fun v w' => v = (aggOf (stampCh lastSt)) ∧ Ext w w') := by
 refine calls_W Try.func59 rfl Try.ntmps59 rfl ?_
 have H0 := Ctx.start w nob
 refine W_seq (W_reg ?_)
 refine O_v rfl (C_alloc H0 [[(.int .i64 0)], [(.int .i64 0)]] Try.zeroValue24 ?_)
 intro b1 w2 hb3 hx4 H5
 refine O_nil (Then_n (W_seq (W_reg ?_)))
 refine O_v rfl (R_buildL (vs := [(0, (.int .i64 1099511627776)), (1, (.int .i64 65536))]) (v := aggOf [[(.int .i64 1099511627776)], [(.int .i64 65536)]]) rfl (fun _ => by kernel_rfl) ?_)
 refine O_u (C_storeA H5 0 rfl 0 (sub := [[(.int .i64 1099511627776)], [(.int .i64 65536)]]) [[(.int .i64 1099511627776)], [(.int .i64 65536)]] Try.sizeOf24 rfl rfl rfl rfl ⟨[[(.int .i64 0)], [(.int .i64 0)]], [], rfl, rfl, rfl⟩ rfl ?_)
 intro w6 hg7 H8
 refine O_nil (Then_n (W_ret ?_))
 refine ret_c Try.results59 (inMem (cs := [[(.int .i64 1099511627776)], [(.int .i64 65536)]]) rfl Try.isAgg24 Try.sizeOf24 rfl (boxR_at (H8.getOwn 0 rfl))) ?_
 exact ⟨rfl, H8.gr⟩

end Go.Proofs.Ytiknfldhommmpaa
namespace Go.Proofs.Ytiknfldhommmpaa
open Go
set_option maxRecDepth 100000
set_option linter.unusedVariables false
set_option linter.unusedSimpArgs false
theorem snap_right_c57 : callable Try.prog 57 = true := by kernel_rfl
theorem snap_right_c58 : callable Try.prog 58 = true := by kernel_rfl
theorem snap_right_c59 : callable Try.prog 59 = true := by kernel_rfl
set_option maxHeartbeats 1000000 in
theorem snap_right (r : RowS) (w : World) (Sr_heads : Sl (Old w) headCh 34 r.hh r.heads w) (hh : r.heads.length ≤ 1048576) (hAs : asciiOr r.name) :
    Calls Try.prog 46 #[(aggOf (rowCh r))] w (Ret fun v w' => v = (.bool (rightRow r)) ∧ Ext w w') := by
 refine calls_W Try.func46 rfl Try.ntmps46 rfl ?_
 have H0 := Ctx.start w nob
 have H1 := H0.addSl _ Sr_heads (fun b hb => ⟨hb, fun _ ho => (nomatch ho)⟩)
 have LSr_heads := Sr_heads.len
 refine W_seq (W_reg ?_)
 refine O_v rfl (C_box H1 [[(.int .i64 r.node.T)], [(.int .i64 r.node.R)], [(.int .i64 r.par.T)], [(.int .i64 r.par.R)], [(.int .i64 r.tm.T)], [(.int .i64 r.tm.R)], [(.string r.name)], [(slV r.hh r.heads)]] rfl ?_)
 intro b2 w3 hb4 hx5 H6
 refine O_v rfl (R_assign (v := (.bool false)) rfl ?_)
 refine O_nil (Then_n (W_seq (W_reg ?_)))
 refine O_v rfl (R_loadA (cs := [[(.int .i64 r.node.T)], [(.int .i64 r.node.R)], [(.int .i64 r.par.T)], [(.int .i64 r.par.R)], [(.int .i64 r.tm.T)], [(.int .i64 r.tm.R)], [(.string r.name)], [(slV r.hh r.heads)]]) Try.isAgg44 Try.sizeOf44 rfl rfl ((boxR_at (H6.getOwn 0 rfl)).chunks 0 8 0 0 _ rfl rfl rfl) ?_)
 refine O_v rfl (R_buildL (vs := []) (v := aggOf [(idCells zeroId)]) rfl (fun _ => by kernel_rfl) ?_)
 refine O_v rfl (R_callL (vs := [(aggOf (rowCh r)), (aggOf (idCh zeroId))]) snap_right_c58 rfl rfl ((snap_item r zeroId w3 (H6.slOld 0 rfl) hh).ret ?_))
 rintro _ w8 ⟨h7, rfl, hx9, ho10⟩
 have H11 := H6.addRow hx9 ho10
 refine O_v rfl (C_buildSliceL H11 (enc := itemCh) (val := itemV) ([({ node := r.node, tm := r.tm, name := r.name, sub := zeroId, heads := r.heads, hh := h7 } : ItemS)] : List ItemS) Try.underlying50 Try.sizeOf48 Try.zeroValue48 rfl (by decide) (fun _ => rfl) (fun _ => rfl) rfl rfl (by decide) ?_)
 intro b12 w13 hb14 hx15 H16
 refine O_v rfl (R_callL (vs := [(slV ⟨some ⟨b12, 0, none⟩, b12, 0, 1⟩ ([({ node := r.node, tm := r.tm, name := r.name, sub := zeroId, heads := r.heads, hh := h7 } : ItemS)] : List ItemS))]) snap_right_c57 rfl rfl ((obj_PutDir ⟨some ⟨b12, 0, none⟩, b12, 0, 1⟩ ([({ node := r.node, tm := r.tm, name := r.name, sub := zeroId, heads := r.heads, hh := h7 } : ItemS)] : List ItemS) w13 (H16.rowSl 0 rfl (fun _ => rfl)) (deep1 (H16.rowSl 1 rfl (fun _ => rfl))) (deep1 hAs)).ret ?_))
 rintro _ w18 ⟨h17, rfl, hx19, ho20⟩
 have H21 := H16.addRow hx19 ho20
 refine O_v rfl (R_move (v := (.tuple #[(slV h17 (putDirB ([({ node := r.node, tm := r.tm, name := r.name, sub := zeroId, heads := r.heads, hh := h7 } : ItemS)] : List ItemS))), (.int .i64 (putDirE ([({ node := r.node, tm := r.tm, name := r.name, sub := zeroId, heads := r.heads, hh := h7 } : ItemS)] : List ItemS)))])) rfl ?_)
 refine O_v rfl (R_extract (v := (slV h17 (putDirB ([({ node := r.node, tm := r.tm, name := r.name, sub := zeroId, heads := r.heads, hh := h7 } : ItemS)] : List ItemS)))) rfl rfl ?_)
 refine O_v rfl (R_extract (v := (.int .i64 (putDirE ([({ node := r.node, tm := r.tm, name := r.name, sub := zeroId, heads := r.heads, hh := h7 } : ItemS)] : List ItemS)))) rfl rfl ?_)
 refine O_v rfl (R_assign (v := (slV h17 (putDirB ([({ node := r.node, tm := r.tm, name := r.name, sub := zeroId, heads := r.heads, hh := h7 } : ItemS)] : List ItemS)))) rfl ?_)
 refine O_v rfl (R_assign (v := (.int .i64 (putDirE ([({ node := r.node, tm := r.tm, name := r.name, sub := zeroId, heads := r.heads, hh := h7 } : ItemS)] : List ItemS)))) rfl ?_)
 refine O_nil (Then_n (W_seq ?_))
 refine W_rgd TryMixed [(0, .q false), (1, .q false), (2, .q false), (3, .q false), (4, .q false), (5, .q false), (6, .q false), (7, .q false), (8, .q false)] (by kernel_rfl) ?_
 refine Lx_q (i := 0) rfl rfl _ (fun v22 hv23 => R_move (v := (.int .i64 (putDirE ([({ node := r.node, tm := r.tm, name := r.name, sub := zeroId, heads := r.heads, hh := h7 } : ItemS)] : List ItemS)))) rfl ⟨rfl, Gr.refl _ _⟩) ?_
 refine Lx_q (i := 1) rfl rfl _ (fun v24 hv25 => R_cmp (a := putDirE ([({ node := r.node, tm := r.tm, name := r.name, sub := zeroId, heads := r.heads, hh := h7 } : ItemS)] : List ItemS)) (b := 0) (r := (decide (putDirE ([({ node := r.node, tm := r.tm, name := r.name, sub := zeroId, heads := r.heads, hh := h7 } : ItemS)] : List ItemS) = 0))) rfl rfl rfl ⟨rfl, Gr.refl _ _⟩) ?_
 refine Lx_q (i := 2) rfl rfl _ (fun v26 hv27 => R_move (v := (.bool (decide (putDirE ([({ node := r.node, tm := r.tm, name := r.name, sub := zeroId, heads := r.heads, hh := h7 } : ItemS)] : List ItemS) = 0)))) rfl ⟨rfl, Gr.refl _ _⟩) ?_
 refine Lx_qg (i := 3) true (decide (putDirE ([({ node := r.node, tm := r.tm, name := r.name, sub := zeroId, heads := r.heads, hh := h7 } : ItemS)] : List ItemS) = 0)) rfl rfl rfl rfl rfl (decide (putDirE ([({ node := r.node, tm := r.tm, name := r.name, sub := zeroId, heads := r.heads, hh := h7 } : ItemS)] : List ItemS) = 0)) ga_t _ (fun hA v28 hv29 => R_fieldAddr (off := 0) (oo := 0) Try.underlying44 rfl rfl Try.sizeOf24 rfl rfl ⟨rfl, Gr.refl _ _⟩) ?_
 refine Lx_qg (i := 4) true (decide (putDirE ([({ node := r.node, tm := r.tm, name := r.name, sub := zeroId, heads := r.heads, hh := h7 } : ItemS)] : List ItemS) = 0)) rfl rfl rfl rfl rfl (decide (putDirE ([({ node := r.node, tm := r.tm, name := r.name, sub := zeroId, heads := r.heads, hh := h7 } : ItemS)] : List ItemS) = 0)) ga_t _ (fun hA v30 hv31 => R_loadA (cs := [[(.int .i64 r.node.T)], [(.int .i64 r.node.R)]]) Try.isAgg24 Try.sizeOf24 rfl (gv_t hA) ((boxR_at ((H21.ext hv31).getOwn 3 rfl)).chunks 0 2 0 0 _ rfl rfl rfl) ⟨rfl, Gr.refl _ _⟩) ?_
 refine Lx_qg (i := 5) true (decide (putDirE ([({ node := r.node, tm := r.tm, name := r.name, sub := zeroId, heads := r.heads, hh := h7 } : ItemS)] : List ItemS) = 0)) rfl rfl rfl rfl rfl (decide (putDirE ([({ node := r.node, tm := r.tm, name := r.name, sub := zeroId, heads := r.heads, hh := h7 } : ItemS)] : List ItemS) = 0)) ga_t (aggOf (stampCh lastSt)) (fun hA v32 hv33 => R_callL (vs := []) snap_right_c59 rfl rfl (snap_last  v32 )) ?_
 refine Lx_qg (i := 6) true (decide (putDirE ([({ node := r.node, tm := r.tm, name := r.name, sub := zeroId, heads := r.heads, hh := h7 } : ItemS)] : List ItemS) = 0)) rfl rfl rfl rfl rfl (decide (putDirE ([({ node := r.node, tm := r.tm, name := r.name, sub := zeroId, heads := r.heads, hh := h7 } : ItemS)] : List ItemS) = 0)) ga_t _ (fun hA v34 hv35 => R_nev (a := r.node) (b := lastSt) eqv_Stamp24 rfl Try.eqGuardType24 (gv_t hA) (gv_t hA) ⟨rfl, Gr.refl _ _⟩) ?_
 refine Lx_q (i := 7) rfl rfl _ (fun v36 hv37 => R_pick (t := (decide (putDirE ([({ node := r.node, tm := r.tm, name := r.name, sub := zeroId, heads := r.heads, hh := h7 } : ItemS)] : List ItemS) = 0))) (v := (.bool ((decide (putDirE ([({ node := r.node, tm := r.tm, name := r.name, sub := zeroId, heads := r.heads, hh := h7 } : ItemS)] : List ItemS) = 0)) && (!(decide (r.node = lastSt)))))) rfl pk_and ⟨rfl, Gr.refl _ _⟩) ?_
 refine Lx_q (i := 8) rfl rfl _ (fun v38 hv39 => R_assign (v := (.bool ((decide (putDirE ([({ node := r.node, tm := r.tm, name := r.name, sub := zeroId, heads := r.heads, hh := h7 } : ItemS)] : List ItemS) = 0)) && (!(decide (r.node = lastSt)))))) rfl ⟨rfl, Gr.refl _ _⟩) ?_
 refine Lx_nil (fun w40 hw41 => ?_)
 have H42 := H21.ext hw41
 refine Then_n (W_ret ?_)
 refine ret_1 (v := (.bool ((decide (putDirE ([({ node := r.node, tm := r.tm, name := r.name, sub := zeroId, heads := r.heads, hh := h7 } : ItemS)] : List ItemS) = 0)) && (!(decide (r.node = lastSt)))))) Try.results46 rfl ?_
 exact ⟨(rightRow_e rfl), H42.gr⟩

end Go.Proofs.Ytiknfldhommmpaa
