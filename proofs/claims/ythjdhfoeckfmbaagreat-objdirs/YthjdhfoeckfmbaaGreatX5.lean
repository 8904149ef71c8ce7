/- Proved: for every input, pollardlaw04.ObjDirs returns true and leaves its argument as it was. No condition. -/
import Derived.Test.YthjdhfoeckfmbaaGreatX4
namespace Go.Proofs.YthjdhfoeckfmbaaGreat
open Go
set_option maxRecDepth 100000
set_option linter.unusedVariables false
set_option linter.unusedSimpArgs false
set_option linter.unusedSectionVars false
variable [DD]
theorem cF24 : callable Tryz.prog 24 = true := by kernel_rfl
theorem cF73 : callable Tryz.prog 73 = true := by kernel_rfl
theorem cF75 : callable Tryz.prog 75 = true := by kernel_rfl
theorem cF77 : callable Tryz.prog 77 = true := by kernel_rfl
set_option maxHeartbeats 4000000 in
theorem ref04_Change (hb : SlH) (b : List UInt8) (w : World) (Sb : Sl (Old w) encB 1 hb b w) :
    Calls Tryz.prog 33 #[(slV hb b)] w (Ret fun v w' => ∃ (X : ChangeS) (SX : Nat → Prop), v = .tuple #[changeV X, (.bool (ChangeB b))] ∧ Ext w w' ∧ (∀ b, SX b → w.heap.size ≤ b ∧ b < w'.heap.size) ∧ Sl SX idCh 32 X.ph X.parents w' ∧ Sl SX opCh 41 X.oh X.ops w' ∧ (∀ x ∈ X.ops, Sl SX stampCh 2 x.oh x.over w') ∧ (X.core = (changeOf b).1)) := by
 refine calls_W Tryz.func33 rfl Tryz.ntmps33 rfl ?_
 have H0 := Ctx.start w nob
 have H1 := H0.addSl _ Sb (fun b hb => ⟨hb, fun _ ho => (nomatch ho)⟩)
 have LSb := Sb.len
 refine W_seq (W_reg ?_)
 refine O_v rfl (C_alloc H1 [[(.slice none 0 0)], [(.int .i64 0)], [(.int .i64 0)], [(.slice none 0 0)], (idCells zeroId), [(.string ByteArray.empty)]] Tryz.zeroValue47 ?_)
 intro b2 w3 hb4 hx5 H6
 refine O_as (v := (.bool false)) rfl rfl ?_
 refine O_nil (Then_n (W_seq (W_reg ?_)))
 refine O_mv (v := (slV hb b)) rfl rfl ?_
 refine O_v rfl (R_callL (vs := [(slV hb b), (.int .u8 3)]) cF73 rfl rfl ((ref04_open hb b (Old w) 3 w3 (H6.sl 0 rfl) (H6.imm _ (List.mem_of_getElem? (i := 0) rfl)).2).ret ?_))
 rintro _ w8 ⟨x7, rfl, hx9, hr10, hs11⟩
 have H12 := H6.ext hx9
 have H13 := H12.immOf 0 rfl (slI (Old w) encB 1 x7.bh x7.b) (fun _ h => h) (fun _ => hs11)
 refine O_v rfl (R_callL (vs := [(aggOf (rdCh x7)), (.int .i64 2)]) cF72 rfl rfl ((ref02_GetNum x7 (Old w) (openSt b 3) 2 w8 (H13.sl 0 rfl) (H13.imm _ (List.mem_of_getElem? (i := 0) rfl)).2 hr10).ret ?_))
 rintro _ w15 ⟨x14, rfl, hx16, hr17, hs18⟩
 have H19 := H13.ext hx16
 have H20 := H19.immOf 0 rfl (slI (Old w) encB 1 x14.bh x14.b) (fun _ h => h) (fun _ => hs18)
 refine O_mv (v := (.tuple #[(.int .i64 (((rdNum (openSt b 3) 2).1) : Int)), (aggOf (rdCh x14))])) rfl rfl (O_ex (v := (.int .i64 (((rdNum (openSt b 3) 2).1) : Int))) rfl rfl rfl (O_ex (v := (aggOf (rdCh x14))) rfl rfl rfl ?_))
 refine O_v rfl (C_alloc H20 [[(.slice none 0 0)], [(.bool false)]] Tryz.zeroValue110 ?_)
 intro b21 w22 hb23 hx24 H25
 refine O_as (v := (.int .i64 (((rdNum (openSt b 3) 2).1) : Int))) rfl rfl ?_
 refine O_u (C_storeW H25 0 rfl (sub := [[(slV x14.bh x14.b)], [(.bool x14.bad)]]) Tryz.sizeOf110 rfl rfl rfl rfl rfl ?_)
 intro w26 hg27 H28
 refine O_nil (Then_n (W_seq (W_reg ?_)))
 refine O_v rfl (R_buildL (vs := []) (v := aggOf [[(.slice none 0 0)], [(.int .i64 0)], [(.int .i64 0)], [(.slice none 0 0)], (idCells zeroId), [(.string ByteArray.empty)]]) rfl (fun _ => by kernel_rfl) ?_)
 refine O_v rfl (C_alloc H28 [[(.slice none 0 0)], [(.int .i64 0)], [(.int .i64 0)], [(.slice none 0 0)], (idCells zeroId), [(.string ByteArray.empty)]] Tryz.zeroValue47 ?_)
 intro b29 w30 hb31 hx32 H33
 refine O_u (C_storeW H33 0 rfl (sub := [[(.slice none 0 0)], [(.int .i64 0)], [(.int .i64 0)], [(.slice none 0 0)], (idCells zeroId), [(.string ByteArray.empty)]]) Tryz.sizeOf47 rfl rfl rfl rfl rfl ?_)
 intro w34 hg35 H36
 refine O_nil (Then_n (W_seq (W_seq (W_reg ?_))))
 refine O_as (v := (.int .i64 0)) rfl rfl ?_
 refine O_nil (Then_n (W_block ?_))
 have H37 := H36.addNil 45 32 idCh
 refine W_loop (fun m38 e39 w40 => ∃ (k : Nat), ∃ (pacc : List ID), ∃ (rr : RdS), ∃ (rq : List UInt8 × Bool), ∃ (hp : SlH), m38 = (rdNum (openSt b 3) 2).1 - k ∧ (k ≤ (rdNum (openSt b 3) 2).1) ∧ ((rdNum (openSt b 3) 2).1 ≤ 2) ∧ (pacc.length ≤ k) ∧ (rr.st = rq) ∧ (rdIds ((rdNum (openSt b 3) 2).1 - k) pacc rq = rdIds (rdNum (openSt b 3) 2).1 [] (rdNum (openSt b 3) 2).2) ∧ ∃ eb41, e39 = envL [(2, (.pointer (some ⟨b2, 0, none⟩))), (3, (.bool false)), (4, (.int .i64 (((rdNum (openSt b 3) 2).1) : Int))), (5, (.pointer (some ⟨b21, 0, none⟩))), (6, (.pointer (some ⟨b29, 0, none⟩))), (7, (.int .i64 (k : Int)))] eb41 ∧ Ctx w nob w40 [rowR 45 32 idCh hp pacc, boxR b29 47 [[(slV hp pacc)], [(.int .i64 0)], [(.int .i64 0)], [(.slice none 0 0)], (idCells zeroId), [(.string ByteArray.empty)]], boxR b21 110 [[(slV rr.bh rr.b)], [(.bool rr.bad)]], boxR b2 47 [[(.slice none 0 0)], [(.int .i64 0)], [(.int .i64 0)], [(.slice none 0 0)], (idCells zeroId), [(.string ByteArray.empty)]]] [slI (Old w) encB 1 rr.bh rr.b, slI (Old w) encB 1 x7.bh x7.b, slI (Old w) encB 1 hb b]) _ ⟨0, [], x14, ((rdNum (openSt b 3) 2).2), nilH, rfl, (by omega), (rdNum_le _ (by decide)), (by simp), hr17, rfl, _, envL_self ⟨rfl, rfl, rfl, rfl, rfl, rfl, trivial⟩, H37⟩ ?_
 rintro m38 _ w40 ⟨k, pacc, rr, rq, hp, rfl, hk, hm, hal, hrr, hgo, eb41, rfl, H42⟩
 refine W_seq (W_seq (W_reg ?_))
 refine O_mv (v := (.int .i64 (k : Int))) rfl rfl (O_mv (v := (.int .i64 (((rdNum (openSt b 3) 2).1) : Int))) rfl rfl ?_)
 refine O_v rfl (R_cmp (a := (k : Int)) (b := (((rdNum (openSt b 3) 2).1) : Int)) (r := (decide ((k : Int) < (((rdNum (openSt b 3) 2).1) : Int)))) rfl rfl rfl ?_)
 refine O_nil (Then_n ?_)
 refine W_cond rfl (fun hc43 => ?_) (fun hc43 => ?_)
 ·have hc43 := (of_decide_eq_true hc43)
  refine W_skip (Then_n (W_seq (W_block (W_seq (W_reg ?_)))))
  refine O_v rfl (R_loadA (cs := [[(slV rr.bh rr.b)], [(.bool rr.bad)]]) Tryz.isAgg110 Tryz.sizeOf110 rfl rfl (H42.bx 2 rfl 0 2 0 0 _ rfl rfl rfl) ?_)
  refine O_v rfl (R_callL (vs := [(aggOf (rdCh rr))]) cF76 rfl rfl ((ref02_GetId rr (Old w) rq w40 (H42.sl 0 rfl) (H42.imm _ (List.mem_of_getElem? (i := 0) rfl)).2 hrr).ret ?_))
  rintro _ w45 ⟨x44, rfl, hx46, hr47, hs48⟩
  have H49 := H42.ext hx46
  have H50 := H49.immOf 0 rfl (slI (Old w) encB 1 x44.bh x44.b) (fun _ h => h) (fun _ => hs48)
  refine O_mv (v := (.tuple #[(aggOf (idCh ((rdId rq).1))), (aggOf (rdCh x44))])) rfl rfl (O_ex (v := (aggOf (idCh ((rdId rq).1)))) rfl rfl rfl (O_ex (v := (aggOf (rdCh x44))) rfl rfl rfl ?_))
  refine O_v rfl (C_alloc H50 [(idCells zeroId)] Tryz.zeroValue44 ?_)
  intro b51 w52 hb53 hx54 H55
  refine O_v rfl (C_alloc H55 [[(.slice none 0 0)], [(.bool false)]] Tryz.zeroValue110 ?_)
  intro b56 w57 hb58 hx59 H60
  refine O_u (C_storeW H60 1 rfl (sub := [(idCells ((rdId rq).1))]) Tryz.sizeOf44 rfl rfl rfl rfl rfl ?_)
  intro w61 hg62 H63
  refine O_u (C_storeW H63 0 rfl (sub := [[(slV x44.bh x44.b)], [(.bool x44.bad)]]) Tryz.sizeOf110 rfl rfl rfl rfl rfl ?_)
  intro w64 hg65 H66
  refine O_nil (Then_n (W_seq (W_reg ?_)))
  refine O_v rfl (R_fieldAddr (off := 0) (oo := 0) Tryz.underlying47 rfl rfl Tryz.sizeOf39 rfl rfl ?_)
  refine O_v rfl (R_load1 (v := (slV hp pacc)) Tryz.isAgg39 rfl (H66.bx 3 rfl 0 1 0 0 _ rfl rfl rfl) ?_)
  refine O_v rfl (R_loadA (cs := [(idCells ((rdId rq).1))]) Tryz.isAgg44 Tryz.sizeOf44 rfl rfl (H66.bx 1 rfl 0 1 0 0 _ rfl rfl rfl) ?_)
  refine O_v rfl (C_buildSliceL H66 (enc := idCh) (val := idV) ([(rdId rq).1] : List ID) Tryz.underlying39 Tryz.sizeOf45 Tryz.zeroValue45 rfl (by decide) (fun _ => rfl) (fun _ => rfl) rfl rfl (by decide) ?_)
  intro b67 w68 hb69 hx70 H71
  refine O_v rfl (C_append H71 3 rfl (bytes := 32) (l := pacc) (ys := ([(rdId rq).1] : List ID)) Tryz.underlying39 rfl rfl rfl rfl rfl (by decide) rfl rfl (OwnS.sl (H71.getOwn 0 rfl) (fun _ => rfl)) (fun _ => rfl) (fun _ => rfl) (by simp only [List.length_append, List.length_cons, List.length_nil]; omega) (by decide) ?_)
  intro h72 w73 hg74 H75
  refine O_v rfl (R_fieldAddr (off := 0) (oo := 0) Tryz.underlying47 rfl rfl Tryz.sizeOf39 rfl rfl ?_)
  refine O_u (C_store1 H75 4 rfl 0 (v := (slV h72 (pacc ++ ([(rdId rq).1] : List ID)))) [[(slV h72 (pacc ++ ([(rdId rq).1] : List ID)))], [(.int .i64 0)], [(.int .i64 0)], [(.slice none 0 0)], (idCells zeroId), [(.string ByteArray.empty)]] Tryz.sizeOf39 rfl rfl rfl rfl rfl rfl rfl ?_)
  intro w76 hg77 H78
  refine O_nil (Then_n (W_reg ?_))
  refine O_v rfl (R_loadA (cs := [[(slV x44.bh x44.b)], [(.bool x44.bad)]]) Tryz.isAgg110 Tryz.sizeOf110 rfl rfl (H78.bx 1 rfl 0 2 0 0 _ rfl rfl rfl) ?_)
  refine O_u (C_storeW H78 5 rfl (sub := [[(slV x44.bh x44.b)], [(.bool x44.bad)]]) Tryz.sizeOf110 rfl rfl rfl rfl rfl ?_)
  intro w79 hg80 H81
  refine O_nil (Blk_n (Then_n (W_reg ?_)))
  refine O_mv (v := (.int .i64 (k : Int))) rfl rfl ?_
  refine O_v rfl (R_arith (a := (k : Int)) (b := 1) (r0 := (k : Int) + 1) (r := ((k + 1 : Nat) : Int)) rfl rfl rfl (wrapN _ (by omega)) ?_)
  refine O_as (v := (.int .i64 ((k + 1 : Nat) : Int))) rfl rfl ?_
  refine O_nil (Then_n ?_)
  have H82 := H81.sub (List.Sublist.cons _ (List.Sublist.cons _ (List.Sublist.cons _ (List.Sublist.cons_cons _ (List.Sublist.cons_cons _ (List.Sublist.cons_cons _ (List.Sublist.cons_cons _ List.Sublist.slnil))))))) (List.forall_mem_cons.2 ⟨List.mem_of_getElem? (i := 0) rfl, List.forall_mem_cons.2 ⟨List.mem_of_getElem? (i := 2) rfl, List.forall_mem_cons.2 ⟨List.mem_of_getElem? (i := 3) rfl, memN⟩⟩⟩)
  refine ⟨_, ?_, (k + 1), (pacc ++ ([(rdId rq).1] : List ID)), x44, ((rdId rq).2), h72, rfl, (by omega), hm, (by simp only [List.length_append, List.length_cons, List.length_nil]; omega), hr47, (ids_next hgo (by omega)), _, envL_self ⟨rfl, rfl, rfl, rfl, rfl, rfl, trivial⟩, H82⟩
  omega
 ·have hc43 := (of_decide_eq_false hc43)
  refine W_exit (Then_x (Then_x (Blk_x (Then_n (W_seq (W_reg ?_))))))
  refine O_v rfl (R_loadA (cs := [[(slV rr.bh rr.b)], [(.bool rr.bad)]]) Tryz.isAgg110 Tryz.sizeOf110 rfl rfl (H42.bx 2 rfl 0 2 0 0 _ rfl rfl rfl) ?_)
  refine O_v rfl (R_callL (vs := [(aggOf (rdCh rr)), (.int .i64 1099511627776)]) cF72 rfl rfl ((ref02_GetNum rr (Old w) rq 1099511627776 w40 (H42.sl 0 rfl) (H42.imm _ (List.mem_of_getElem? (i := 0) rfl)).2 hrr).ret ?_))
  rintro _ w84 ⟨x83, rfl, hx85, hr86, hs87⟩
  have H88 := H42.ext hx85
  have H89 := H88.immOf 0 rfl (slI (Old w) encB 1 x83.bh x83.b) (fun _ h => h) (fun _ => hs87)
  refine O_mv (v := (.tuple #[(.int .i64 (((rdNum rq 1099511627776).1) : Int)), (aggOf (rdCh x83))])) rfl rfl (O_ex (v := (.int .i64 (((rdNum rq 1099511627776).1) : Int))) rfl rfl rfl (O_ex (v := (aggOf (rdCh x83))) rfl rfl rfl ?_))
  refine O_v rfl (C_alloc H89 [[(.slice none 0 0)], [(.bool false)]] Tryz.zeroValue110 ?_)
  intro b90 w91 hb92 hx93 H94
  refine O_as (v := (.int .i64 (((rdNum rq 1099511627776).1) : Int))) rfl rfl ?_
  refine O_u (C_storeW H94 0 rfl (sub := [[(slV x83.bh x83.b)], [(.bool x83.bad)]]) Tryz.sizeOf110 rfl rfl rfl rfl rfl ?_)
  intro w95 hg96 H97
  refine O_nil (Then_n (W_seq (W_reg ?_)))
  refine O_v rfl (R_loadA (cs := [[(slV x83.bh x83.b)], [(.bool x83.bad)]]) Tryz.isAgg110 Tryz.sizeOf110 rfl rfl (H97.bx 0 rfl 0 2 0 0 _ rfl rfl rfl) ?_)
  refine O_v rfl (R_callL (vs := [(aggOf (rdCh x83)), (.int .i64 65536)]) cF72 rfl rfl ((ref02_GetNum x83 (Old w) ((rdNum rq 1099511627776).2) 65536 w95 (H97.sl 0 rfl) (H97.imm _ (List.mem_of_getElem? (i := 0) rfl)).2 hr86).ret ?_))
  rintro _ w99 ⟨x98, rfl, hx100, hr101, hs102⟩
  have H103 := H97.ext hx100
  have H104 := H103.immOf 0 rfl (slI (Old w) encB 1 x98.bh x98.b) (fun _ h => h) (fun _ => hs102)
  refine O_mv (v := (.tuple #[(.int .i64 (((rdNum ((rdNum rq 1099511627776).2) 65536).1) : Int)), (aggOf (rdCh x98))])) rfl rfl (O_ex (v := (.int .i64 (((rdNum ((rdNum rq 1099511627776).2) 65536).1) : Int))) rfl rfl rfl (O_ex (v := (aggOf (rdCh x98))) rfl rfl rfl ?_))
  refine O_v rfl (C_alloc H104 [[(.slice none 0 0)], [(.bool false)]] Tryz.zeroValue110 ?_)
  intro b105 w106 hb107 hx108 H109
  refine O_as (v := (.int .i64 (((rdNum ((rdNum rq 1099511627776).2) 65536).1) : Int))) rfl rfl ?_
  refine O_u (C_storeW H109 0 rfl (sub := [[(slV x98.bh x98.b)], [(.bool x98.bad)]]) Tryz.sizeOf110 rfl rfl rfl rfl rfl ?_)
  intro w110 hg111 H112
  refine O_nil (Then_n (W_seq (W_reg ?_)))
  refine O_v rfl (R_loadA (cs := [[(slV x98.bh x98.b)], [(.bool x98.bad)]]) Tryz.isAgg110 Tryz.sizeOf110 rfl rfl (H112.bx 0 rfl 0 2 0 0 _ rfl rfl rfl) ?_)
  refine O_v rfl (R_callL (vs := [(aggOf (rdCh x98)), (.int .i64 64)]) cF72 rfl rfl ((ref02_GetNum x98 (Old w) ((rdNum ((rdNum rq 1099511627776).2) 65536).2) 64 w110 (H112.sl 0 rfl) (H112.imm _ (List.mem_of_getElem? (i := 0) rfl)).2 hr101).ret ?_))
  rintro _ w114 ⟨x113, rfl, hx115, hr116, hs117⟩
  have H118 := H112.ext hx115
  have H119 := H118.immOf 0 rfl (slI (Old w) encB 1 x113.bh x113.b) (fun _ h => h) (fun _ => hs117)
  refine O_mv (v := (.tuple #[(.int .i64 (((rdNum ((rdNum ((rdNum rq 1099511627776).2) 65536).2) 64).1) : Int)), (aggOf (rdCh x113))])) rfl rfl (O_ex (v := (.int .i64 (((rdNum ((rdNum ((rdNum rq 1099511627776).2) 65536).2) 64).1) : Int))) rfl rfl rfl (O_ex (v := (aggOf (rdCh x113))) rfl rfl rfl ?_))
  refine O_v rfl (C_alloc H119 [[(.slice none 0 0)], [(.bool false)]] Tryz.zeroValue110 ?_)
  intro b120 w121 hb122 hx123 H124
  refine O_as (v := (.int .i64 (((rdNum ((rdNum ((rdNum rq 1099511627776).2) 65536).2) 64).1) : Int))) rfl rfl ?_
  refine O_u (C_storeW H124 0 rfl (sub := [[(slV x113.bh x113.b)], [(.bool x113.bad)]]) Tryz.sizeOf110 rfl rfl rfl rfl rfl ?_)
  intro w125 hg126 H127
  refine O_nil (Then_n (W_seq (W_reg ?_)))
  refine O_mv (v := (.int .i64 (((rdNum rq 1099511627776).1) : Int))) rfl rfl ?_
  refine O_v rfl (R_fieldAddr (off := 1) (oo := 1) Tryz.underlying47 rfl rfl Tryz.sizeOf2 rfl rfl ?_)
  refine O_u (C_store1 H127 4 rfl 1 (v := (.int .i64 (((rdNum rq 1099511627776).1) : Int))) [[(slV hp pacc)], [(.int .i64 (((rdNum rq 1099511627776).1) : Int))], [(.int .i64 0)], [(.slice none 0 0)], (idCells zeroId), [(.string ByteArray.empty)]] Tryz.sizeOf2 rfl rfl rfl rfl rfl rfl rfl ?_)
  intro w128 hg129 H130
  refine O_nil (Then_n (W_seq (W_reg ?_)))
  refine O_mv (v := (.int .i64 (((rdNum ((rdNum rq 1099511627776).2) 65536).1) : Int))) rfl rfl ?_
  refine O_v rfl (R_fieldAddr (off := 2) (oo := 2) Tryz.underlying47 rfl rfl Tryz.sizeOf3 rfl rfl ?_)
  refine O_u (C_store1 H130 4 rfl 2 (v := (.int .i64 (((rdNum ((rdNum rq 1099511627776).2) 65536).1) : Int))) [[(slV hp pacc)], [(.int .i64 (((rdNum rq 1099511627776).1) : Int))], [(.int .i64 (((rdNum ((rdNum rq 1099511627776).2) 65536).1) : Int))], [(.slice none 0 0)], (idCells zeroId), [(.string ByteArray.empty)]] Tryz.sizeOf3 rfl rfl rfl rfl rfl rfl rfl ?_)
  intro w131 hg132 H133
  refine O_nil (Then_n (W_seq (W_seq (W_reg ?_))))
  refine O_as (v := (.int .i64 0)) rfl rfl ?_
  refine O_nil (Then_n (W_block ?_))
  have H134 := H133.addNil 72 41 opCh
  have H135 := H134.deepNil stampCh 2 (fun x : OpS => x.oh) (fun x : OpS => x.over)
  refine W_loop (fun m136 e137 w138 => ∃ (j : Nat), ∃ (oacc : List OpS), ∃ (S : Nat → Prop), ∃ (rr2 : RdS), ∃ (rq2 : List UInt8 × Bool), ∃ (ho : SlH), m136 = (rdNum (rdNum (rdNum rq 1099511627776).2 65536).2 64).1 - j ∧ (j ≤ (rdNum (rdNum (rdNum rq 1099511627776).2 65536).2 64).1) ∧ ((rdNum (rdNum (rdNum rq 1099511627776).2 65536).2 64).1 ≤ 64) ∧ (oacc.length ≤ j) ∧ (∀ x ∈ oacc, x.name.size ≤ 9223372036854775807) ∧ (∀ b, S b → w.heap.size ≤ b) ∧ (rr2.st = rq2) ∧ (rdOps ((rdNum (rdNum (rdNum rq 1099511627776).2 65536).2 64).1 - j) (oacc.map OpS.core) rq2 = rdOps (rdNum (rdNum (rdNum rq 1099511627776).2 65536).2 64).1 [] (rdNum (rdNum (rdNum rq 1099511627776).2 65536).2 64).2) ∧ ∃ eb139, e137 = envL [(2, (.pointer (some ⟨b2, 0, none⟩))), (3, (.bool false)), (6, (.pointer (some ⟨b29, 0, none⟩))), (14, (.int .i64 (((rdNum ((rdNum ((rdNum rq 1099511627776).2) 65536).2) 64).1) : Int))), (15, (.pointer (some ⟨b120, 0, none⟩))), (16, (.int .i64 (j : Int)))] eb139 ∧ Ctx w nob w138 [rowR 72 41 opCh ho oacc, boxR b120 110 [[(slV rr2.bh rr2.b)], [(.bool rr2.bad)]], boxR b105 110 [[(slV x98.bh x98.b)], [(.bool x98.bad)]], boxR b90 110 [[(slV x83.bh x83.b)], [(.bool x83.bad)]], rowR 45 32 idCh hp pacc, boxR b29 47 [[(slV hp pacc)], [(.int .i64 (((rdNum rq 1099511627776).1) : Int))], [(.int .i64 (((rdNum ((rdNum rq 1099511627776).2) 65536).1) : Int))], [(slV ho oacc)], (idCells zeroId), [(.string ByteArray.empty)]], boxR b21 110 [[(slV rr.bh rr.b)], [(.bool rr.bad)]], boxR b2 47 [[(.slice none 0 0)], [(.int .i64 0)], [(.int .i64 0)], [(.slice none 0 0)], (idCells zeroId), [(.string ByteArray.empty)]]] [deepI S stampCh 2 (fun x : OpS => x.oh) (fun x : OpS => x.over) oacc, slI (Old w) encB 1 rr2.bh rr2.b, slI (Old w) encB 1 x98.bh x98.b, slI (Old w) encB 1 x83.bh x83.b, slI (Old w) encB 1 rr.bh rr.b, slI (Old w) encB 1 x7.bh x7.b, slI (Old w) encB 1 hb b]) _ ⟨0, [], nob, x113, ((rdNum (rdNum (rdNum rq 1099511627776).2 65536).2 64).2), nilH, rfl, (by omega), (rdNum_le _ (by decide)), (by simp), (fun _ h => (nomatch h)), (fun _ h => h.elim), hr116, rfl, _, envL_self ⟨rfl, rfl, rfl, rfl, rfl, rfl, trivial⟩, H135⟩ ?_
  rintro m136 _ w138 ⟨j, oacc, S, rr2, rq2, ho, rfl, hj, hm2, hal2, hnm, hS, hrr2, hgo2, eb139, rfl, H140⟩
  refine W_seq (W_seq ?_)
  refine W_rg [(0, .q 0), (1, .q 0), (2, .q 0), (3, .q 0), (4, .q 0), (5, .q 0), (6, .q 0), (7, .q 0)] (by kernel_rfl) ?_
  refine Lx_mv (v := (.int .i64 (j : Int))) rfl rfl rfl (Lx_mv (v := (.int .i64 (((rdNum ((rdNum ((rdNum rq 1099511627776).2) 65536).2) 64).1) : Int))) rfl rfl rfl (Lx_q rfl rfl _ (fun v145 hv146 => R_cmp (a := (j : Int)) (b := (((rdNum ((rdNum ((rdNum rq 1099511627776).2) 65536).2) 64).1) : Int)) (r := (decide ((j : Int) < (((rdNum ((rdNum ((rdNum rq 1099511627776).2) 65536).2) 64).1) : Int)))) rfl rfl rfl qk) (Lx_mv (v := (.bool (decide ((j : Int) < (((rdNum ((rdNum ((rdNum rq 1099511627776).2) 65536).2) 64).1) : Int))))) rfl rfl rfl ?_)))
  refine Lx_qt rfl rfl rfl rfl rfl _ (fun hA v149 hv150 => R_fieldAddr (off := 1) (oo := 1) Tryz.underlying110 rfl rfl Tryz.sizeOf4 rfl rfl qk) (Lx_qt rfl rfl rfl rfl rfl _ (fun hA v151 hv152 => R_load1 (v := (.bool rr2.bad)) Tryz.isAgg4 (gv_t hA) ((H140.ext hv152).bx 1 rfl 1 1 1 1 _ rfl rfl rfl) qk) (Lx_qt rfl rfl rfl rfl rfl _ (fun hA v153 hv154 => R_not (gv_t hA) qk) (Lx_q rfl rfl _ (fun v155 hv156 => R_pick rfl pk_and qk) ?_)))
  refine Lx_nil (fun w157 hw158 => ?_)
  have H159 := H140.ext hw158
  refine Then_n ?_
  refine W_cond rfl (fun hc160 => ?_) (fun hc160 => ?_)
  ·have hc160 : (((j : Int) < (((rdNum ((rdNum ((rdNum rq 1099511627776).2) 65536).2) 64).1) : Int)) ∧ rr2.bad = false) := (And.imp (fun h => (of_decide_eq_true h)) (fun h => (notT h)) (andT hc160))
   refine W_skip (Then_n (W_seq (W_block (W_seq (W_reg ?_)))))
   refine O_v rfl (R_loadA (cs := [[(slV rr2.bh rr2.b)], [(.bool rr2.bad)]]) Tryz.isAgg110 Tryz.sizeOf110 rfl rfl (H159.bx 1 rfl 0 2 0 0 _ rfl rfl rfl) ?_)
   refine O_v rfl (R_callL (vs := [(aggOf (rdCh rr2))]) cF77 rfl rfl ((ref03_Get rr2 (Old w) rq2 w157 (H159.sl 1 rfl) (H159.imm _ (List.mem_of_getElem? (i := 1) rfl)).2 hrr2).ret ?_))
   rintro _ w162 ⟨x168, x161, rfl, hx163, ho169, hx170, hr164, hs165⟩
   have H166 := H159.addRow hx163 ho169
   have H167 := H166.immOf 1 rfl (slI (Old w) encB 1 x161.bh x161.b) (fun _ h => h) (fun _ => hs165)
   refine O_mv (v := (.tuple #[(aggOf (opCh x168)), (aggOf (rdCh x161))])) rfl rfl (O_ex (v := (aggOf (opCh x168))) rfl rfl rfl (O_ex (v := (aggOf (rdCh x161))) rfl rfl rfl ?_))
   refine O_v rfl (C_alloc H167 [[(.int .i64 0)], [(.int .i64 0)], [(.int .i64 0)], [(.int .i64 0)], [(.int .i64 0)], [(.int .i64 0)], [(.int .i64 0)], [(.string ByteArray.empty)], (idCells zeroId), [(.slice none 0 0)]] Tryz.zeroValue72 ?_)
   intro b171 w172 hb173 hx174 H175
   refine O_v rfl (C_alloc H175 [[(.slice none 0 0)], [(.bool false)]] Tryz.zeroValue110 ?_)
   intro b176 w177 hb178 hx179 H180
   refine O_u (C_storeW H180 1 rfl (sub := [[(.int .i64 x168.kind)], [(.int .i64 x168.tm.T)], [(.int .i64 x168.tm.R)], [(.int .i64 x168.node.T)], [(.int .i64 x168.node.R)], [(.int .i64 x168.par.T)], [(.int .i64 x168.par.R)], [(.string x168.name)], (idCells x168.data), [(slV x168.oh x168.over)]]) Tryz.sizeOf72 rfl rfl rfl rfl rfl ?_)
   intro w181 hg182 H183
   refine O_u (C_storeW H183 0 rfl (sub := [[(slV x161.bh x161.b)], [(.bool x161.bad)]]) Tryz.sizeOf110 rfl rfl rfl rfl rfl ?_)
   intro w184 hg185 H186
   refine O_nil (Then_n (W_seq (W_reg ?_)))
   refine O_v rfl (R_fieldAddr (off := 3) (oo := 3) Tryz.underlying47 rfl rfl Tryz.sizeOf43 rfl rfl ?_)
   refine O_v rfl (R_load1 (v := (slV ho oacc)) Tryz.isAgg43 rfl (H186.bx 8 rfl 3 1 3 3 _ rfl rfl rfl) ?_)
   refine O_v rfl (R_loadA (cs := [[(.int .i64 x168.kind)], [(.int .i64 x168.tm.T)], [(.int .i64 x168.tm.R)], [(.int .i64 x168.node.T)], [(.int .i64 x168.node.R)], [(.int .i64 x168.par.T)], [(.int .i64 x168.par.R)], [(.string x168.name)], (idCells x168.data), [(slV x168.oh x168.over)]]) Tryz.isAgg72 Tryz.sizeOf72 rfl rfl (H186.bx 1 rfl 0 10 0 0 _ rfl rfl rfl) ?_)
   refine O_v rfl (C_buildSliceL H186 (enc := opCh) (val := opV) ([x168] : List OpS) Tryz.underlying43 Tryz.sizeOf72 Tryz.zeroValue72 rfl (by decide) (fun _ => rfl) (fun _ => rfl) rfl rfl (by decide) ?_)
   intro b187 w188 hb189 hx190 H191
   refine O_v rfl (C_append H191 4 rfl (bytes := 128) (l := oacc) (ys := ([x168] : List OpS)) Tryz.underlying43 rfl rfl rfl rfl rfl (by decide) rfl rfl (OwnS.sl (H191.getOwn 0 rfl) (fun _ => rfl)) (fun _ => rfl) (fun _ => rfl) (by simp only [List.length_append, List.length_cons, List.length_nil]; omega) (by decide) ?_)
   intro h192 w193 hg194 H195
   refine O_v rfl (R_fieldAddr (off := 3) (oo := 3) Tryz.underlying47 rfl rfl Tryz.sizeOf43 rfl rfl ?_)
   refine O_u (C_store1 H195 9 rfl 3 (v := (slV h192 (oacc ++ ([x168] : List OpS)))) [[(slV hp pacc)], [(.int .i64 (((rdNum rq 1099511627776).1) : Int))], [(.int .i64 (((rdNum ((rdNum rq 1099511627776).2) 65536).1) : Int))], [(slV h192 (oacc ++ ([x168] : List OpS)))], (idCells zeroId), [(.string ByteArray.empty)]] Tryz.sizeOf43 rfl rfl rfl rfl rfl rfl rfl ?_)
   intro w196 hg197 H198
   refine O_nil (Then_n (W_reg ?_))
   refine O_v rfl (R_loadA (cs := [[(slV x161.bh x161.b)], [(.bool x161.bad)]]) Tryz.isAgg110 Tryz.sizeOf110 rfl rfl (H198.bx 1 rfl 0 2 0 0 _ rfl rfl rfl) ?_)
   refine O_u (C_storeW H198 5 rfl (sub := [[(slV x161.bh x161.b)], [(.bool x161.bad)]]) Tryz.sizeOf110 rfl rfl rfl rfl rfl ?_)
   intro w199 hg200 H201
   refine O_nil (Blk_n (Then_n (W_reg ?_)))
   refine O_mv (v := (.int .i64 (j : Int))) rfl rfl ?_
   refine O_v rfl (R_arith (a := (j : Int)) (b := 1) (r0 := (j : Int) + 1) (r := ((j + 1 : Nat) : Int)) rfl rfl rfl (wrapN _ (by omega)) ?_)
   refine O_as (v := (.int .i64 ((j + 1 : Nat) : Int))) rfl rfl ?_
   refine O_nil (Then_n ?_)
   have H202 := H201.freeze 3 rfl (fun _ => rfl)
   have H203 := H202.deepSnoc 2 rfl 0 rfl (x168) rfl rfl
   have H204 := H203.sub (List.Sublist.cons _ (List.Sublist.cons _ (List.Sublist.cons _ (List.Sublist.cons_cons _ (List.Sublist.cons_cons _ (List.Sublist.cons_cons _ (List.Sublist.cons_cons _ (List.Sublist.cons_cons _ (List.Sublist.cons_cons _ (List.Sublist.cons_cons _ (List.Sublist.cons_cons _ List.Sublist.slnil))))))))))) (List.forall_mem_cons.2 ⟨List.mem_of_getElem? (i := 0) rfl, List.forall_mem_cons.2 ⟨List.mem_of_getElem? (i := 2) rfl, List.forall_mem_cons.2 ⟨List.mem_of_getElem? (i := 5) rfl, List.forall_mem_cons.2 ⟨List.mem_of_getElem? (i := 6) rfl, List.forall_mem_cons.2 ⟨List.mem_of_getElem? (i := 7) rfl, List.forall_mem_cons.2 ⟨List.mem_of_getElem? (i := 8) rfl, List.forall_mem_cons.2 ⟨List.mem_of_getElem? (i := 9) rfl, memN⟩⟩⟩⟩⟩⟩⟩)
   refine ⟨_, ?_, (j + 1), (oacc ++ ([x168] : List OpS)), (fun b => S b ∨ (fun z_ => (slV x168.oh x168.over).ownBlock = some z_) b), x161, ((rdOp rq2).2), h192, rfl, (by omega), hm2, (by simp only [List.length_append, List.length_cons, List.length_nil]; omega), (names_snoc hnm (op_name hx170)), (fun b hb => hb.elim (hS b) (H201.newRow 3 rfl b)), hr164, (ops_next hgo2 (by omega) hx170), _, envL_self ⟨rfl, rfl, rfl, rfl, rfl, rfl, trivial⟩, H204⟩
   omega
  ·have hc160 : (¬ ((j : Int) < (((rdNum ((rdNum ((rdNum rq 1099511627776).2) 65536).2) 64).1) : Int)) ∨ rr2.bad = true) := (Or.imp (fun h => (of_decide_eq_false h)) (fun h => (notF h)) (andF hc160))
   refine W_exit (Then_x (Then_x (Blk_x (Then_n (W_seq (W_reg ?_))))))
   refine O_v rfl (R_loadA (cs := [[(slV rr2.bh rr2.b)], [(.bool rr2.bad)]]) Tryz.isAgg110 Tryz.sizeOf110 rfl rfl (H159.bx 1 rfl 0 2 0 0 _ rfl rfl rfl) ?_)
   refine O_v rfl (R_callL (vs := [(aggOf (rdCh rr2))]) cF76 rfl rfl ((ref02_GetId rr2 (Old w) rq2 w157 (H159.sl 1 rfl) (H159.imm _ (List.mem_of_getElem? (i := 1) rfl)).2 hrr2).ret ?_))
   rintro _ w206 ⟨x205, rfl, hx207, hr208, hs209⟩
   have H210 := H159.ext hx207
   have H211 := H210.immOf 1 rfl (slI (Old w) encB 1 x205.bh x205.b) (fun _ h => h) (fun _ => hs209)
   refine O_mv (v := (.tuple #[(aggOf (idCh ((rdId rq2).1))), (aggOf (rdCh x205))])) rfl rfl (O_ex (v := (aggOf (idCh ((rdId rq2).1)))) rfl rfl rfl (O_ex (v := (aggOf (rdCh x205))) rfl rfl rfl ?_))
   refine O_v rfl (C_alloc H211 [(idCells zeroId)] Tryz.zeroValue44 ?_)
   intro b212 w213 hb214 hx215 H216
   refine O_v rfl (C_alloc H216 [[(.slice none 0 0)], [(.bool false)]] Tryz.zeroValue110 ?_)
   intro b217 w218 hb219 hx220 H221
   refine O_u (C_storeW H221 1 rfl (sub := [(idCells ((rdId rq2).1))]) Tryz.sizeOf44 rfl rfl rfl rfl rfl ?_)
   intro w222 hg223 H224
   refine O_u (C_storeW H224 0 rfl (sub := [[(slV x205.bh x205.b)], [(.bool x205.bad)]]) Tryz.sizeOf110 rfl rfl rfl rfl rfl ?_)
   intro w225 hg226 H227
   refine O_nil (Then_n (W_seq (W_reg ?_)))
   refine O_v rfl (R_loadA (cs := [[(slV x205.bh x205.b)], [(.bool x205.bad)]]) Tryz.isAgg110 Tryz.sizeOf110 rfl rfl (H227.bx 0 rfl 0 2 0 0 _ rfl rfl rfl) ?_)
   refine O_v rfl (R_callL (vs := [(aggOf (rdCh x205)), (.int .i64 200)]) cF78 rfl rfl ((ref02_GetText x205 (Old w) ((rdId rq2).2) 200 w225 (H227.sl 0 rfl) (H227.imm _ (List.mem_of_getElem? (i := 0) rfl)).2 hr208).ret ?_))
   rintro _ w229 ⟨x228, rfl, hx230, hr231, hs232⟩
   have H233 := H227.ext hx230
   have H234 := H233.immOf 0 rfl (slI (Old w) encB 1 x228.bh x228.b) (fun _ h => h) (fun _ => hs232)
   refine O_mv (v := (.tuple #[(.string ((rdText ((rdId rq2).2) 200).1)), (aggOf (rdCh x228))])) rfl rfl (O_ex (v := (.string ((rdText ((rdId rq2).2) 200).1))) rfl rfl rfl (O_ex (v := (aggOf (rdCh x228))) rfl rfl rfl ?_))
   refine O_v rfl (C_alloc H234 [[(.slice none 0 0)], [(.bool false)]] Tryz.zeroValue110 ?_)
   intro b235 w236 hb237 hx238 H239
   refine O_as (v := (.string ((rdText ((rdId rq2).2) 200).1))) rfl rfl ?_
   refine O_u (C_storeW H239 0 rfl (sub := [[(slV x228.bh x228.b)], [(.bool x228.bad)]]) Tryz.sizeOf110 rfl rfl rfl rfl rfl ?_)
   intro w240 hg241 H242
   refine O_nil (Then_n (W_seq (W_reg ?_)))
   refine O_v rfl (R_loadA (cs := [(idCells ((rdId rq2).1))]) Tryz.isAgg44 Tryz.sizeOf44 rfl rfl (H242.bx 2 rfl 0 1 0 0 _ rfl rfl rfl) ?_)
   refine O_v rfl (R_fieldAddr (off := 4) (oo := 4) Tryz.underlying47 rfl rfl Tryz.sizeOf45 rfl rfl ?_)
   refine O_u (C_storeA H242 8 rfl 4 (sub := [(idCells ((rdId rq2).1))]) [[(slV hp pacc)], [(.int .i64 (((rdNum rq 1099511627776).1) : Int))], [(.int .i64 (((rdNum ((rdNum rq 1099511627776).2) 65536).1) : Int))], [(slV ho oacc)], (idCells ((rdId rq2).1)), [(.string ByteArray.empty)]] Tryz.sizeOf45 rfl rfl rfl rfl ⟨[(idCells zeroId)], [[(.string ByteArray.empty)]], rfl, rfl, rfl⟩ rfl ?_)
   intro w243 hg244 H245
   refine O_nil (Then_n (W_seq (W_reg ?_)))
   refine O_mv (v := (.string ((rdText ((rdId rq2).2) 200).1))) rfl rfl ?_
   refine O_v rfl (R_fieldAddr (off := 36) (oo := 36) Tryz.underlying47 rfl rfl Tryz.sizeOf9 rfl rfl ?_)
   refine O_u (C_store1 H245 8 rfl 5 (v := (.string ((rdText ((rdId rq2).2) 200).1))) [[(slV hp pacc)], [(.int .i64 (((rdNum rq 1099511627776).1) : Int))], [(.int .i64 (((rdNum ((rdNum rq 1099511627776).2) 65536).1) : Int))], [(slV ho oacc)], (idCells ((rdId rq2).1)), [(.string ((rdText ((rdId rq2).2) 200).1))]] Tryz.sizeOf9 rfl rfl rfl rfl rfl rfl rfl ?_)
   intro w246 hg247 H248
   refine O_nil (Then_n (W_seq (W_seq ?_)))
   refine W_rg [(0, .q 0), (1, .q 0), (2, .q 0), (3, .q 0), (4, .q 0), (5, .q 0), (6, .q 0), (7, .q 0)] (by kernel_rfl) ?_
   refine Lx_q rfl rfl _ (fun v249 hv250 => R_loadA (cs := [[(slV x228.bh x228.b)], [(.bool x228.bad)]]) Tryz.isAgg110 Tryz.sizeOf110 rfl rfl ((H248.ext hv250).bx 0 rfl 0 2 0 0 _ rfl rfl rfl) qk) (Lx_q rfl rfl (.bool (rdDone ((rdText ((rdId rq2).2) 200).2))) (fun v251 hv252 => R_callL (vs := [(aggOf (rdCh x228))]) cF75 rfl rfl (ref02_Done x228 (Old w) ((rdText ((rdId rq2).2) 200).2) v251 ((H248.ext hv252).sl 0 rfl) ((H248.ext hv252).imm _ (List.mem_of_getElem? (i := 0) rfl)).2 hr231)) (Lx_q rfl rfl _ (fun v253 hv254 => R_not rfl qk) (Lx_mv (v := (.bool (!(rdDone ((rdText ((rdId rq2).2) 200).2))))) rfl rfl rfl ?_)))
   refine Lx_qf rfl rfl rfl rfl rfl _ (fun hA v257 hv258 => R_loadA (cs := [[(slV hp pacc)], [(.int .i64 (((rdNum rq 1099511627776).1) : Int))], [(.int .i64 (((rdNum ((rdNum rq 1099511627776).2) 65536).1) : Int))], [(slV ho oacc)], (idCells ((rdId rq2).1)), [(.string ((rdText ((rdId rq2).2) 200).1))]]) Tryz.isAgg47 Tryz.sizeOf47 rfl rfl ((H248.ext hv258).bx 8 rfl 0 6 0 0 _ rfl rfl rfl) qk) (Lx_qf rfl rfl rfl rfl rfl (.bool (changeOk ({ parents := pacc, ph := hp, time := (((rdNum rq 1099511627776).1) : Int), r := (((rdNum ((rdNum rq 1099511627776).2) 65536).1) : Int), ops := oacc, oh := ho, tree := (rdId rq2).1, msg := (rdText ((rdId rq2).2) 200).1 } : ChangeS))) (fun hA v259 hv260 => R_callL (vs := [(aggOf [[(slV hp pacc)], [(.int .i64 (((rdNum rq 1099511627776).1) : Int))], [(.int .i64 (((rdNum ((rdNum rq 1099511627776).2) 65536).1) : Int))], [(slV ho oacc)], (idCells ((rdId rq2).1)), [(.string ((rdText ((rdId rq2).2) 200).1))]])]) cF24 rfl (lst1 (gv_t hA)) (ref04_RightChange ({ parents := pacc, ph := hp, time := (((rdNum rq 1099511627776).1) : Int), r := (((rdNum ((rdNum rq 1099511627776).2) 65536).1) : Int), ops := oacc, oh := ho, tree := (rdId rq2).1, msg := (rdText ((rdId rq2).2) 200).1 } : ChangeS) v259 ((H248.ext hv260).rowSl 7 rfl (fun _ => rfl)) ((H248.ext hv260).rowSl 3 rfl (fun _ => rfl)) ((H248.ext hv260).deepOld 2 rfl) hnm)) (Lx_qf rfl rfl rfl rfl rfl _ (fun hA v261 hv262 => R_not (gv_t hA) qk) (Lx_q rfl rfl _ (fun v263 hv264 => R_pick rfl pk_or qk) ?_)))
   refine Lx_nil (fun w265 hw266 => ?_)
   have H267 := H248.ext hw266
   refine Then_n ?_
   refine W_cond rfl (fun hc268 => ?_) (fun hc268 => ?_)
   ·have hc268 : ((rdDone ((rdText ((rdId rq2).2) 200).2)) = false ∨ (changeOk ({ parents := pacc, ph := hp, time := (((rdNum rq 1099511627776).1) : Int), r := (((rdNum ((rdNum rq 1099511627776).2) 65536).1) : Int), ops := oacc, oh := ho, tree := (rdId rq2).1, msg := (rdText ((rdId rq2).2) 200).1 } : ChangeS)) = false) := (Or.imp (fun h => (notT h)) (fun h => (notT h)) (orT hc268))
    refine W_seq (W_reg ?_)
    refine O_v rfl (R_buildL (vs := []) (v := aggOf [[(.slice none 0 0)], [(.int .i64 0)], [(.int .i64 0)], [(.slice none 0 0)], (idCells zeroId), [(.string ByteArray.empty)]]) rfl (fun _ => by kernel_rfl) ?_)
    refine O_u (C_storeW H267 10 rfl (sub := [[(.slice none 0 0)], [(.int .i64 0)], [(.int .i64 0)], [(.slice none 0 0)], (idCells zeroId), [(.string ByteArray.empty)]]) Tryz.sizeOf47 rfl rfl rfl rfl rfl ?_)
    intro w269 hg270 H271
    refine O_as (v := (.bool false)) rfl rfl ?_
    refine O_nil (Then_n (W_ret (Then_r ?_)))
    refine ret_ct (v := (.bool false)) Tryz.results33 (inMem (cs := [[(.slice none 0 0)], [(.int .i64 0)], [(.int .i64 0)], [(.slice none 0 0)], (idCells zeroId), [(.string ByteArray.empty)]]) rfl Tryz.isAgg47 Tryz.sizeOf47 rfl (boxR_at (H271.getOwn 10 rfl))) rfl ?_
    exact ⟨({ parents := [], ph := nilH, time := 0, r := 0, ops := [], oh := nilH, tree := zeroId, msg := ByteArray.empty } : ChangeS), (fun z_ => nob z_ ∨ nob z_ ∨ nob z_), (bool_val (changeR_no (ids_end hgo (by omega)) hgo2 hrr2 hc160 rfl hc268).1), H271.gr, fun b hb => ⟨(hb.elim ((fun h => h.elim)) (fun h => h.elim ((fun h => h.elim)) ((fun h => h.elim)))), (hb.elim ((fun h => h.elim)) (fun h => h.elim ((fun h => h.elim)) ((fun h => h.elim))))⟩, (Sl.nil _ _ _ _), (Sl.nil _ _ _ _), (fun _ h => (nomatch h)), (changeR_no (ids_end hgo (by omega)) hgo2 hrr2 hc160 rfl hc268).2⟩
   ·have hc268 : ((rdDone ((rdText ((rdId rq2).2) 200).2)) = true ∧ (changeOk ({ parents := pacc, ph := hp, time := (((rdNum rq 1099511627776).1) : Int), r := (((rdNum ((rdNum rq 1099511627776).2) 65536).1) : Int), ops := oacc, oh := ho, tree := (rdId rq2).1, msg := (rdText ((rdId rq2).2) 200).1 } : ChangeS)) = true) := (And.imp (fun h => (notF h)) (fun h => (notF h)) (orF hc268))
    refine W_skip (Then_n (W_seq (W_reg ?_)))
    refine O_v rfl (R_loadA (cs := [[(slV hp pacc)], [(.int .i64 (((rdNum rq 1099511627776).1) : Int))], [(.int .i64 (((rdNum ((rdNum rq 1099511627776).2) 65536).1) : Int))], [(slV ho oacc)], (idCells ((rdId rq2).1)), [(.string ((rdText ((rdId rq2).2) 200).1))]]) Tryz.isAgg47 Tryz.sizeOf47 rfl rfl (H267.bx 8 rfl 0 6 0 0 _ rfl rfl rfl) ?_)
    refine O_u (C_storeW H267 10 rfl (sub := [[(slV hp pacc)], [(.int .i64 (((rdNum rq 1099511627776).1) : Int))], [(.int .i64 (((rdNum ((rdNum rq 1099511627776).2) 65536).1) : Int))], [(slV ho oacc)], (idCells ((rdId rq2).1)), [(.string ((rdText ((rdId rq2).2) 200).1))]]) Tryz.sizeOf47 rfl rfl rfl rfl rfl ?_)
    intro w272 hg273 H274
    refine O_as (v := (.bool true)) rfl rfl ?_
    refine O_nil (Then_n (W_ret ?_))
    refine ret_ct (v := (.bool true)) Tryz.results33 (inMem (cs := [[(slV hp pacc)], [(.int .i64 (((rdNum rq 1099511627776).1) : Int))], [(.int .i64 (((rdNum ((rdNum rq 1099511627776).2) 65536).1) : Int))], [(slV ho oacc)], (idCells ((rdId rq2).1)), [(.string ((rdText ((rdId rq2).2) 200).1))]]) rfl Tryz.isAgg47 Tryz.sizeOf47 rfl (boxR_at (H274.getOwn 10 rfl))) rfl ?_
    have hn275 := H274.newRow 7 rfl
    have H276 := H274.freeze 7 rfl (fun _ => rfl)
    have hn277 := H276.newRow 3 rfl
    have H278 := H276.freeze 3 rfl (fun _ => rfl)
    exact ⟨({ parents := pacc, ph := hp, time := (((rdNum rq 1099511627776).1) : Int), r := (((rdNum ((rdNum rq 1099511627776).2) 65536).1) : Int), ops := oacc, oh := ho, tree := (rdId rq2).1, msg := (rdText ((rdId rq2).2) 200).1 } : ChangeS), (fun z_ => (fun z_ => (slV hp pacc).ownBlock = some z_) z_ ∨ (fun z_ => (slV ho oacc).ownBlock = some z_) z_ ∨ S z_), (bool_val (changeR_yes (ids_end hgo (by omega)) hgo2 hrr2 hc160 rfl hc268).1), H278.gr, fun b hb => ⟨(hb.elim (hn275 b) (fun h => h.elim (hn277 b) (hS b))), (hb.elim ((H278.imm _ (List.mem_of_getElem? (i := 1) rfl)).2 b) (fun h => h.elim ((H278.imm _ (List.mem_of_getElem? (i := 0) rfl)).2 b) ((H278.imm _ (List.mem_of_getElem? (i := 4) rfl)).2 b)))⟩, ((H278.sl 1 rfl).mono (fun _ h => .inl h)), ((H278.sl 0 rfl).mono (fun _ h => .inr (.inl h))), (fun o ho => ((H278.getImm 4 rfl) o ho).mono (fun _ h => .inr (.inr h))), (changeR_yes (ids_end hgo (by omega)) hgo2 hrr2 hc160 rfl hc268).2⟩
set_option maxHeartbeats 1000000 in
theorem ref04_rightItem (x : ItemS) (w : World) (Sx_heads : Sl (Old w) headCh 34 x.hh x.heads w) (hl : x.name.size ≤ 9223372036854775807) :
    Calls Tryz.prog 43 #[(aggOf (itemCh x))] w (Ret fun v w' => v = (.bool (itemOkS x)) ∧ Ext w w') := by
 refine calls_W Tryz.func43 rfl Tryz.ntmps43 rfl ?_
 have H0 := Ctx.start w nob
 have H1 := H0.addSl _ Sx_heads (fun b hb => ⟨hb, fun _ ho => (nomatch ho)⟩)
 have LSx_heads := Sx_heads.len
 refine W_seq (W_reg ?_)
 refine O_v rfl (C_box H1 [[(.int .i64 x.node.T)], [(.int .i64 x.node.R)], [(.int .i64 x.tm.T)], [(.int .i64 x.tm.R)], [(.string x.name)], (idCells x.sub), [(slV x.hh x.heads)]] rfl ?_)
 intro b2 w3 hb4 hx5 H6
 refine O_as (v := (.bool false)) rfl rfl ?_
 refine O_nil (Then_n (W_seq (W_seq ?_)))
 refine W_rg [(0, .q 0), (1, .q 0), (2, .q 0), (3, .q 0), (4, .q 0), (5, .q 0), (6, .q 0), (7, .q 0), (8, .q 0), (9, .q 0), (10, .q 0), (11, .q 0), (12, .q 0), (13, .q 0), (14, .q 0), (15, .q 0), (16, .q 0), (17, .q 0), (18, .q 0), (19, .q 0), (20, .q 0), (21, .q 0), (22, .q 0), (23, .q 0), (24, .q 0), (25, .q 0), (26, .q 0), (27, .q 0), (28, .q 0), (29, .q 0)] (by kernel_rfl) ?_
 refine Lx_q rfl rfl _ (fun v7 hv8 => R_fieldAddr (off := 0) (oo := 0) Tryz.underlying77 rfl rfl Tryz.sizeOf69 rfl rfl qk) (Lx_q rfl rfl _ (fun v9 hv10 => R_loadA (cs := [[(.int .i64 x.node.T)], [(.int .i64 x.node.R)]]) Tryz.isAgg69 Tryz.sizeOf69 rfl rfl ((H6.ext hv10).bx 0 rfl 0 2 0 0 _ rfl rfl rfl) qk) (Lx_q rfl rfl (.bool (stRight x.node)) (fun v11 hv12 => R_callL (vs := [(aggOf (stampCh x.node))]) cF62 rfl rfl (ref03_Right x.node v11 )) (Lx_q rfl rfl _ (fun v13 hv14 => R_not rfl qk) ?_)))
 refine Lx_mv (v := (.bool (!(stRight x.node)))) rfl rfl rfl (Lx_qf rfl rfl rfl rfl rfl _ (fun hA v17 hv18 => R_fieldAddr (off := 2) (oo := 2) Tryz.underlying77 rfl rfl Tryz.sizeOf69 rfl rfl qk) (Lx_qf rfl rfl rfl rfl rfl _ (fun hA v19 hv20 => R_loadA (cs := [[(.int .i64 x.tm.T)], [(.int .i64 x.tm.R)]]) Tryz.isAgg69 Tryz.sizeOf69 rfl (gv_t hA) ((H6.ext hv20).bx 0 rfl 2 2 2 2 _ rfl rfl rfl) qk) (Lx_qf rfl rfl rfl rfl rfl (.bool (stRight x.tm)) (fun hA v21 hv22 => R_callL (vs := [(aggOf (stampCh x.tm))]) cF62 rfl (lst1 (gv_t hA)) (ref03_Right x.tm v21 )) ?_)))
 refine Lx_qf rfl rfl rfl rfl rfl _ (fun hA v23 hv24 => R_not (gv_t hA) qk) (Lx_q rfl rfl _ (fun v25 hv26 => R_pick rfl pk_or qk) (Lx_mv (v := (.bool ((!(stRight x.node)) || (!(stRight x.tm))))) rfl rfl rfl (Lx_qf rfl rfl rfl rfl rfl _ (fun hA v29 hv30 => R_fieldAddr (off := 2) (oo := 2) Tryz.underlying77 rfl rfl Tryz.sizeOf69 rfl rfl qk) ?_)))
 refine Lx_qf rfl rfl rfl rfl rfl _ (fun hA v31 hv32 => R_loadA (cs := [[(.int .i64 x.tm.T)], [(.int .i64 x.tm.R)]]) Tryz.isAgg69 Tryz.sizeOf69 rfl (gv_t hA) ((H6.ext hv32).bx 0 rfl 2 2 2 2 _ rfl rfl rfl) qk) (Lx_qf rfl rfl rfl rfl rfl _ (fun hA v33 hv34 => R_fieldAddr (off := 0) (oo := 0) Tryz.underlying77 rfl rfl Tryz.sizeOf69 rfl rfl qk) (Lx_qf rfl rfl rfl rfl rfl _ (fun hA v35 hv36 => R_loadA (cs := [[(.int .i64 x.node.T)], [(.int .i64 x.node.R)]]) Tryz.isAgg69 Tryz.sizeOf69 rfl (gv_t hA) ((H6.ext hv36).bx 0 rfl 0 2 0 0 _ rfl rfl rfl) qk) (Lx_qf rfl rfl rfl rfl rfl (.int .i64 (cmpSt x.tm x.node)) (fun hA v37 hv38 => R_callL (vs := [(aggOf (stampCh x.tm)), (aggOf (stampCh x.node))]) cF44 rfl (lst2 (gv_t hA) (gv_t hA)) (ref03_Cmp x.tm x.node v37 )) ?_)))
 refine Lx_qf rfl rfl rfl rfl rfl _ (fun hA v39 hv40 => R_cmp (a := cmpSt x.tm x.node) (b := 0) (r := (decide (cmpSt x.tm x.node < 0))) (gv_t hA) rfl rfl qk) (Lx_q rfl rfl _ (fun v41 hv42 => R_pick rfl pk_or qk) (Lx_mv (v := (.bool (((!(stRight x.node)) || (!(stRight x.tm))) || (decide (cmpSt x.tm x.node < 0))))) rfl rfl rfl (Lx_qf rfl rfl rfl rfl rfl _ (fun hA v45 hv46 => R_fieldAddr (off := 4) (oo := 4) Tryz.underlying77 rfl rfl Tryz.sizeOf9 rfl rfl qk) ?_)))
 refine Lx_qf rfl rfl rfl rfl rfl _ (fun hA v47 hv48 => R_load1 (v := (.string x.name)) Tryz.isAgg9 (gv_t hA) ((H6.ext hv48).bx 0 rfl 4 1 4 4 _ rfl rfl rfl) qk) ?_
 refine Lx_qf rfl rfl rfl rfl rfl (.bool (nameOk x.name)) (fun hA v49 hv50 => by
      have hP : (((stRight x.node) = true ∧ (stRight x.tm) = true) ∧ ¬ (cmpSt x.tm x.node < 0)) := (And.imp (fun h => (And.imp (fun h => (notF h)) (fun h => (notF h)) (orF h))) (fun h => (of_decide_eq_false h)) (orF (notT hA)))
      exact R_callL (vs := [(.string x.name)]) cF71 rfl (lst1 (gv_t hA)) (ref03_Name x.name v49 (by omega))) ?_
 refine Lx_qf rfl rfl rfl rfl rfl _ (fun hA v51 hv52 => R_not (gv_t hA) qk) (Lx_q rfl rfl _ (fun v53 hv54 => R_pick rfl pk_or qk) (Lx_mv (v := (.bool ((((!(stRight x.node)) || (!(stRight x.tm))) || (decide (cmpSt x.tm x.node < 0))) || (!(nameOk x.name))))) rfl rfl rfl (Lx_qf rfl rfl rfl rfl rfl _ (fun hA v57 hv58 => R_fieldAddr (off := 37) (oo := 37) Tryz.underlying77 rfl rfl Tryz.sizeOf75 rfl rfl qk) ?_)))
 refine Lx_qf rfl rfl rfl rfl rfl _ (fun hA v59 hv60 => R_load1 (v := (slV x.hh x.heads)) Tryz.isAgg75 (gv_t hA) ((H6.ext hv60).bx 0 rfl 6 1 37 37 _ rfl rfl rfl) qk) (Lx_qf rfl rfl rfl rfl rfl _ (fun hA v61 hv62 => R_len_slice (a := x.hh.a) (n := x.heads.length) (c := x.hh.c) Tryz.underlying75 (gv_t hA) qk) (Lx_qf rfl rfl rfl rfl rfl _ (fun hA v63 hv64 => R_cmp (a := (x.heads.length : Int)) (b := 1000) (r := (decide (1000 < (x.heads.length : Int)))) (gv_t hA) rfl rfl qk) (Lx_q rfl rfl _ (fun v65 hv66 => R_pick rfl pk_or qk) ?_)))
 refine Lx_nil (fun w67 hw68 => ?_)
 have H69 := H6.ext hw68
 refine Then_n ?_
 refine W_cond rfl (fun hc70 => ?_) (fun hc70 => ?_)
 ·have hc70 : (((((stRight x.node) = false ∨ (stRight x.tm) = false) ∨ (cmpSt x.tm x.node < 0)) ∨ (nameOk x.name) = false) ∨ (1000 < (x.heads.length : Int))) := (Or.imp (fun h => (Or.imp (fun h => (Or.imp (fun h => (Or.imp (fun h => (notT h)) (fun h => (notT h)) (orT h))) (fun h => (of_decide_eq_true h)) (orT h))) (fun h => (notT h)) (orT h))) (fun h => (of_decide_eq_true h)) (orT hc70))
  refine W_seq (W_reg ?_)
  refine O_as (v := (.bool false)) rfl rfl ?_
  refine O_nil (Then_n (W_ret (Then_r ?_)))
  refine ret_1 (v := (.bool false)) Tryz.results43 rfl ?_
  exact ⟨(itemOk_f1 (by assumption)), H69.gr⟩
 ·have hc70 : (((((stRight x.node) = true ∧ (stRight x.tm) = true) ∧ ¬ (cmpSt x.tm x.node < 0)) ∧ (nameOk x.name) = true) ∧ ¬ (1000 < (x.heads.length : Int))) := (And.imp (fun h => (And.imp (fun h => (And.imp (fun h => (And.imp (fun h => (notF h)) (fun h => (notF h)) (orF h))) (fun h => (of_decide_eq_false h)) (orF h))) (fun h => (notF h)) (orF h))) (fun h => (of_decide_eq_false h)) (orF hc70))
  refine W_skip (Then_n (W_seq (W_seq (W_reg ?_))))
  refine O_as (v := (.int .i64 0)) rfl rfl ?_
  refine O_nil (Then_n (W_block ?_))
  refine W_loop (fun m71 e72 w73 => ∃ (k : Nat), m71 = x.heads.length - k ∧ (k ≤ x.heads.length) ∧ (∀ i, i < k → itemHeadOk x.node x.heads i) ∧ ∃ eb74, e72 = envL [(1, (.pointer (some ⟨b2, 0, none⟩))), (3, (.int .i64 (k : Int)))] eb74 ∧ Ctx w nob w73 [boxR b2 77 [[(.int .i64 x.node.T)], [(.int .i64 x.node.R)], [(.int .i64 x.tm.T)], [(.int .i64 x.tm.R)], [(.string x.name)], (idCells x.sub), [(slV x.hh x.heads)]]] [slI (Old w) headCh 34 x.hh x.heads]) _ ⟨0, rfl, (by omega), (all_zero _), _, envL_self ⟨rfl, rfl, trivial⟩, H69⟩ ?_
  rintro m71 _ w73 ⟨k, rfl, hk, hn, eb74, rfl, H75⟩
  refine W_seq (W_seq (W_reg ?_))
  refine O_mv (v := (.int .i64 (k : Int))) rfl rfl ?_
  refine O_v rfl (R_fieldAddr (off := 37) (oo := 37) Tryz.underlying77 rfl rfl Tryz.sizeOf75 rfl rfl ?_)
  refine O_v rfl (R_load1 (v := (slV x.hh x.heads)) Tryz.isAgg75 rfl (H75.bx 0 rfl 6 1 37 37 _ rfl rfl rfl) ?_)
  refine O_v rfl (R_len_slice (a := x.hh.a) (n := x.heads.length) (c := x.hh.c) Tryz.underlying75 rfl ?_)
  refine O_v rfl (R_cmp (a := (k : Int)) (b := (x.heads.length : Int)) (r := (decide ((k : Int) < (x.heads.length : Int)))) rfl rfl rfl ?_)
  refine O_nil (Then_n ?_)
  refine W_cond rfl (fun hc76 => ?_) (fun hc76 => ?_)
  ·have hc76 := (of_decide_eq_true hc76)
   refine W_skip (Then_n (W_seq (W_block (W_seq (W_reg ?_)))))
   refine O_v rfl (R_fieldAddr (off := 37) (oo := 37) Tryz.underlying77 rfl rfl Tryz.sizeOf75 rfl rfl ?_)
   refine O_v rfl (R_load1 (v := (slV x.hh x.heads)) Tryz.isAgg75 rfl (H75.bx 0 rfl 6 1 37 37 _ rfl rfl rfl) ?_)
   refine O_mv (v := (.int .i64 (k : Int))) rfl rfl ?_
   refine O_v rfl (R_index_pure (H75.sl 0 rfl) (n := x.heads.length) rfl (j := (k : Int)) (oo := (x.hh.o + k * 34)) Tryz.underlying75 Tryz.sizeOf84 rfl rfl (by omega) (by omega) rfl ?_)
   refine O_v rfl (R_loadA (cs := [[(.int .i64 (((nth x.heads k).tm).T))], [(.int .i64 (((nth x.heads k).tm).R))], (idCells ((nth x.heads k).data))]) Tryz.isAgg84 Tryz.sizeOf84 rfl rfl ((Sl.elem (H75.sl 0 rfl) (i := k) (by omega) rfl).chunks 0 3 0 (x.hh.o + k * 34) _ rfl rfl rfl) ?_)
   refine O_v rfl (C_alloc H75 [[(.int .i64 0)], [(.int .i64 0)], (idCells zeroId)] Tryz.zeroValue84 ?_)
   intro b77 w78 hb79 hx80 H81
   refine O_u (C_storeW H81 0 rfl (sub := [[(.int .i64 (((nth x.heads k).tm).T))], [(.int .i64 (((nth x.heads k).tm).R))], (idCells ((nth x.heads k).data))]) Tryz.sizeOf84 rfl rfl rfl rfl rfl ?_)
   intro w82 hg83 H84
   refine O_nil (Then_n (W_seq ?_))
   refine W_rgd TryzMixed [(0, .q 0), (1, .q 0), (2, .q 0), (3, .q 0), (4, .q 0), (5, .q 0), (6, .q 0), (7, .q 0), (8, .q 0), (9, .q 0), (10, .q 0), (11, .q 0), (12, .q 0), (13, .q 0), (14, .q 0), (15, .q 0), (16, .q 0), (17, .q 0), (18, .q 0), (19, .q 0), (20, .q 0), (21, .q 0), (22, .q 0), (23, .q 0), (24, .q 0), (25, .q 0), (26, .q 0), (27, .q 0), (28, .q 0), (29, .q 0), (30, .q 0), (31, .q 0), (32, .q 0), (33, .q 0)] (by kernel_rfl) ?_
   refine Lx_q rfl rfl _ (fun v85 hv86 => R_fieldAddr (off := 0) (oo := 0) Tryz.underlying84 rfl rfl Tryz.sizeOf69 rfl rfl qk) (Lx_q rfl rfl _ (fun v87 hv88 => R_loadA (cs := [[(.int .i64 (((nth x.heads k).tm).T))], [(.int .i64 (((nth x.heads k).tm).R))]]) Tryz.isAgg69 Tryz.sizeOf69 rfl rfl ((H84.ext hv88).bx 0 rfl 0 2 0 0 _ rfl rfl rfl) qk) (Lx_q rfl rfl (.bool (stRight ((nth x.heads k).tm))) (fun v89 hv90 => R_callL (vs := [(aggOf (stampCh ((nth x.heads k).tm)))]) cF62 rfl rfl (ref03_Right ((nth x.heads k).tm) v89 )) (Lx_q rfl rfl _ (fun v91 hv92 => R_not rfl qk) ?_)))
   refine Lx_mv (v := (.bool (!(stRight ((nth x.heads k).tm))))) rfl rfl rfl (Lx_qf rfl rfl rfl rfl rfl _ (fun hA v95 hv96 => R_fieldAddr (off := 0) (oo := 0) Tryz.underlying84 rfl rfl Tryz.sizeOf69 rfl rfl qk) (Lx_qf rfl rfl rfl rfl rfl _ (fun hA v97 hv98 => R_loadA (cs := [[(.int .i64 (((nth x.heads k).tm).T))], [(.int .i64 (((nth x.heads k).tm).R))]]) Tryz.isAgg69 Tryz.sizeOf69 rfl (gv_t hA) ((H84.ext hv98).bx 0 rfl 0 2 0 0 _ rfl rfl rfl) qk) (Lx_qf rfl rfl rfl rfl rfl _ (fun hA v99 hv100 => R_fieldAddr (off := 0) (oo := 0) Tryz.underlying77 rfl rfl Tryz.sizeOf69 rfl rfl qk) ?_)))
   refine Lx_qf rfl rfl rfl rfl rfl _ (fun hA v101 hv102 => R_loadA (cs := [[(.int .i64 x.node.T)], [(.int .i64 x.node.R)]]) Tryz.isAgg69 Tryz.sizeOf69 rfl (gv_t hA) ((H84.ext hv102).bx 1 rfl 0 2 0 0 _ rfl rfl rfl) qk) (Lx_qf rfl rfl rfl rfl rfl (.int .i64 (cmpSt ((nth x.heads k).tm) x.node)) (fun hA v103 hv104 => R_callL (vs := [(aggOf (stampCh ((nth x.heads k).tm))), (aggOf (stampCh x.node))]) cF44 rfl (lst2 (gv_t hA) (gv_t hA)) (ref03_Cmp ((nth x.heads k).tm) x.node v103 )) (Lx_qf rfl rfl rfl rfl rfl _ (fun hA v105 hv106 => R_cmp (a := cmpSt ((nth x.heads k).tm) x.node) (b := 1) (r := (!(decide (cmpSt ((nth x.heads k).tm) x.node = 1)))) (gv_t hA) rfl rfl qk) (Lx_q rfl rfl _ (fun v107 hv108 => R_pick rfl pk_or qk) ?_)))
   refine Lx_mv (v := (.bool ((!(stRight ((nth x.heads k).tm))) || (!(decide (cmpSt ((nth x.heads k).tm) x.node = 1)))))) rfl rfl rfl (Lx_qf rfl rfl rfl rfl rfl _ (fun hA v111 hv112 => R_fieldAddr (off := 2) (oo := 2) Tryz.underlying84 rfl rfl Tryz.sizeOf45 rfl rfl qk) (Lx_qf rfl rfl rfl rfl rfl _ (fun hA v113 hv114 => R_loadA (cs := [(idCells ((nth x.heads k).data))]) Tryz.isAgg45 Tryz.sizeOf45 rfl (gv_t hA) ((H84.ext hv114).bx 0 rfl 2 1 2 2 _ rfl rfl rfl) qk) (Lx_qf rfl rfl rfl rfl rfl (.bool (decide (((nth x.heads k).data) = zeroId))) (fun hA v115 hv116 => R_callL (vs := [(aggOf (idCh ((nth x.heads k).data)))]) cF60 rfl (lst1 (gv_t hA)) (ref04_zero ((nth x.heads k).data) v115 )) ?_)))
   refine Lx_q rfl rfl _ (fun v117 hv118 => R_pick rfl pk_or qk) (Lx_mv (v := (.bool (((!(stRight ((nth x.heads k).tm))) || (!(decide (cmpSt ((nth x.heads k).tm) x.node = 1)))) || (decide (((nth x.heads k).data) = zeroId))))) rfl rfl rfl (Lx_qf rfl rfl rfl rfl rfl _ (fun hA v121 hv122 => R_move (v := (.int .i64 (k : Int))) rfl qk) (Lx_qf rfl rfl rfl rfl rfl _ (fun hA v123 hv124 => R_cmp (a := (k : Int)) (b := 0) (r := (decide (0 < (k : Int)))) (gv_t hA) rfl rfl qk) ?_)))
   refine Lx_qf rfl rfl rfl rfl rfl _ (fun hA v125 hv126 => R_move (v := (.bool (decide (0 < (k : Int))))) (gv_t hA) qk) (Lx_gt (!(((!(stRight ((nth x.heads k).tm))) || (!(decide (cmpSt ((nth x.heads k).tm) x.node = 1)))) || (decide (((nth x.heads k).data) = zeroId)))) (decide (0 < (k : Int))) rfl rfl rfl rfl rfl _ (fun hA v127 hv128 => R_fieldAddr (off := 37) (oo := 37) Tryz.underlying77 rfl rfl Tryz.sizeOf75 rfl rfl qk) (Lx_gt (!(((!(stRight ((nth x.heads k).tm))) || (!(decide (cmpSt ((nth x.heads k).tm) x.node = 1)))) || (decide (((nth x.heads k).data) = zeroId)))) (decide (0 < (k : Int))) rfl rfl rfl rfl rfl _ (fun hA v129 hv130 => R_load1 (v := (slV x.hh x.heads)) Tryz.isAgg75 (gv_t hA) ((H84.ext hv130).bx 1 rfl 6 1 37 37 _ rfl rfl rfl) qk) (Lx_gt (!(((!(stRight ((nth x.heads k).tm))) || (!(decide (cmpSt ((nth x.heads k).tm) x.node = 1)))) || (decide (((nth x.heads k).data) = zeroId)))) (decide (0 < (k : Int))) rfl rfl rfl rfl rfl _ (fun hA v131 hv132 => R_move (v := (.int .i64 (k : Int))) rfl qk) ?_)))
   refine Lx_gt (!(((!(stRight ((nth x.heads k).tm))) || (!(decide (cmpSt ((nth x.heads k).tm) x.node = 1)))) || (decide (((nth x.heads k).data) = zeroId)))) (decide (0 < (k : Int))) rfl rfl rfl rfl rfl _ (fun hA v133 hv134 => by
          have hP : ((((stRight ((nth x.heads k).tm)) = true ∧ (cmpSt ((nth x.heads k).tm) x.node = 1)) ∧ ¬ (((nth x.heads k).data) = zeroId)) ∧ (0 < (k : Int))) := (And.imp (fun h => (And.imp (fun h => (And.imp (fun h => (notF h)) (fun h => (of_decide_eq_true (notF h))) (orF h))) (fun h => (of_decide_eq_false h)) (orF (notT h)))) (fun h => (of_decide_eq_true h)) (andT hA))
          exact R_arith (a := (k : Int)) (b := 1) (r0 := (k : Int) - 1) (r := ((k - 1 : Nat) : Int)) (gv_t hA) rfl rfl (wrapP _ (by omega) (by omega)) qk) ?_
   refine Lx_gt (!(((!(stRight ((nth x.heads k).tm))) || (!(decide (cmpSt ((nth x.heads k).tm) x.node = 1)))) || (decide (((nth x.heads k).data) = zeroId)))) (decide (0 < (k : Int))) rfl rfl rfl rfl rfl _ (fun hA v135 hv136 => by
          have hP : ((((stRight ((nth x.heads k).tm)) = true ∧ (cmpSt ((nth x.heads k).tm) x.node = 1)) ∧ ¬ (((nth x.heads k).data) = zeroId)) ∧ (0 < (k : Int))) := (And.imp (fun h => (And.imp (fun h => (And.imp (fun h => (notF h)) (fun h => (of_decide_eq_true (notF h))) (orF h))) (fun h => (of_decide_eq_false h)) (orF (notT h)))) (fun h => (of_decide_eq_true h)) (andT hA))
          exact R_index_pure (H84.sl 0 rfl) (n := x.heads.length) rfl (j := ((k - 1 : Nat) : Int)) (oo := (x.hh.o + (k - 1) * 34)) Tryz.underlying75 Tryz.sizeOf84 (gv_t hA) (gv_t hA) (by omega) (by omega) rfl qk) ?_
   refine Lx_gt (!(((!(stRight ((nth x.heads k).tm))) || (!(decide (cmpSt ((nth x.heads k).tm) x.node = 1)))) || (decide (((nth x.heads k).data) = zeroId)))) (decide (0 < (k : Int))) rfl rfl rfl rfl rfl _ (fun hA v137 hv138 => R_fieldAddr (off := 0) (oo := (x.hh.o + (k - 1) * 34)) Tryz.underlying84 rfl rfl Tryz.sizeOf69 (gv_t hA) rfl qk) ?_
   refine Lx_gt (!(((!(stRight ((nth x.heads k).tm))) || (!(decide (cmpSt ((nth x.heads k).tm) x.node = 1)))) || (decide (((nth x.heads k).data) = zeroId)))) (decide (0 < (k : Int))) rfl rfl rfl rfl rfl _ (fun hA v139 hv140 => by
          have hP : ((((stRight ((nth x.heads k).tm)) = true ∧ (cmpSt ((nth x.heads k).tm) x.node = 1)) ∧ ¬ (((nth x.heads k).data) = zeroId)) ∧ (0 < (k : Int))) := (And.imp (fun h => (And.imp (fun h => (And.imp (fun h => (notF h)) (fun h => (of_decide_eq_true (notF h))) (orF h))) (fun h => (of_decide_eq_false h)) (orF (notT h)))) (fun h => (of_decide_eq_true h)) (andT hA))
          exact R_loadA (cs := [[(.int .i64 (((nth x.heads (k - 1)).tm).T))], [(.int .i64 (((nth x.heads (k - 1)).tm).R))]]) Tryz.isAgg69 Tryz.sizeOf69 rfl (gv_t hA) ((Sl.elem ((H84.ext hv140).sl 0 rfl) (i := (k - 1)) (by omega) rfl).chunks 0 2 0 (x.hh.o + (k - 1) * 34) _ rfl rfl rfl) qk) ?_
   refine Lx_gt (!(((!(stRight ((nth x.heads k).tm))) || (!(decide (cmpSt ((nth x.heads k).tm) x.node = 1)))) || (decide (((nth x.heads k).data) = zeroId)))) (decide (0 < (k : Int))) rfl rfl rfl rfl rfl _ (fun hA v141 hv142 => R_fieldAddr (off := 0) (oo := 0) Tryz.underlying84 rfl rfl Tryz.sizeOf69 rfl rfl qk) (Lx_gt (!(((!(stRight ((nth x.heads k).tm))) || (!(decide (cmpSt ((nth x.heads k).tm) x.node = 1)))) || (decide (((nth x.heads k).data) = zeroId)))) (decide (0 < (k : Int))) rfl rfl rfl rfl rfl _ (fun hA v143 hv144 => R_loadA (cs := [[(.int .i64 (((nth x.heads k).tm).T))], [(.int .i64 (((nth x.heads k).tm).R))]]) Tryz.isAgg69 Tryz.sizeOf69 rfl (gv_t hA) ((H84.ext hv144).bx 0 rfl 0 2 0 0 _ rfl rfl rfl) qk) (Lx_gt (!(((!(stRight ((nth x.heads k).tm))) || (!(decide (cmpSt ((nth x.heads k).tm) x.node = 1)))) || (decide (((nth x.heads k).data) = zeroId)))) (decide (0 < (k : Int))) rfl rfl rfl rfl rfl (.int .i64 (cmpSt ((nth x.heads (k - 1)).tm) ((nth x.heads k).tm))) (fun hA v145 hv146 => R_callL (vs := [(aggOf (stampCh ((nth x.heads (k - 1)).tm))), (aggOf (stampCh ((nth x.heads k).tm)))]) cF44 rfl (lst2 (gv_t hA) (gv_t hA)) (ref03_Cmp ((nth x.heads (k - 1)).tm) ((nth x.heads k).tm) v145 )) (Lx_gt (!(((!(stRight ((nth x.heads k).tm))) || (!(decide (cmpSt ((nth x.heads k).tm) x.node = 1)))) || (decide (((nth x.heads k).data) = zeroId)))) (decide (0 < (k : Int))) rfl rfl rfl rfl rfl _ (fun hA v147 hv148 => R_cmp (a := cmpSt ((nth x.heads (k - 1)).tm) ((nth x.heads k).tm)) (b := (-1)) (r := (!(decide (cmpSt ((nth x.heads (k - 1)).tm) ((nth x.heads k).tm) = (-1))))) (gv_t hA) rfl rfl qk) ?_)))
   refine Lx_qf rfl rfl rfl rfl rfl _ (fun hA v149 hv150 => R_pick (gv_t hA) (pk_andA hA) qk) (Lx_q rfl rfl _ (fun v151 hv152 => R_pick rfl pk_or qk) ?_)
   refine Lx_nil (fun w153 hw154 => ?_)
   have H155 := H84.ext hw154
   refine Then_n ?_
   refine W_cond rfl (fun hc156 => ?_) (fun hc156 => ?_)
   ·have hc156 : ((((stRight ((nth x.heads k).tm)) = false ∨ ¬ (cmpSt ((nth x.heads k).tm) x.node = 1)) ∨ (((nth x.heads k).data) = zeroId)) ∨ ((0 < (k : Int)) ∧ ¬ (cmpSt ((nth x.heads (k - 1)).tm) ((nth x.heads k).tm) = (-1)))) := (Or.imp (fun h => (Or.imp (fun h => (Or.imp (fun h => (notT h)) (fun h => (of_decide_eq_false (notT h))) (orT h))) (fun h => (of_decide_eq_true h)) (orT h))) (fun h => (And.imp (fun h => (of_decide_eq_true h)) (fun h => (of_decide_eq_false (notT h))) (andT h))) (orT hc156))
    refine W_seq (W_reg ?_)
    refine O_as (v := (.bool false)) rfl rfl ?_
    refine O_nil (Then_n (W_ret (Blk_r (Then_r (Then_r (Blk_r (Then_r ?_)))))))
    refine ret_1 (v := (.bool false)) Tryz.results43 rfl ?_
    exact ⟨(itemOk_f2 (k := k) (by omega) (by assumption)), H155.gr⟩
   ·have hc156 : ((((stRight ((nth x.heads k).tm)) = true ∧ (cmpSt ((nth x.heads k).tm) x.node = 1)) ∧ ¬ (((nth x.heads k).data) = zeroId)) ∧ (¬ (0 < (k : Int)) ∨ (cmpSt ((nth x.heads (k - 1)).tm) ((nth x.heads k).tm) = (-1)))) := (And.imp (fun h => (And.imp (fun h => (And.imp (fun h => (notF h)) (fun h => (of_decide_eq_true (notF h))) (orF h))) (fun h => (of_decide_eq_false h)) (orF h))) (fun h => (Or.imp (fun h => (of_decide_eq_false h)) (fun h => (of_decide_eq_true (notF h))) (andF h))) (orF hc156))
    refine W_skip (Blk_n (Then_n (W_reg ?_)))
    refine O_mv (v := (.int .i64 (k : Int))) rfl rfl ?_
    refine O_v rfl (R_arith (a := (k : Int)) (b := 1) (r0 := (k : Int) + 1) (r := ((k + 1 : Nat) : Int)) rfl rfl rfl (wrapN _ (by omega)) ?_)
    refine O_as (v := (.int .i64 ((k + 1 : Nat) : Int))) rfl rfl ?_
    refine O_nil (Then_n ?_)
    have H157 := H155.sub (List.Sublist.cons _ (List.Sublist.cons_cons _ List.Sublist.slnil)) (List.forall_mem_cons.2 ⟨List.mem_of_getElem? (i := 0) rfl, memN⟩)
    refine ⟨_, ?_, (k + 1), rfl, (by omega), (all_succ hn (itemHead_t (by assumption))), _, envL_self ⟨rfl, rfl, trivial⟩, H157⟩
    omega
  ·have hc76 := (of_decide_eq_false hc76)
   refine W_exit (Then_x (Then_x (Blk_x (Then_n (W_seq (W_reg ?_))))))
   refine O_as (v := (.bool true)) rfl rfl ?_
   refine O_nil (Then_n (W_ret ?_))
   refine ret_1 (v := (.bool true)) Tryz.results43 rfl ?_
   exact ⟨(itemOk_t (by assumption) (by rwa [show x.heads.length = k from by omega])), H75.gr⟩
theorem cF43 : callable Tryz.prog 43 = true := by kernel_rfl
set_option maxHeartbeats 1000000 in
theorem ref04_RightDir (hitems : SlH) (items : List ItemS) (w : World) (Sitems : Sl (Old w) itemCh 38 hitems items w) (Ditems_heads : ∀ x ∈ items, Sl (Old w) headCh 34 x.hh x.heads w) (hl : ∀ x ∈ items, x.name.size ≤ 9223372036854775807) :
    Calls Tryz.prog 16 #[(slV hitems items)] w (Ret fun v w' => v = (.bool (dirOk items)) ∧ Ext w w') := by
 refine calls_W Tryz.func16 rfl Tryz.ntmps16 rfl ?_
 have H0 := Ctx.start w nob
 have H1 := H0.addSl _ Sitems (fun b hb => ⟨hb, fun _ ho => (nomatch ho)⟩)
 have LSitems := Sitems.len
 have H2 := H1.addImm' (deepI (Old w) headCh 34 (fun x : ItemS => x.hh) (fun x : ItemS => x.heads) items) Ditems_heads (fun b hb => ⟨hb, fun _ ho => (nomatch ho)⟩)
 refine W_seq (W_reg ?_)
 refine O_as (v := (.bool false)) rfl rfl ?_
 refine O_nil (Then_n (W_seq (W_seq (W_reg ?_))))
 refine O_as (v := (.int .i64 0)) rfl rfl ?_
 refine O_nil (Then_n (W_block ?_))
 refine W_loop (fun m3 e4 w5 => ∃ (k : Nat), m3 = items.length - k ∧ (k ≤ items.length) ∧ (∀ i, i < k → itemOkS (nth items i) = true ∧ (i = 0 ∨ cmpSt (nth items (i - 1)).node (nth items i).node = -1)) ∧ ∃ eb6, e4 = envL [(0, (slV hitems items)), (3, (.int .i64 (k : Int)))] eb6 ∧ Ctx w nob w5 [] [deepI (Old w) headCh 34 (fun x : ItemS => x.hh) (fun x : ItemS => x.heads) items, slI (Old w) itemCh 38 hitems items]) _ ⟨0, rfl, (by omega), (all_zero _), _, envL_self ⟨rfl, rfl, trivial⟩, H2⟩ ?_
 rintro m3 _ w5 ⟨k, rfl, hk, hn, eb6, rfl, H7⟩
 refine W_seq (W_seq (W_reg ?_))
 refine O_mv (v := (.int .i64 (k : Int))) rfl rfl (O_mv (v := (slV hitems items)) rfl rfl ?_)
 refine O_v rfl (R_len_slice (a := hitems.a) (n := items.length) (c := hitems.c) Tryz.underlying31 rfl ?_)
 refine O_v rfl (R_cmp (a := (k : Int)) (b := (items.length : Int)) (r := (decide ((k : Int) < (items.length : Int)))) rfl rfl rfl ?_)
 refine O_nil (Then_n ?_)
 refine W_cond rfl (fun hc8 => ?_) (fun hc8 => ?_)
 ·have hc8 := (of_decide_eq_true hc8)
  refine W_skip (Then_n (W_seq (W_block (W_seq ?_))))
  refine W_rgd TryzMixed [(0, .q 0), (1, .q 0), (2, .q 0), (3, .q 0), (4, .q 0), (5, .q 0), (6, .q 0), (7, .q 0), (8, .q 0), (9, .q 0), (10, .q 0), (11, .q 0), (12, .q 0), (13, .q 0), (14, .q 0), (15, .q 0), (16, .q 0), (17, .q 0), (18, .q 0), (19, .q 0), (20, .q 0), (21, .q 0), (22, .q 0), (23, .q 0), (24, .q 0)] (by kernel_rfl) ?_
  refine Lx_mv (v := (slV hitems items)) rfl rfl rfl (Lx_mv (v := (.int .i64 (k : Int))) rfl rfl rfl (Lx_q rfl rfl _ (fun v13 hv14 => R_index_pure (H7.sl 1 rfl) (n := items.length) rfl (j := (k : Int)) (oo := (hitems.o + k * 38)) Tryz.underlying31 Tryz.sizeOf77 rfl rfl (by omega) (by omega) rfl qk) (Lx_q rfl rfl _ (fun v15 hv16 => R_loadA (cs := [[(.int .i64 (((nth items k).node).T))], [(.int .i64 (((nth items k).node).R))], [(.int .i64 (((nth items k).tm).T))], [(.int .i64 (((nth items k).tm).R))], [(.string ((nth items k).name))], (idCells ((nth items k).sub)), [(slV ((nth items k).hh) ((nth items k).heads))]]) Tryz.isAgg77 Tryz.sizeOf77 rfl rfl ((Sl.elem ((H7.ext hv16).sl 1 rfl) (i := k) (by omega) rfl).chunks 0 7 0 (hitems.o + k * 38) _ rfl rfl rfl) qk) ?_)))
  refine Lx_q rfl rfl (.bool (itemOkS (nth items k))) (fun v17 hv18 => R_callL (vs := [(aggOf (itemCh (nth items k)))]) cF43 rfl rfl (ref04_rightItem (nth items k) v17 ((H7.ext hv18).deepOld 0 rfl _ (nth_mem (by omega))) (hl _ (nth_mem (by omega))))) (Lx_q rfl rfl _ (fun v19 hv20 => R_not rfl qk) (Lx_mv (v := (.bool (!(itemOkS (nth items k))))) rfl rfl rfl (Lx_qf rfl rfl rfl rfl rfl _ (fun hA v23 hv24 => R_move (v := (.int .i64 (k : Int))) rfl qk) ?_)))
  refine Lx_qf rfl rfl rfl rfl rfl _ (fun hA v25 hv26 => R_cmp (a := (k : Int)) (b := 0) (r := (decide (0 < (k : Int)))) (gv_t hA) rfl rfl qk) (Lx_qf rfl rfl rfl rfl rfl _ (fun hA v27 hv28 => R_move (v := (.bool (decide (0 < (k : Int))))) (gv_t hA) qk) (Lx_gt (!(!(itemOkS (nth items k)))) (decide (0 < (k : Int))) rfl rfl rfl rfl rfl _ (fun hA v29 hv30 => R_move (v := (slV hitems items)) rfl qk) (Lx_gt (!(!(itemOkS (nth items k)))) (decide (0 < (k : Int))) rfl rfl rfl rfl rfl _ (fun hA v31 hv32 => R_move (v := (.int .i64 (k : Int))) rfl qk) ?_)))
  refine Lx_gt (!(!(itemOkS (nth items k)))) (decide (0 < (k : Int))) rfl rfl rfl rfl rfl _ (fun hA v33 hv34 => by
        have hP : ((itemOkS (nth items k)) = true ∧ (0 < (k : Int))) := (And.imp (fun h => (notF (notT h))) (fun h => (of_decide_eq_true h)) (andT hA))
        exact R_arith (a := (k : Int)) (b := 1) (r0 := (k : Int) - 1) (r := ((k - 1 : Nat) : Int)) (gv_t hA) rfl rfl (wrapP _ (by omega) (by omega)) qk) ?_
  refine Lx_gt (!(!(itemOkS (nth items k)))) (decide (0 < (k : Int))) rfl rfl rfl rfl rfl _ (fun hA v35 hv36 => by
        have hP : ((itemOkS (nth items k)) = true ∧ (0 < (k : Int))) := (And.imp (fun h => (notF (notT h))) (fun h => (of_decide_eq_true h)) (andT hA))
        exact R_index_pure (H7.sl 1 rfl) (n := items.length) rfl (j := ((k - 1 : Nat) : Int)) (oo := (hitems.o + (k - 1) * 38)) Tryz.underlying31 Tryz.sizeOf77 (gv_t hA) (gv_t hA) (by omega) (by omega) rfl qk) ?_
  refine Lx_gt (!(!(itemOkS (nth items k)))) (decide (0 < (k : Int))) rfl rfl rfl rfl rfl _ (fun hA v37 hv38 => R_fieldAddr (off := 0) (oo := (hitems.o + (k - 1) * 38)) Tryz.underlying77 rfl rfl Tryz.sizeOf69 (gv_t hA) rfl qk) ?_
  refine Lx_gt (!(!(itemOkS (nth items k)))) (decide (0 < (k : Int))) rfl rfl rfl rfl rfl _ (fun hA v39 hv40 => by
        have hP : ((itemOkS (nth items k)) = true ∧ (0 < (k : Int))) := (And.imp (fun h => (notF (notT h))) (fun h => (of_decide_eq_true h)) (andT hA))
        exact R_loadA (cs := [[(.int .i64 (((nth items (k - 1)).node).T))], [(.int .i64 (((nth items (k - 1)).node).R))]]) Tryz.isAgg69 Tryz.sizeOf69 rfl (gv_t hA) ((Sl.elem ((H7.ext hv40).sl 1 rfl) (i := (k - 1)) (by omega) rfl).chunks 0 2 0 (hitems.o + (k - 1) * 38) _ rfl rfl rfl) qk) ?_
  refine Lx_gt (!(!(itemOkS (nth items k)))) (decide (0 < (k : Int))) rfl rfl rfl rfl rfl _ (fun hA v41 hv42 => R_move (v := (slV hitems items)) rfl qk) (Lx_gt (!(!(itemOkS (nth items k)))) (decide (0 < (k : Int))) rfl rfl rfl rfl rfl _ (fun hA v43 hv44 => R_move (v := (.int .i64 (k : Int))) rfl qk) ?_)
  refine Lx_gt (!(!(itemOkS (nth items k)))) (decide (0 < (k : Int))) rfl rfl rfl rfl rfl _ (fun hA v45 hv46 => by
        have hP : ((itemOkS (nth items k)) = true ∧ (0 < (k : Int))) := (And.imp (fun h => (notF (notT h))) (fun h => (of_decide_eq_true h)) (andT hA))
        exact R_index_pure (H7.sl 1 rfl) (n := items.length) rfl (j := (k : Int)) (oo := (hitems.o + k * 38)) Tryz.underlying31 Tryz.sizeOf77 (gv_t hA) (gv_t hA) (by omega) (by omega) rfl qk) ?_
  refine Lx_gt (!(!(itemOkS (nth items k)))) (decide (0 < (k : Int))) rfl rfl rfl rfl rfl _ (fun hA v47 hv48 => R_fieldAddr (off := 0) (oo := (hitems.o + k * 38)) Tryz.underlying77 rfl rfl Tryz.sizeOf69 (gv_t hA) rfl qk) ?_
  refine Lx_gt (!(!(itemOkS (nth items k)))) (decide (0 < (k : Int))) rfl rfl rfl rfl rfl _ (fun hA v49 hv50 => by
        have hP : ((itemOkS (nth items k)) = true ∧ (0 < (k : Int))) := (And.imp (fun h => (notF (notT h))) (fun h => (of_decide_eq_true h)) (andT hA))
        exact R_loadA (cs := [[(.int .i64 (((nth items k).node).T))], [(.int .i64 (((nth items k).node).R))]]) Tryz.isAgg69 Tryz.sizeOf69 rfl (gv_t hA) ((Sl.elem ((H7.ext hv50).sl 1 rfl) (i := k) (by omega) rfl).chunks 0 2 0 (hitems.o + k * 38) _ rfl rfl rfl) qk) ?_
  refine Lx_gt (!(!(itemOkS (nth items k)))) (decide (0 < (k : Int))) rfl rfl rfl rfl rfl (.int .i64 (cmpSt ((nth items (k - 1)).node) ((nth items k).node))) (fun hA v51 hv52 => R_callL (vs := [(aggOf (stampCh ((nth items (k - 1)).node))), (aggOf (stampCh ((nth items k).node)))]) cF44 rfl (lst2 (gv_t hA) (gv_t hA)) (ref03_Cmp ((nth items (k - 1)).node) ((nth items k).node) v51 )) (Lx_gt (!(!(itemOkS (nth items k)))) (decide (0 < (k : Int))) rfl rfl rfl rfl rfl _ (fun hA v53 hv54 => R_cmp (a := cmpSt ((nth items (k - 1)).node) ((nth items k).node)) (b := (-1)) (r := (!(decide (cmpSt ((nth items (k - 1)).node) ((nth items k).node) = (-1))))) (gv_t hA) rfl rfl qk) (Lx_qf rfl rfl rfl rfl rfl _ (fun hA v55 hv56 => R_pick (gv_t hA) (pk_andA hA) qk) (Lx_q rfl rfl _ (fun v57 hv58 => R_pick rfl pk_or qk) ?_)))
  refine Lx_nil (fun w59 hw60 => ?_)
  have H61 := H7.ext hw60
  refine Then_n ?_
  refine W_cond rfl (fun hc62 => ?_) (fun hc62 => ?_)
  ·have hc62 : ((itemOkS (nth items k)) = false ∨ ((0 < (k : Int)) ∧ ¬ (cmpSt ((nth items (k - 1)).node) ((nth items k).node) = (-1)))) := (Or.imp (fun h => (notT h)) (fun h => (And.imp (fun h => (of_decide_eq_true h)) (fun h => (of_decide_eq_false (notT h))) (andT h))) (orT hc62))
   refine W_seq (W_reg ?_)
   refine O_as (v := (.bool false)) rfl rfl ?_
   refine O_nil (Then_n (W_ret (Blk_r (Then_r (Then_r (Blk_r (Then_r ?_)))))))
   refine ret_1 (v := (.bool false)) Tryz.results16 rfl ?_
   exact ⟨(dirOk_f (k := k) (by omega) (by assumption)), H61.gr⟩
  ·have hc62 : ((itemOkS (nth items k)) = true ∧ (¬ (0 < (k : Int)) ∨ (cmpSt ((nth items (k - 1)).node) ((nth items k).node) = (-1)))) := (And.imp (fun h => (notF h)) (fun h => (Or.imp (fun h => (of_decide_eq_false h)) (fun h => (of_decide_eq_true (notF h))) (andF h))) (orF hc62))
   refine W_skip (Blk_n (Then_n (W_reg ?_)))
   refine O_mv (v := (.int .i64 (k : Int))) rfl rfl ?_
   refine O_v rfl (R_arith (a := (k : Int)) (b := 1) (r0 := (k : Int) + 1) (r := ((k + 1 : Nat) : Int)) rfl rfl rfl (wrapN _ (by omega)) ?_)
   refine O_as (v := (.int .i64 ((k + 1 : Nat) : Int))) rfl rfl ?_
   refine O_nil (Then_n ?_)
   refine ⟨_, ?_, (k + 1), rfl, (by omega), (all_succ hn (dirAt_t (by assumption))), _, envL_self ⟨rfl, rfl, trivial⟩, H61⟩
   omega
 ·have hc8 := (of_decide_eq_false hc8)
  refine W_exit (Then_x (Then_x (Blk_x (Then_n (W_seq (W_reg ?_))))))
  refine O_mv (v := (slV hitems items)) rfl rfl ?_
  refine O_v rfl (R_len_slice (a := hitems.a) (n := items.length) (c := hitems.c) Tryz.underlying31 rfl ?_)
  refine O_v rfl (R_cmp (a := (items.length : Int)) (b := 1000) (r := (decide ((items.length : Int) ≤ 1000))) rfl rfl rfl ?_)
  refine O_as (v := (.bool (decide ((items.length : Int) ≤ 1000)))) rfl rfl ?_
  refine O_nil (Then_n (W_ret ?_))
  refine ret_1 (v := (.bool (decide ((items.length : Int) ≤ 1000)))) Tryz.results16 rfl ?_
  exact ⟨(dirOk_t (by rwa [show items.length = k from by omega])), H7.gr⟩
set_option maxHeartbeats 4000000 in
theorem ref04_item (r : RdS) (Fr : Nat → Prop) (q : List UInt8 × Bool) (w : World) (Sr : Sl Fr encB 1 r.bh r.b w) (XFr : ∀ b, Fr b → b < w.heap.size) (Er : r.st = q) :
    Calls Tryz.prog 74 #[(aggOf (rdCh r))] w (Ret fun v w' => ∃ (X : ItemS) (Z : RdS), v = .tuple #[itemV X, rdV Z] ∧ Ext w w' ∧ OwnS w.heap.size 84 34 headCh X.hh X.heads w' ∧ (X.core = (rdItem q).1) ∧ Z.st = (rdItem q).2 ∧ Sl Fr encB 1 Z.bh Z.b w') := by
 refine calls_W Tryz.func74 rfl Tryz.ntmps74 rfl ?_
 have H0 := Ctx.start w nob
 have H1 := H0.addSl _ Sr (fun b hb => ⟨XFr b hb, fun _ ho => (nomatch ho)⟩)
 have LSr := Sr.len
 refine W_seq (W_reg ?_)
 refine O_v rfl (C_box H1 [[(slV r.bh r.b)], [(.bool r.bad)]] rfl ?_)
 intro b4 w5 hb6 hx7 H8
 refine O_v rfl (C_alloc H8 [[(.int .i64 0)], [(.int .i64 0)], [(.int .i64 0)], [(.int .i64 0)], [(.string ByteArray.empty)], (idCells zeroId), [(.slice none 0 0)]] Tryz.zeroValue77 ?_)
 intro b9 w10 hb11 hx12 H13
 refine O_v rfl (C_alloc H13 [[(.slice none 0 0)], [(.bool false)]] Tryz.zeroValue110 ?_)
 intro b14 w15 hb16 hx17 H18
 refine O_nil (Then_n (W_seq (W_reg ?_)))
 refine O_v rfl (R_loadA (cs := [[(slV r.bh r.b)], [(.bool r.bad)]]) Tryz.isAgg110 Tryz.sizeOf110 rfl rfl (H18.bx 2 rfl 0 2 0 0 _ rfl rfl rfl) ?_)
 refine O_v rfl (R_callL (vs := [(aggOf (rdCh r))]) cF110 rfl rfl ((ref03_GetStamp r Fr q w15 (H18.sl 0 rfl) (H18.imm _ (List.mem_of_getElem? (i := 0) rfl)).2 Er).ret ?_))
 rintro _ w20 ⟨x19, rfl, hx21, hr22, hs23⟩
 have H24 := H18.ext hx21
 have H25 := H24.immOf 0 rfl (slI Fr encB 1 x19.bh x19.b) (fun _ h => h) (fun _ => hs23)
 refine O_mv (v := (.tuple #[(aggOf (stampCh ((rdAt q).1))), (aggOf (rdCh x19))])) rfl rfl (O_ex (v := (aggOf (stampCh ((rdAt q).1)))) rfl rfl rfl (O_ex (v := (aggOf (rdCh x19))) rfl rfl rfl ?_))
 refine O_v rfl (C_alloc H25 [[(.int .i64 0)], [(.int .i64 0)]] Tryz.zeroValue69 ?_)
 intro b26 w27 hb28 hx29 H30
 refine O_v rfl (C_alloc H30 [[(.slice none 0 0)], [(.bool false)]] Tryz.zeroValue110 ?_)
 intro b31 w32 hb33 hx34 H35
 refine O_u (C_storeW H35 1 rfl (sub := [[(.int .i64 (((rdAt q).1).T))], [(.int .i64 (((rdAt q).1).R))]]) Tryz.sizeOf69 rfl rfl rfl rfl rfl ?_)
 intro w36 hg37 H38
 refine O_u (C_storeW H38 0 rfl (sub := [[(slV x19.bh x19.b)], [(.bool x19.bad)]]) Tryz.sizeOf110 rfl rfl rfl rfl rfl ?_)
 intro w39 hg40 H41
 refine O_nil (Then_n (W_seq (W_reg ?_)))
 refine O_v rfl (R_loadA (cs := [[(slV x19.bh x19.b)], [(.bool x19.bad)]]) Tryz.isAgg110 Tryz.sizeOf110 rfl rfl (H41.bx 0 rfl 0 2 0 0 _ rfl rfl rfl) ?_)
 refine O_v rfl (R_callL (vs := [(aggOf (rdCh x19))]) cF110 rfl rfl ((ref03_GetStamp x19 Fr ((rdAt q).2) w39 (H41.sl 0 rfl) (H41.imm _ (List.mem_of_getElem? (i := 0) rfl)).2 hr22).ret ?_))
 rintro _ w43 ⟨x42, rfl, hx44, hr45, hs46⟩
 have H47 := H41.ext hx44
 have H48 := H47.immOf 0 rfl (slI Fr encB 1 x42.bh x42.b) (fun _ h => h) (fun _ => hs46)
 refine O_mv (v := (.tuple #[(aggOf (stampCh ((rdAt ((rdAt q).2)).1))), (aggOf (rdCh x42))])) rfl rfl (O_ex (v := (aggOf (stampCh ((rdAt ((rdAt q).2)).1)))) rfl rfl rfl (O_ex (v := (aggOf (rdCh x42))) rfl rfl rfl ?_))
 refine O_v rfl (C_alloc H48 [[(.int .i64 0)], [(.int .i64 0)]] Tryz.zeroValue69 ?_)
 intro b49 w50 hb51 hx52 H53
 refine O_v rfl (C_alloc H53 [[(.slice none 0 0)], [(.bool false)]] Tryz.zeroValue110 ?_)
 intro b54 w55 hb56 hx57 H58
 refine O_u (C_storeW H58 1 rfl (sub := [[(.int .i64 (((rdAt ((rdAt q).2)).1).T))], [(.int .i64 (((rdAt ((rdAt q).2)).1).R))]]) Tryz.sizeOf69 rfl rfl rfl rfl rfl ?_)
 intro w59 hg60 H61
 refine O_u (C_storeW H61 0 rfl (sub := [[(slV x42.bh x42.b)], [(.bool x42.bad)]]) Tryz.sizeOf110 rfl rfl rfl rfl rfl ?_)
 intro w62 hg63 H64
 refine O_nil (Then_n (W_seq (W_reg ?_)))
 refine O_v rfl (R_loadA (cs := [[(slV x42.bh x42.b)], [(.bool x42.bad)]]) Tryz.isAgg110 Tryz.sizeOf110 rfl rfl (H64.bx 0 rfl 0 2 0 0 _ rfl rfl rfl) ?_)
 refine O_v rfl (R_callL (vs := [(aggOf (rdCh x42)), (.int .i64 60)]) cF78 rfl rfl ((ref02_GetText x42 Fr ((rdAt ((rdAt q).2)).2) 60 w62 (H64.sl 0 rfl) (H64.imm _ (List.mem_of_getElem? (i := 0) rfl)).2 hr45).ret ?_))
 rintro _ w66 ⟨x65, rfl, hx67, hr68, hs69⟩
 have H70 := H64.ext hx67
 have H71 := H70.immOf 0 rfl (slI Fr encB 1 x65.bh x65.b) (fun _ h => h) (fun _ => hs69)
 refine O_mv (v := (.tuple #[(.string ((rdText ((rdAt ((rdAt q).2)).2) 60).1)), (aggOf (rdCh x65))])) rfl rfl (O_ex (v := (.string ((rdText ((rdAt ((rdAt q).2)).2) 60).1))) rfl rfl rfl (O_ex (v := (aggOf (rdCh x65))) rfl rfl rfl ?_))
 refine O_v rfl (C_alloc H71 [[(.slice none 0 0)], [(.bool false)]] Tryz.zeroValue110 ?_)
 intro b72 w73 hb74 hx75 H76
 refine O_as (v := (.string ((rdText ((rdAt ((rdAt q).2)).2) 60).1))) rfl rfl ?_
 refine O_u (C_storeW H76 0 rfl (sub := [[(slV x65.bh x65.b)], [(.bool x65.bad)]]) Tryz.sizeOf110 rfl rfl rfl rfl rfl ?_)
 intro w77 hg78 H79
 refine O_nil (Then_n (W_seq (W_reg ?_)))
 refine O_v rfl (R_loadA (cs := [[(slV x65.bh x65.b)], [(.bool x65.bad)]]) Tryz.isAgg110 Tryz.sizeOf110 rfl rfl (H79.bx 0 rfl 0 2 0 0 _ rfl rfl rfl) ?_)
 refine O_v rfl (R_callL (vs := [(aggOf (rdCh x65))]) cF76 rfl rfl ((ref02_GetId x65 Fr ((rdText ((rdAt ((rdAt q).2)).2) 60).2) w77 (H79.sl 0 rfl) (H79.imm _ (List.mem_of_getElem? (i := 0) rfl)).2 hr68).ret ?_))
 rintro _ w81 ⟨x80, rfl, hx82, hr83, hs84⟩
 have H85 := H79.ext hx82
 have H86 := H85.immOf 0 rfl (slI Fr encB 1 x80.bh x80.b) (fun _ h => h) (fun _ => hs84)
 refine O_mv (v := (.tuple #[(aggOf (idCh ((rdId ((rdText ((rdAt ((rdAt q).2)).2) 60).2)).1))), (aggOf (rdCh x80))])) rfl rfl (O_ex (v := (aggOf (idCh ((rdId ((rdText ((rdAt ((rdAt q).2)).2) 60).2)).1)))) rfl rfl rfl (O_ex (v := (aggOf (rdCh x80))) rfl rfl rfl ?_))
 refine O_v rfl (C_alloc H86 [(idCells zeroId)] Tryz.zeroValue44 ?_)
 intro b87 w88 hb89 hx90 H91
 refine O_v rfl (C_alloc H91 [[(.slice none 0 0)], [(.bool false)]] Tryz.zeroValue110 ?_)
 intro b92 w93 hb94 hx95 H96
 refine O_u (C_storeW H96 1 rfl (sub := [(idCells ((rdId ((rdText ((rdAt ((rdAt q).2)).2) 60).2)).1))]) Tryz.sizeOf44 rfl rfl rfl rfl rfl ?_)
 intro w97 hg98 H99
 refine O_u (C_storeW H99 0 rfl (sub := [[(slV x80.bh x80.b)], [(.bool x80.bad)]]) Tryz.sizeOf110 rfl rfl rfl rfl rfl ?_)
 intro w100 hg101 H102
 refine O_nil (Then_n (W_seq (W_reg ?_)))
 refine O_v rfl (R_loadA (cs := [[(slV x80.bh x80.b)], [(.bool x80.bad)]]) Tryz.isAgg110 Tryz.sizeOf110 rfl rfl (H102.bx 0 rfl 0 2 0 0 _ rfl rfl rfl) ?_)
 refine O_v rfl (R_callL (vs := [(aggOf (rdCh x80)), (.int .i64 1000)]) cF72 rfl rfl ((ref02_GetNum x80 Fr ((rdId ((rdText ((rdAt ((rdAt q).2)).2) 60).2)).2) 1000 w100 (H102.sl 0 rfl) (H102.imm _ (List.mem_of_getElem? (i := 0) rfl)).2 hr83).ret ?_))
 rintro _ w104 ⟨x103, rfl, hx105, hr106, hs107⟩
 have H108 := H102.ext hx105
 have H109 := H108.immOf 0 rfl (slI Fr encB 1 x103.bh x103.b) (fun _ h => h) (fun _ => hs107)
 refine O_mv (v := (.tuple #[(.int .i64 (((rdNum ((rdId ((rdText ((rdAt ((rdAt q).2)).2) 60).2)).2) 1000).1) : Int)), (aggOf (rdCh x103))])) rfl rfl (O_ex (v := (.int .i64 (((rdNum ((rdId ((rdText ((rdAt ((rdAt q).2)).2) 60).2)).2) 1000).1) : Int))) rfl rfl rfl (O_ex (v := (aggOf (rdCh x103))) rfl rfl rfl ?_))
 refine O_v rfl (C_alloc H109 [[(.slice none 0 0)], [(.bool false)]] Tryz.zeroValue110 ?_)
 intro b110 w111 hb112 hx113 H114
 refine O_as (v := (.int .i64 (((rdNum ((rdId ((rdText ((rdAt ((rdAt q).2)).2) 60).2)).2) 1000).1) : Int))) rfl rfl ?_
 refine O_u (C_storeW H114 0 rfl (sub := [[(slV x103.bh x103.b)], [(.bool x103.bad)]]) Tryz.sizeOf110 rfl rfl rfl rfl rfl ?_)
 intro w115 hg116 H117
 refine O_nil (Then_n (W_seq (W_reg ?_)))
 refine O_v rfl (R_loadA (cs := [[(.int .i64 (((rdAt q).1).T))], [(.int .i64 (((rdAt q).1).R))]]) Tryz.isAgg69 Tryz.sizeOf69 rfl rfl (H117.bx 7 rfl 0 2 0 0 _ rfl rfl rfl) ?_)
 refine O_v rfl (R_loadA (cs := [[(.int .i64 (((rdAt ((rdAt q).2)).1).T))], [(.int .i64 (((rdAt ((rdAt q).2)).1).R))]]) Tryz.isAgg69 Tryz.sizeOf69 rfl rfl (H117.bx 5 rfl 0 2 0 0 _ rfl rfl rfl) ?_)
 refine O_mv (v := (.string ((rdText ((rdAt ((rdAt q).2)).2) 60).1))) rfl rfl ?_
 refine O_v rfl (R_loadA (cs := [(idCells ((rdId ((rdText ((rdAt ((rdAt q).2)).2) 60).2)).1))]) Tryz.isAgg44 Tryz.sizeOf44 rfl rfl (H117.bx 2 rfl 0 1 0 0 _ rfl rfl rfl) ?_)
 refine O_v rfl (R_buildL (vs := [(0, (aggOf (stampCh ((rdAt q).1)))), (1, (aggOf (stampCh ((rdAt ((rdAt q).2)).1)))), (2, (.string ((rdText ((rdAt ((rdAt q).2)).2) 60).1))), (3, (aggOf (idCh ((rdId ((rdText ((rdAt ((rdAt q).2)).2) 60).2)).1))))]) (v := aggOf [[(.int .i64 (((rdAt q).1).T))], [(.int .i64 (((rdAt q).1).R))], [(.int .i64 (((rdAt ((rdAt q).2)).1).T))], [(.int .i64 (((rdAt ((rdAt q).2)).1).R))], [(.string ((rdText ((rdAt ((rdAt q).2)).2) 60).1))], (idCells ((rdId ((rdText ((rdAt ((rdAt q).2)).2) 60).2)).1)), [(.slice none 0 0)]]) rfl (fun _ => by kernel_rfl) ?_)
 refine O_v rfl (C_alloc H117 [[(.int .i64 0)], [(.int .i64 0)], [(.int .i64 0)], [(.int .i64 0)], [(.string ByteArray.empty)], (idCells zeroId), [(.slice none 0 0)]] Tryz.zeroValue77 ?_)
 intro b118 w119 hb120 hx121 H122
 refine O_u (C_storeW H122 0 rfl (sub := [[(.int .i64 (((rdAt q).1).T))], [(.int .i64 (((rdAt q).1).R))], [(.int .i64 (((rdAt ((rdAt q).2)).1).T))], [(.int .i64 (((rdAt ((rdAt q).2)).1).R))], [(.string ((rdText ((rdAt ((rdAt q).2)).2) 60).1))], (idCells ((rdId ((rdText ((rdAt ((rdAt q).2)).2) 60).2)).1)), [(.slice none 0 0)]]) Tryz.sizeOf77 rfl rfl rfl rfl rfl ?_)
 intro w123 hg124 H125
 refine O_nil (Then_n (W_seq (W_seq (W_reg ?_))))
 refine O_as (v := (.int .i64 0)) rfl rfl ?_
 refine O_nil (Then_n (W_block ?_))
 have H126 := H125.addNil 84 34 headCh
 refine W_loop (fun m127 e128 w129 => ∃ (k : Nat), ∃ (acc : List Head), ∃ (rr : RdS), ∃ (rq : List UInt8 × Bool), ∃ (ho : SlH), m127 = (rdNum (rdId (rdText (rdAt (rdAt q).2).2 60).2).2 1000).1 - k ∧ (k ≤ (rdNum (rdId (rdText (rdAt (rdAt q).2).2 60).2).2 1000).1) ∧ ((rdNum (rdId (rdText (rdAt (rdAt q).2).2 60).2).2 1000).1 ≤ 1000) ∧ (acc.length ≤ k) ∧ (rr.st = rq) ∧ (stopR rq acc (rdHeads ((rdNum (rdId (rdText (rdAt (rdAt q).2).2 60).2).2 1000).1 - k) acc rq) = rdHeads (rdNum (rdId (rdText (rdAt (rdAt q).2).2 60).2).2 1000).1 [] (rdNum (rdId (rdText (rdAt (rdAt q).2).2 60).2).2 1000).2) ∧ ∃ eb130, e128 = envL [(2, (.pointer (some ⟨b9, 0, none⟩))), (3, (.pointer (some ⟨b14, 0, none⟩))), (12, (.int .i64 (((rdNum ((rdId ((rdText ((rdAt ((rdAt q).2)).2) 60).2)).2) 1000).1) : Int))), (13, (.pointer (some ⟨b110, 0, none⟩))), (14, (.pointer (some ⟨b118, 0, none⟩))), (15, (.int .i64 (k : Int)))] eb130 ∧ Ctx w nob w129 [rowR 84 34 headCh ho acc, boxR b118 77 [[(.int .i64 (((rdAt q).1).T))], [(.int .i64 (((rdAt q).1).R))], [(.int .i64 (((rdAt ((rdAt q).2)).1).T))], [(.int .i64 (((rdAt ((rdAt q).2)).1).R))], [(.string ((rdText ((rdAt ((rdAt q).2)).2) 60).1))], (idCells ((rdId ((rdText ((rdAt ((rdAt q).2)).2) 60).2)).1)), [(slV ho acc)]], boxR b110 110 [[(slV rr.bh rr.b)], [(.bool rr.bad)]], boxR b92 110 [[(slV x80.bh x80.b)], [(.bool x80.bad)]], boxR b87 44 [(idCells ((rdId ((rdText ((rdAt ((rdAt q).2)).2) 60).2)).1))], boxR b72 110 [[(slV x65.bh x65.b)], [(.bool x65.bad)]], boxR b54 110 [[(slV x42.bh x42.b)], [(.bool x42.bad)]], boxR b49 69 [[(.int .i64 (((rdAt ((rdAt q).2)).1).T))], [(.int .i64 (((rdAt ((rdAt q).2)).1).R))]], boxR b31 110 [[(slV x19.bh x19.b)], [(.bool x19.bad)]], boxR b26 69 [[(.int .i64 (((rdAt q).1).T))], [(.int .i64 (((rdAt q).1).R))]], boxR b14 110 [[(.slice none 0 0)], [(.bool false)]], boxR b9 77 [[(.int .i64 0)], [(.int .i64 0)], [(.int .i64 0)], [(.int .i64 0)], [(.string ByteArray.empty)], (idCells zeroId), [(.slice none 0 0)]], boxR b4 110 [[(slV r.bh r.b)], [(.bool r.bad)]]] [slI Fr encB 1 rr.bh rr.b, slI Fr encB 1 x80.bh x80.b, slI Fr encB 1 x65.bh x65.b, slI Fr encB 1 x42.bh x42.b, slI Fr encB 1 x19.bh x19.b, slI Fr encB 1 r.bh r.b]) _ ⟨0, [], x103, ((rdNum (rdId (rdText (rdAt (rdAt q).2).2 60).2).2 1000).2), nilH, rfl, (by omega), (rdNum_le _ (by decide)), (by simp), hr106, headsR_start, _, envL_self ⟨rfl, rfl, rfl, rfl, rfl, rfl, trivial⟩, H126⟩ ?_
 rintro m127 _ w129 ⟨k, acc, rr, rq, ho, rfl, hk, hm, hal, hrr, hgo, eb130, rfl, H131⟩
 refine W_seq (W_seq ?_)
 refine W_rg [(0, .q 0), (1, .q 0), (2, .q 0), (3, .q 0), (4, .q 0), (5, .q 0), (6, .q 0), (7, .q 0)] (by kernel_rfl) ?_
 refine Lx_mv (v := (.int .i64 (k : Int))) rfl rfl rfl (Lx_mv (v := (.int .i64 (((rdNum ((rdId ((rdText ((rdAt ((rdAt q).2)).2) 60).2)).2) 1000).1) : Int))) rfl rfl rfl (Lx_q rfl rfl _ (fun v136 hv137 => R_cmp (a := (k : Int)) (b := (((rdNum ((rdId ((rdText ((rdAt ((rdAt q).2)).2) 60).2)).2) 1000).1) : Int)) (r := (decide ((k : Int) < (((rdNum ((rdId ((rdText ((rdAt ((rdAt q).2)).2) 60).2)).2) 1000).1) : Int)))) rfl rfl rfl qk) (Lx_mv (v := (.bool (decide ((k : Int) < (((rdNum ((rdId ((rdText ((rdAt ((rdAt q).2)).2) 60).2)).2) 1000).1) : Int))))) rfl rfl rfl ?_)))
 refine Lx_qt rfl rfl rfl rfl rfl _ (fun hA v140 hv141 => R_fieldAddr (off := 1) (oo := 1) Tryz.underlying110 rfl rfl Tryz.sizeOf4 rfl rfl qk) (Lx_qt rfl rfl rfl rfl rfl _ (fun hA v142 hv143 => R_load1 (v := (.bool rr.bad)) Tryz.isAgg4 (gv_t hA) ((H131.ext hv143).bx 2 rfl 1 1 1 1 _ rfl rfl rfl) qk) (Lx_qt rfl rfl rfl rfl rfl _ (fun hA v144 hv145 => R_not (gv_t hA) qk) (Lx_q rfl rfl _ (fun v146 hv147 => R_pick rfl pk_and qk) ?_)))
 refine Lx_nil (fun w148 hw149 => ?_)
 have H150 := H131.ext hw149
 refine Then_n ?_
 refine W_cond rfl (fun hc151 => ?_) (fun hc151 => ?_)
 ·have hc151 : (((k : Int) < (((rdNum ((rdId ((rdText ((rdAt ((rdAt q).2)).2) 60).2)).2) 1000).1) : Int)) ∧ rr.bad = false) := (And.imp (fun h => (of_decide_eq_true h)) (fun h => (notT h)) (andT hc151))
  refine W_skip (Then_n (W_seq (W_block (W_seq (W_reg ?_)))))
  refine O_v rfl (R_loadA (cs := [[(slV rr.bh rr.b)], [(.bool rr.bad)]]) Tryz.isAgg110 Tryz.sizeOf110 rfl rfl (H150.bx 2 rfl 0 2 0 0 _ rfl rfl rfl) ?_)
  refine O_v rfl (R_callL (vs := [(aggOf (rdCh rr))]) cF110 rfl rfl ((ref03_GetStamp rr Fr rq w148 (H150.sl 0 rfl) (H150.imm _ (List.mem_of_getElem? (i := 0) rfl)).2 hrr).ret ?_))
  rintro _ w153 ⟨x152, rfl, hx154, hr155, hs156⟩
  have H157 := H150.ext hx154
  have H158 := H157.immOf 0 rfl (slI Fr encB 1 x152.bh x152.b) (fun _ h => h) (fun _ => hs156)
  refine O_mv (v := (.tuple #[(aggOf (stampCh ((rdAt rq).1))), (aggOf (rdCh x152))])) rfl rfl (O_ex (v := (aggOf (stampCh ((rdAt rq).1)))) rfl rfl rfl (O_ex (v := (aggOf (rdCh x152))) rfl rfl rfl ?_))
  refine O_v rfl (C_alloc H158 [[(.int .i64 0)], [(.int .i64 0)]] Tryz.zeroValue69 ?_)
  intro b159 w160 hb161 hx162 H163
  refine O_v rfl (C_alloc H163 [[(.slice none 0 0)], [(.bool false)]] Tryz.zeroValue110 ?_)
  intro b164 w165 hb166 hx167 H168
  refine O_u (C_storeW H168 1 rfl (sub := [[(.int .i64 (((rdAt rq).1).T))], [(.int .i64 (((rdAt rq).1).R))]]) Tryz.sizeOf69 rfl rfl rfl rfl rfl ?_)
  intro w169 hg170 H171
  refine O_u (C_storeW H171 0 rfl (sub := [[(slV x152.bh x152.b)], [(.bool x152.bad)]]) Tryz.sizeOf110 rfl rfl rfl rfl rfl ?_)
  intro w172 hg173 H174
  refine O_nil (Then_n (W_seq (W_reg ?_)))
  refine O_v rfl (R_loadA (cs := [[(slV x152.bh x152.b)], [(.bool x152.bad)]]) Tryz.isAgg110 Tryz.sizeOf110 rfl rfl (H174.bx 0 rfl 0 2 0 0 _ rfl rfl rfl) ?_)
  refine O_v rfl (R_callL (vs := [(aggOf (rdCh x152))]) cF76 rfl rfl ((ref02_GetId x152 Fr ((rdAt rq).2) w172 (H174.sl 0 rfl) (H174.imm _ (List.mem_of_getElem? (i := 0) rfl)).2 hr155).ret ?_))
  rintro _ w176 ⟨x175, rfl, hx177, hr178, hs179⟩
  have H180 := H174.ext hx177
  have H181 := H180.immOf 0 rfl (slI Fr encB 1 x175.bh x175.b) (fun _ h => h) (fun _ => hs179)
  refine O_mv (v := (.tuple #[(aggOf (idCh ((rdId ((rdAt rq).2)).1))), (aggOf (rdCh x175))])) rfl rfl (O_ex (v := (aggOf (idCh ((rdId ((rdAt rq).2)).1)))) rfl rfl rfl (O_ex (v := (aggOf (rdCh x175))) rfl rfl rfl ?_))
  refine O_v rfl (C_alloc H181 [(idCells zeroId)] Tryz.zeroValue44 ?_)
  intro b182 w183 hb184 hx185 H186
  refine O_v rfl (C_alloc H186 [[(.slice none 0 0)], [(.bool false)]] Tryz.zeroValue110 ?_)
  intro b187 w188 hb189 hx190 H191
  refine O_u (C_storeW H191 1 rfl (sub := [(idCells ((rdId ((rdAt rq).2)).1))]) Tryz.sizeOf44 rfl rfl rfl rfl rfl ?_)
  intro w192 hg193 H194
  refine O_u (C_storeW H194 0 rfl (sub := [[(slV x175.bh x175.b)], [(.bool x175.bad)]]) Tryz.sizeOf110 rfl rfl rfl rfl rfl ?_)
  intro w195 hg196 H197
  refine O_nil (Then_n (W_seq (W_reg ?_)))
  refine O_v rfl (R_fieldAddr (off := 37) (oo := 37) Tryz.underlying77 rfl rfl Tryz.sizeOf75 rfl rfl ?_)
  refine O_v rfl (R_load1 (v := (slV ho acc)) Tryz.isAgg75 rfl (H197.bx 5 rfl 6 1 37 37 _ rfl rfl rfl) ?_)
  refine O_v rfl (R_loadA (cs := [[(.int .i64 (((rdAt rq).1).T))], [(.int .i64 (((rdAt rq).1).R))]]) Tryz.isAgg69 Tryz.sizeOf69 rfl rfl (H197.bx 3 rfl 0 2 0 0 _ rfl rfl rfl) ?_)
  refine O_v rfl (R_loadA (cs := [(idCells ((rdId ((rdAt rq).2)).1))]) Tryz.isAgg44 Tryz.sizeOf44 rfl rfl (H197.bx 1 rfl 0 1 0 0 _ rfl rfl rfl) ?_)
  refine O_v rfl (R_buildL (vs := [(0, (aggOf (stampCh ((rdAt rq).1)))), (1, (aggOf (idCh ((rdId ((rdAt rq).2)).1))))]) (v := aggOf [[(.int .i64 (((rdAt rq).1).T))], [(.int .i64 (((rdAt rq).1).R))], (idCells ((rdId ((rdAt rq).2)).1))]) rfl (fun _ => by kernel_rfl) ?_)
  refine O_v rfl (C_buildSliceL H197 (enc := headCh) (val := headV) ([({ tm := ((rdAt rq).1), data := (rdId ((rdAt rq).2)).1 } : Head)] : List Head) Tryz.underlying75 Tryz.sizeOf84 Tryz.zeroValue84 rfl (by decide) (fun _ => rfl) (fun _ => rfl) rfl rfl (by decide) ?_)
  intro b198 w199 hb200 hx201 H202
  refine O_v rfl (C_append H202 5 rfl (bytes := 48) (l := acc) (ys := ([({ tm := ((rdAt rq).1), data := (rdId ((rdAt rq).2)).1 } : Head)] : List Head)) Tryz.underlying75 rfl rfl rfl rfl rfl (by decide) rfl rfl (OwnS.sl (H202.getOwn 0 rfl) (fun _ => rfl)) (fun _ => rfl) (fun _ => rfl) (by simp only [List.length_append, List.length_cons, List.length_nil]; omega) (by decide) ?_)
  intro h203 w204 hg205 H206
  refine O_v rfl (R_fieldAddr (off := 37) (oo := 37) Tryz.underlying77 rfl rfl Tryz.sizeOf75 rfl rfl ?_)
  refine O_u (C_store1 H206 6 rfl 6 (v := (slV h203 (acc ++ ([({ tm := ((rdAt rq).1), data := (rdId ((rdAt rq).2)).1 } : Head)] : List Head)))) [[(.int .i64 (((rdAt q).1).T))], [(.int .i64 (((rdAt q).1).R))], [(.int .i64 (((rdAt ((rdAt q).2)).1).T))], [(.int .i64 (((rdAt ((rdAt q).2)).1).R))], [(.string ((rdText ((rdAt ((rdAt q).2)).2) 60).1))], (idCells ((rdId ((rdText ((rdAt ((rdAt q).2)).2) 60).2)).1)), [(slV h203 (acc ++ ([({ tm := ((rdAt rq).1), data := (rdId ((rdAt rq).2)).1 } : Head)] : List Head)))]] Tryz.sizeOf75 rfl rfl rfl rfl rfl rfl rfl ?_)
  intro w207 hg208 H209
  refine O_nil (Then_n (W_reg ?_))
  refine O_v rfl (R_loadA (cs := [[(slV x175.bh x175.b)], [(.bool x175.bad)]]) Tryz.isAgg110 Tryz.sizeOf110 rfl rfl (H209.bx 1 rfl 0 2 0 0 _ rfl rfl rfl) ?_)
  refine O_u (C_storeW H209 7 rfl (sub := [[(slV x175.bh x175.b)], [(.bool x175.bad)]]) Tryz.sizeOf110 rfl rfl rfl rfl rfl ?_)
  intro w210 hg211 H212
  refine O_nil (Blk_n (Then_n (W_reg ?_)))
  refine O_mv (v := (.int .i64 (k : Int))) rfl rfl ?_
  refine O_v rfl (R_arith (a := (k : Int)) (b := 1) (r0 := (k : Int) + 1) (r := ((k + 1 : Nat) : Int)) rfl rfl rfl (wrapN _ (by omega)) ?_)
  refine O_as (v := (.int .i64 ((k + 1 : Nat) : Int))) rfl rfl ?_
  refine O_nil (Then_n ?_)
  have H213 := H212.sub (List.Sublist.cons _ (List.Sublist.cons _ (List.Sublist.cons _ (List.Sublist.cons _ (List.Sublist.cons _ (List.Sublist.cons_cons _ (List.Sublist.cons_cons _ (List.Sublist.cons_cons _ (List.Sublist.cons_cons _ (List.Sublist.cons_cons _ (List.Sublist.cons_cons _ (List.Sublist.cons_cons _ (List.Sublist.cons_cons _ (List.Sublist.cons_cons _ (List.Sublist.cons_cons _ (List.Sublist.cons_cons _ (List.Sublist.cons_cons _ (List.Sublist.cons_cons _ List.Sublist.slnil)))))))))))))))))) (List.forall_mem_cons.2 ⟨List.mem_of_getElem? (i := 0) rfl, List.forall_mem_cons.2 ⟨List.mem_of_getElem? (i := 3) rfl, List.forall_mem_cons.2 ⟨List.mem_of_getElem? (i := 4) rfl, List.forall_mem_cons.2 ⟨List.mem_of_getElem? (i := 5) rfl, List.forall_mem_cons.2 ⟨List.mem_of_getElem? (i := 6) rfl, List.forall_mem_cons.2 ⟨List.mem_of_getElem? (i := 7) rfl, memN⟩⟩⟩⟩⟩⟩)
  refine ⟨_, ?_, (k + 1), (acc ++ ([({ tm := ((rdAt rq).1), data := (rdId ((rdAt rq).2)).1 } : Head)] : List Head)), x175, ((rdHead rq).2), h203, rfl, (by omega), hm, (by simp only [List.length_append, List.length_cons, List.length_nil]; omega), hr178, (headsR_next hgo (by omega) (by rw [← hrr]; exact (hc151).2)), _, envL_self ⟨rfl, rfl, rfl, rfl, rfl, rfl, trivial⟩, H213⟩
  omega
 ·have hc151 : (¬ ((k : Int) < (((rdNum ((rdId ((rdText ((rdAt ((rdAt q).2)).2) 60).2)).2) 1000).1) : Int)) ∨ rr.bad = true) := (Or.imp (fun h => (of_decide_eq_false h)) (fun h => (notF h)) (andF hc151))
  refine W_exit (Then_x (Then_x (Blk_x (Then_n (W_seq ?_)))))
  refine W_rgdM TryzMixed (fun c => c = b9) (fun i => if i == 2 then 1 else if i == 3 then 2 else 0) [(0, .q 1), (1, .q 1), (2, .c 1), (3, .c 2)] (by kernel_rfl) ?_
  refine Lx_q rfl rfl _ (fun v214 hv215 => R_loadA (cs := [[(.int .i64 (((rdAt q).1).T))], [(.int .i64 (((rdAt q).1).R))], [(.int .i64 (((rdAt ((rdAt q).2)).1).T))], [(.int .i64 (((rdAt ((rdAt q).2)).1).R))], [(.string ((rdText ((rdAt ((rdAt q).2)).2) 60).1))], (idCells ((rdId ((rdText ((rdAt ((rdAt q).2)).2) 60).2)).1)), [(slV ho acc)]]) Tryz.isAgg77 Tryz.sizeOf77 rfl rfl ((boxR_at (H150.ownGr 1 11 (by decide) rfl rfl hv215 (fun _ h => congrArg some h.symm))).chunks 0 7 0 0 _ rfl rfl rfl) qk) (Lx_q rfl rfl _ (fun v216 hv217 => R_loadA (cs := [[(slV rr.bh rr.b)], [(.bool rr.bad)]]) Tryz.isAgg110 Tryz.sizeOf110 rfl rfl ((boxR_at (H150.ownGr 2 11 (by decide) rfl rfl hv217 (fun _ h => congrArg some h.symm))).chunks 0 2 0 0 _ rfl rfl rfl) qk) ?_)
  refine Lx_cu rfl (fun w218 hw219 => ?_)
  have H220 := H150.ext hw219
  refine (C_storeW H220 11 rfl (sub := [[(.int .i64 (((rdAt q).1).T))], [(.int .i64 (((rdAt q).1).R))], [(.int .i64 (((rdAt ((rdAt q).2)).1).T))], [(.int .i64 (((rdAt ((rdAt q).2)).1).R))], [(.string ((rdText ((rdAt ((rdAt q).2)).2) 60).1))], (idCells ((rdId ((rdText ((rdAt ((rdAt q).2)).2) 60).2)).1)), [(slV ho acc)]]) Tryz.sizeOf77 rfl rfl rfl rfl rfl ?_)
  intro w221 hg222 H223
  refine ⟨Gr.mono hg222 (fun _ h => (Option.some.inj h).symm), ?_⟩
  refine Lx_cu rfl (fun w224 hw225 => ?_)
  have H226 := H223.ext hw225
  refine (C_storeW H226 10 rfl (sub := [[(slV rr.bh rr.b)], [(.bool rr.bad)]]) Tryz.sizeOf110 rfl rfl rfl rfl rfl ?_)
  intro w227 hg228 H229
  refine ⟨Gr.mono (M' := fun _ => True) hg228 (fun _ _ => trivial), ?_⟩
  refine Lx_nil (fun w230 hw231 => ?_)
  have H232 := H229.ext hw231
  refine Then_n (W_ret ?_)
  refine ret_cc Tryz.results74 (inMem (cs := [[(.int .i64 (((rdAt q).1).T))], [(.int .i64 (((rdAt q).1).R))], [(.int .i64 (((rdAt ((rdAt q).2)).1).T))], [(.int .i64 (((rdAt ((rdAt q).2)).1).R))], [(.string ((rdText ((rdAt ((rdAt q).2)).2) 60).1))], (idCells ((rdId ((rdText ((rdAt ((rdAt q).2)).2) 60).2)).1)), [(slV ho acc)]]) rfl Tryz.isAgg77 Tryz.sizeOf77 rfl (boxR_at (H232.getOwn 11 rfl))) (inMem (cs := [[(slV rr.bh rr.b)], [(.bool rr.bad)]]) rfl Tryz.isAgg110 Tryz.sizeOf110 rfl (boxR_at (H232.getOwn 10 rfl))) ?_
  exact ⟨({ node := ((rdAt q).1), tm := ((rdAt ((rdAt q).2)).1), name := (rdText ((rdAt ((rdAt q).2)).2) 60).1, sub := (rdId ((rdText ((rdAt ((rdAt q).2)).2) 60).2)).1, heads := acc, hh := ho } : ItemS), rr, rfl, H232.gr, H232.retRow 0 rfl, (congrArg (ItemC.mk _ _ _ _) (congrArg Prod.fst (headsR_end hgo hrr hc151))), (hrr.trans (congrArg Prod.snd (headsR_end hgo hrr hc151))), (H232.sl 0 rfl)⟩
theorem cF16 : callable Tryz.prog 16 = true := by kernel_rfl
theorem cF74 : callable Tryz.prog 74 = true := by kernel_rfl
set_option maxHeartbeats 4000000 in
theorem ref04_Dir (hb : SlH) (b : List UInt8) (w : World) (Sb : Sl (Old w) encB 1 hb b w) :
    Calls Tryz.prog 32 #[(slV hb b)] w (Ret fun v w' => ∃ (h : SlH) (l : List ItemS) (S : Nat → Prop), v = .tuple #[slV h l, (.bool (DirB b))] ∧ Ext w w' ∧ OwnS w.heap.size 77 38 itemCh h l w' ∧ (∀ b, S b → w.heap.size ≤ b ∧ b < w'.heap.size ∧ (slV h l).ownBlock ≠ some b) ∧ (∀ x ∈ l, Sl S headCh 34 x.hh x.heads w') ∧ (l.map ItemS.core = (dirOf b).1)) := by
 refine calls_W Tryz.func32 rfl Tryz.ntmps32 rfl ?_
 have H0 := Ctx.start w nob
 have H1 := H0.addSl _ Sb (fun b hb => ⟨hb, fun _ ho => (nomatch ho)⟩)
 have LSb := Sb.len
 refine W_seq (W_reg ?_)
 refine O_as (v := (.slice none 0 0)) rfl rfl (O_as (v := (.bool false)) rfl rfl ?_)
 refine O_nil (Then_n (W_seq (W_reg ?_)))
 refine O_mv (v := (slV hb b)) rfl rfl ?_
 refine O_v rfl (R_callL (vs := [(slV hb b), (.int .u8 2)]) cF73 rfl rfl ((ref04_open hb b (Old w) 2 w (H1.sl 0 rfl) (H1.imm _ (List.mem_of_getElem? (i := 0) rfl)).2).ret ?_))
 rintro _ w3 ⟨x2, rfl, hx4, hr5, hs6⟩
 have H7 := H1.ext hx4
 have H8 := H7.immOf 0 rfl (slI (Old w) encB 1 x2.bh x2.b) (fun _ h => h) (fun _ => hs6)
 refine O_v rfl (R_callL (vs := [(aggOf (rdCh x2)), (.int .i64 1000)]) cF72 rfl rfl ((ref02_GetNum x2 (Old w) (openSt b 2) 1000 w3 (H8.sl 0 rfl) (H8.imm _ (List.mem_of_getElem? (i := 0) rfl)).2 hr5).ret ?_))
 rintro _ w10 ⟨x9, rfl, hx11, hr12, hs13⟩
 have H14 := H8.ext hx11
 have H15 := H14.immOf 0 rfl (slI (Old w) encB 1 x9.bh x9.b) (fun _ h => h) (fun _ => hs13)
 refine O_mv (v := (.tuple #[(.int .i64 (((rdNum (openSt b 2) 1000).1) : Int)), (aggOf (rdCh x9))])) rfl rfl (O_ex (v := (.int .i64 (((rdNum (openSt b 2) 1000).1) : Int))) rfl rfl rfl (O_ex (v := (aggOf (rdCh x9))) rfl rfl rfl ?_))
 refine O_v rfl (C_alloc H15 [[(.slice none 0 0)], [(.bool false)]] Tryz.zeroValue110 ?_)
 intro b16 w17 hb18 hx19 H20
 refine O_as (v := (.int .i64 (((rdNum (openSt b 2) 1000).1) : Int))) rfl rfl ?_
 refine O_u (C_storeW H20 0 rfl (sub := [[(slV x9.bh x9.b)], [(.bool x9.bad)]]) Tryz.sizeOf110 rfl rfl rfl rfl rfl ?_)
 intro w21 hg22 H23
 refine O_nil (Then_n (W_seq (W_reg ?_)))
 refine O_v rfl (C_buildSliceL H23 (enc := itemCh) (val := itemV) ([] : List ItemS) Tryz.underlying31 Tryz.sizeOf77 Tryz.zeroValue77 rfl (by decide) (fun _ => rfl) (fun _ => rfl) rfl rfl (by decide) ?_)
 intro b24 w25 hb26 hx27 H28
 refine O_as (v := (slV ⟨some ⟨b24, 0, none⟩, b24, 0, 0⟩ ([] : List ItemS))) rfl rfl ?_
 refine O_nil (Then_n (W_seq (W_seq (W_reg ?_))))
 refine O_as (v := (.int .i64 0)) rfl rfl ?_
 refine O_nil (Then_n (W_block ?_))
 have H29 := H28.deepNil headCh 34 (fun x : ItemS => x.hh) (fun x : ItemS => x.heads)
 refine W_loop (fun m31 e32 w33 => ∃ (k : Nat), ∃ (acc : List ItemS), ∃ (S : Nat → Prop), ∃ (rr : RdS), ∃ (rq : List UInt8 × Bool), ∃ (h30 : SlH), m31 = (rdNum (openSt b 2) 1000).1 - k ∧ (k ≤ (rdNum (openSt b 2) 1000).1) ∧ ((rdNum (openSt b 2) 1000).1 ≤ 1000) ∧ (acc.length ≤ k) ∧ (∀ x ∈ acc, x.name.size ≤ 9223372036854775807) ∧ (∀ b, S b → w.heap.size ≤ b) ∧ (rr.st = rq) ∧ (stopR rq (acc.map ItemS.core) (rdItems ((rdNum (openSt b 2) 1000).1 - k) (acc.map ItemS.core) rq) = dirRd b) ∧ ∃ eb34, e32 = envL [(2, (.slice none 0 0)), (3, (.bool false)), (4, (.int .i64 (((rdNum (openSt b 2) 1000).1) : Int))), (5, (.pointer (some ⟨b16, 0, none⟩))), (6, (slV h30 acc)), (7, (.int .i64 (k : Int)))] eb34 ∧ Ctx w nob w33 [rowR 77 38 itemCh h30 acc, boxR b16 110 [[(slV rr.bh rr.b)], [(.bool rr.bad)]]] [deepI S headCh 34 (fun x : ItemS => x.hh) (fun x : ItemS => x.heads) acc, slI (Old w) encB 1 rr.bh rr.b, slI (Old w) encB 1 x2.bh x2.b, slI (Old w) encB 1 hb b]) _ ⟨0, [], nob, x9, ((rdNum (openSt b 2) 1000).2), ⟨some ⟨b24, 0, none⟩, b24, 0, 0⟩, rfl, (by omega), (rdNum_le _ (by decide)), (by simp), (fun _ h => (nomatch h)), (fun _ h => h.elim), hr12, itemsR_start, _, envL_self ⟨rfl, rfl, rfl, rfl, rfl, rfl, trivial⟩, H29⟩ ?_
 rintro m31 _ w33 ⟨k, acc, S, rr, rq, h30, rfl, hk, hm, hal, hnm, hS, hrr, hgo, eb34, rfl, H35⟩
 refine W_seq (W_seq ?_)
 refine W_rg [(0, .q 0), (1, .q 0), (2, .q 0), (3, .q 0), (4, .q 0), (5, .q 0), (6, .q 0), (7, .q 0)] (by kernel_rfl) ?_
 refine Lx_mv (v := (.int .i64 (k : Int))) rfl rfl rfl (Lx_mv (v := (.int .i64 (((rdNum (openSt b 2) 1000).1) : Int))) rfl rfl rfl (Lx_q rfl rfl _ (fun v40 hv41 => R_cmp (a := (k : Int)) (b := (((rdNum (openSt b 2) 1000).1) : Int)) (r := (decide ((k : Int) < (((rdNum (openSt b 2) 1000).1) : Int)))) rfl rfl rfl qk) (Lx_mv (v := (.bool (decide ((k : Int) < (((rdNum (openSt b 2) 1000).1) : Int))))) rfl rfl rfl ?_)))
 refine Lx_qt rfl rfl rfl rfl rfl _ (fun hA v44 hv45 => R_fieldAddr (off := 1) (oo := 1) Tryz.underlying110 rfl rfl Tryz.sizeOf4 rfl rfl qk) (Lx_qt rfl rfl rfl rfl rfl _ (fun hA v46 hv47 => R_load1 (v := (.bool rr.bad)) Tryz.isAgg4 (gv_t hA) ((H35.ext hv47).bx 1 rfl 1 1 1 1 _ rfl rfl rfl) qk) (Lx_qt rfl rfl rfl rfl rfl _ (fun hA v48 hv49 => R_not (gv_t hA) qk) (Lx_q rfl rfl _ (fun v50 hv51 => R_pick rfl pk_and qk) ?_)))
 refine Lx_nil (fun w52 hw53 => ?_)
 have H54 := H35.ext hw53
 refine Then_n ?_
 refine W_cond rfl (fun hc55 => ?_) (fun hc55 => ?_)
 ·have hc55 : (((k : Int) < (((rdNum (openSt b 2) 1000).1) : Int)) ∧ rr.bad = false) := (And.imp (fun h => (of_decide_eq_true h)) (fun h => (notT h)) (andT hc55))
  refine W_skip (Then_n (W_seq (W_block (W_seq (W_reg ?_)))))
  refine O_v rfl (R_loadA (cs := [[(slV rr.bh rr.b)], [(.bool rr.bad)]]) Tryz.isAgg110 Tryz.sizeOf110 rfl rfl (H54.bx 1 rfl 0 2 0 0 _ rfl rfl rfl) ?_)
  refine O_v rfl (R_callL (vs := [(aggOf (rdCh rr))]) cF74 rfl rfl ((ref04_item rr (Old w) rq w52 (H54.sl 1 rfl) (H54.imm _ (List.mem_of_getElem? (i := 1) rfl)).2 hrr).ret ?_))
  rintro _ w57 ⟨x63, x56, rfl, hx58, ho64, hx65, hr59, hs60⟩
  have H61 := H54.addRow hx58 ho64
  have H62 := H61.immOf 1 rfl (slI (Old w) encB 1 x56.bh x56.b) (fun _ h => h) (fun _ => hs60)
  refine O_mv (v := (.tuple #[(aggOf (itemCh x63)), (aggOf (rdCh x56))])) rfl rfl (O_ex (v := (aggOf (itemCh x63))) rfl rfl rfl (O_ex (v := (aggOf (rdCh x56))) rfl rfl rfl ?_))
  refine O_v rfl (C_alloc H62 [[(.int .i64 0)], [(.int .i64 0)], [(.int .i64 0)], [(.int .i64 0)], [(.string ByteArray.empty)], (idCells zeroId), [(.slice none 0 0)]] Tryz.zeroValue77 ?_)
  intro b66 w67 hb68 hx69 H70
  refine O_v rfl (C_alloc H70 [[(.slice none 0 0)], [(.bool false)]] Tryz.zeroValue110 ?_)
  intro b71 w72 hb73 hx74 H75
  refine O_u (C_storeW H75 1 rfl (sub := [[(.int .i64 x63.node.T)], [(.int .i64 x63.node.R)], [(.int .i64 x63.tm.T)], [(.int .i64 x63.tm.R)], [(.string x63.name)], (idCells x63.sub), [(slV x63.hh x63.heads)]]) Tryz.sizeOf77 rfl rfl rfl rfl rfl ?_)
  intro w76 hg77 H78
  refine O_u (C_storeW H78 0 rfl (sub := [[(slV x56.bh x56.b)], [(.bool x56.bad)]]) Tryz.sizeOf110 rfl rfl rfl rfl rfl ?_)
  intro w79 hg80 H81
  refine O_nil (Then_n (W_seq (W_reg ?_)))
  refine O_mv (v := (slV h30 acc)) rfl rfl ?_
  refine O_v rfl (R_loadA (cs := [[(.int .i64 x63.node.T)], [(.int .i64 x63.node.R)], [(.int .i64 x63.tm.T)], [(.int .i64 x63.tm.R)], [(.string x63.name)], (idCells x63.sub), [(slV x63.hh x63.heads)]]) Tryz.isAgg77 Tryz.sizeOf77 rfl rfl (H81.bx 1 rfl 0 7 0 0 _ rfl rfl rfl) ?_)
  refine O_v rfl (C_buildSliceL H81 (enc := itemCh) (val := itemV) ([x63] : List ItemS) Tryz.underlying31 Tryz.sizeOf77 Tryz.zeroValue77 rfl (by decide) (fun _ => rfl) (fun _ => rfl) rfl rfl (by decide) ?_)
  intro b82 w83 hb84 hx85 H86
  refine O_v rfl (C_append H86 4 rfl (bytes := 104) (l := acc) (ys := ([x63] : List ItemS)) Tryz.underlying31 rfl rfl rfl rfl rfl (by decide) rfl rfl (OwnS.sl (H86.getOwn 0 rfl) (fun _ => rfl)) (fun _ => rfl) (fun _ => rfl) (by simp only [List.length_append, List.length_cons, List.length_nil]; omega) (by decide) ?_)
  intro h87 w88 hg89 H90
  refine O_as (v := (slV h87 (acc ++ ([x63] : List ItemS)))) rfl rfl ?_
  refine O_nil (Then_n (W_reg ?_))
  refine O_v rfl (R_loadA (cs := [[(slV x56.bh x56.b)], [(.bool x56.bad)]]) Tryz.isAgg110 Tryz.sizeOf110 rfl rfl (H90.bx 1 rfl 0 2 0 0 _ rfl rfl rfl) ?_)
  refine O_u (C_storeW H90 5 rfl (sub := [[(slV x56.bh x56.b)], [(.bool x56.bad)]]) Tryz.sizeOf110 rfl rfl rfl rfl rfl ?_)
  intro w91 hg92 H93
  refine O_nil (Blk_n (Then_n (W_reg ?_)))
  refine O_mv (v := (.int .i64 (k : Int))) rfl rfl ?_
  refine O_v rfl (R_arith (a := (k : Int)) (b := 1) (r0 := (k : Int) + 1) (r := ((k + 1 : Nat) : Int)) rfl rfl rfl (wrapN _ (by omega)) ?_)
  refine O_as (v := (.int .i64 ((k + 1 : Nat) : Int))) rfl rfl ?_
  refine O_nil (Then_n ?_)
  have H94 := H93.freeze 3 rfl (fun _ => rfl)
  have H95 := H94.deepSnoc 2 rfl 0 rfl (x63) rfl rfl
  have H96 := H95.sub (List.Sublist.cons _ (List.Sublist.cons _ (List.Sublist.cons _ (List.Sublist.cons_cons _ (List.Sublist.cons_cons _ List.Sublist.slnil))))) (List.forall_mem_cons.2 ⟨List.mem_of_getElem? (i := 0) rfl, List.forall_mem_cons.2 ⟨List.mem_of_getElem? (i := 2) rfl, List.forall_mem_cons.2 ⟨List.mem_of_getElem? (i := 5) rfl, List.forall_mem_cons.2 ⟨List.mem_of_getElem? (i := 6) rfl, memN⟩⟩⟩⟩)
  refine ⟨_, ?_, (k + 1), (acc ++ ([x63] : List ItemS)), (fun b => S b ∨ (fun z_ => (slV x63.hh x63.heads).ownBlock = some z_) b), x56, ((rdItem rq).2), h87, rfl, (by omega), hm, (by simp only [List.length_append, List.length_cons, List.length_nil]; omega), (names_snoc hnm (item_name hx65)), (fun b hb => hb.elim (hS b) (H93.newRow 3 rfl b)), hr59, (itemsR_next hgo (by omega) hx65 (by rw [← hrr]; exact (hc55).2)), _, envL_self ⟨rfl, rfl, rfl, rfl, rfl, rfl, trivial⟩, H96⟩
  omega
 ·have hc55 : (¬ ((k : Int) < (((rdNum (openSt b 2) 1000).1) : Int)) ∨ rr.bad = true) := (Or.imp (fun h => (of_decide_eq_false h)) (fun h => (notF h)) (andF hc55))
  refine W_exit (Then_x (Then_x (Blk_x (Then_n (W_seq (W_seq ?_))))))
  refine W_rg [(0, .q 0), (1, .q 0), (2, .q 0), (3, .q 0), (4, .q 0), (5, .q 0), (6, .q 0), (7, .q 0)] (by kernel_rfl) ?_
  refine Lx_q rfl rfl _ (fun v97 hv98 => R_loadA (cs := [[(slV rr.bh rr.b)], [(.bool rr.bad)]]) Tryz.isAgg110 Tryz.sizeOf110 rfl rfl ((H54.ext hv98).bx 1 rfl 0 2 0 0 _ rfl rfl rfl) qk) (Lx_q rfl rfl (.bool (rdDone rq)) (fun v99 hv100 => R_callL (vs := [(aggOf (rdCh rr))]) cF75 rfl rfl (ref02_Done rr (Old w) rq v99 ((H54.ext hv100).sl 1 rfl) ((H54.ext hv100).imm _ (List.mem_of_getElem? (i := 1) rfl)).2 hrr)) (Lx_q rfl rfl _ (fun v101 hv102 => R_not rfl qk) (Lx_mv (v := (.bool (!(rdDone rq)))) rfl rfl rfl ?_)))
  refine Lx_qf rfl rfl rfl rfl rfl _ (fun hA v105 hv106 => R_move (v := (slV h30 acc)) rfl qk) (Lx_qf rfl rfl rfl rfl rfl (.bool (dirOk acc)) (fun hA v107 hv108 => R_callL (vs := [(slV h30 acc)]) cF16 rfl (lst1 (gv_t hA)) (ref04_RightDir h30 acc v107 ((H54.ext hv108).rowSl 0 rfl (fun _ => rfl)) ((H54.ext hv108).deepOld 0 rfl) hnm)) (Lx_qf rfl rfl rfl rfl rfl _ (fun hA v109 hv110 => R_not (gv_t hA) qk) (Lx_q rfl rfl _ (fun v111 hv112 => R_pick rfl pk_or qk) ?_)))
  refine Lx_nil (fun w113 hw114 => ?_)
  have H115 := H54.ext hw114
  refine Then_n ?_
  refine W_cond rfl (fun hc116 => ?_) (fun hc116 => ?_)
  ·have hc116 : ((rdDone rq) = false ∨ (dirOk acc) = false) := (Or.imp (fun h => (notT h)) (fun h => (notT h)) (orT hc116))
   refine W_seq (W_reg ?_)
   refine O_as (v := (.slice none 0 0)) rfl rfl (O_as (v := (.bool false)) rfl rfl ?_)
   refine O_nil (Then_n (W_ret (Then_r ?_)))
   refine ret_2 (v := (.slice none 0 0)) (v' := (.bool false)) Tryz.results32 rfl rfl ?_
   have H117 := H115.addNil 77 38 itemCh
   have H118 := H117.deepNil headCh 34 (fun x : ItemS => x.hh) (fun x : ItemS => x.heads)
   exact ⟨nilH, ([] : List ItemS), nob, (bool_val (dirR_no (itemsR_end hgo hrr hc55) hc116).1), H118.gr, H118.retRow 0 rfl, H118.retDeep 0 rfl 0 rfl (fun _ h => h.elim), H118.getImm 0 rfl, (dirR_no (itemsR_end hgo hrr hc55) hc116).2⟩
  ·have hc116 : ((rdDone rq) = true ∧ (dirOk acc) = true) := (And.imp (fun h => (notF h)) (fun h => (notF h)) (orF hc116))
   refine W_skip (Then_n (W_seq (W_reg ?_)))
   refine O_mv (v := (slV h30 acc)) rfl rfl (O_as (v := (slV h30 acc)) rfl rfl (O_as (v := (.bool true)) rfl rfl ?_))
   refine O_nil (Then_n (W_ret ?_))
   refine ret_2 (v := (slV h30 acc)) (v' := (.bool true)) Tryz.results32 rfl rfl ?_
   exact ⟨h30, acc, S, (bool_val (dirR_yes (itemsR_end hgo hrr hc55) hc116).1), H115.gr, H115.retRow 0 rfl, H115.retDeep 0 rfl 0 rfl hS, H115.getImm 0 rfl, (dirR_yes (itemsR_end hgo hrr hc55) hc116).2⟩
set_option maxHeartbeats 1000000 in
theorem ref04_RightLabel (l : Label) (w : World) (hl : l.name.size ≤ 9223372036854775807) :
    Calls Tryz.prog 29 #[(aggOf (labelCh l))] w (Ret fun v w' => v = (.bool (labelOk l)) ∧ Ext w w') := by
 refine calls_W Tryz.func29 rfl Tryz.ntmps29 rfl ?_
 have H0 := Ctx.start w nob
 refine W_seq (W_reg ?_)
 refine O_v rfl (C_box H0 [(idCells l.target), [(.string l.name)], [(.string l.msg)]] rfl ?_)
 intro b1 w2 hb3 hx4 H5
 refine O_as (v := (.bool false)) rfl rfl ?_
 refine O_nil (Then_n (W_seq ?_))
 refine W_rg [(0, .q 0), (1, .q 0), (2, .q 0), (3, .q 0), (4, .q 0), (5, .q 0), (6, .q 0), (7, .q 0), (8, .q 0), (9, .q 0), (10, .q 0), (11, .q 0), (12, .q 0), (13, .q 0), (14, .q 0), (15, .q 0)] (by kernel_rfl) ?_
 refine Lx_q rfl rfl _ (fun v6 hv7 => R_fieldAddr (off := 0) (oo := 0) Tryz.underlying55 rfl rfl Tryz.sizeOf45 rfl rfl qk) (Lx_q rfl rfl _ (fun v8 hv9 => R_loadA (cs := [(idCells l.target)]) Tryz.isAgg45 Tryz.sizeOf45 rfl rfl ((H5.ext hv9).bx 0 rfl 0 1 0 0 _ rfl rfl rfl) qk) (Lx_q rfl rfl (.bool (decide (l.target = zeroId))) (fun v10 hv11 => R_callL (vs := [(aggOf (idCh l.target))]) cF60 rfl rfl (ref04_zero l.target v10 )) (Lx_q rfl rfl _ (fun v12 hv13 => R_not rfl qk) ?_)))
 refine Lx_mv (v := (.bool (!(decide (l.target = zeroId))))) rfl rfl rfl (Lx_qt rfl rfl rfl rfl rfl _ (fun hA v16 hv17 => R_fieldAddr (off := 32) (oo := 32) Tryz.underlying55 rfl rfl Tryz.sizeOf9 rfl rfl qk) (Lx_qt rfl rfl rfl rfl rfl _ (fun hA v18 hv19 => R_load1 (v := (.string l.name)) Tryz.isAgg9 (gv_t hA) ((H5.ext hv19).bx 0 rfl 1 1 32 32 _ rfl rfl rfl) qk) (Lx_qt rfl rfl rfl rfl rfl (.bool (nameOk l.name)) (fun hA v20 hv21 => R_callL (vs := [(.string l.name)]) cF71 rfl (lst1 (gv_t hA)) (ref03_Name l.name v20 hl)) ?_)))
 refine Lx_q rfl rfl _ (fun v22 hv23 => R_pick rfl pk_and qk) (Lx_mv (v := (.bool ((!(decide (l.target = zeroId))) && (nameOk l.name)))) rfl rfl rfl (Lx_qt rfl rfl rfl rfl rfl _ (fun hA v26 hv27 => R_fieldAddr (off := 33) (oo := 33) Tryz.underlying55 rfl rfl Tryz.sizeOf9 rfl rfl qk) (Lx_qt rfl rfl rfl rfl rfl _ (fun hA v28 hv29 => R_load1 (v := (.string l.msg)) Tryz.isAgg9 (gv_t hA) ((H5.ext hv29).bx 0 rfl 2 1 33 33 _ rfl rfl rfl) qk) ?_)))
 refine Lx_qt rfl rfl rfl rfl rfl _ (fun hA v30 hv31 => R_len_string Tryz.underlying9 (gv_t hA) qk) (Lx_qt rfl rfl rfl rfl rfl _ (fun hA v32 hv33 => R_cmp (a := (l.msg.size : Int)) (b := 200) (r := (decide ((l.msg.size : Int) ≤ 200))) (gv_t hA) rfl rfl qk) (Lx_q rfl rfl _ (fun v34 hv35 => R_pick rfl pk_and qk) (Lx_q rfl rfl _ (fun v36 hv37 => R_assign (v := (.bool (((!(decide (l.target = zeroId))) && (nameOk l.name)) && (decide ((l.msg.size : Int) ≤ 200))))) rfl qk) ?_)))
 refine Lx_nil (fun w38 hw39 => ?_)
 have H40 := H5.ext hw39
 refine Then_n (W_ret ?_)
 refine ret_1 (v := (.bool (((!(decide (l.target = zeroId))) && (nameOk l.name)) && (decide ((l.msg.size : Int) ≤ 200))))) Tryz.results29 rfl ?_
 exact ⟨label_eq, H40.gr⟩
theorem cF29 : callable Tryz.prog 29 = true := by kernel_rfl
set_option maxHeartbeats 1000000 in
theorem ref04_Label (hb : SlH) (b : List UInt8) (w : World) (Sb : Sl (Old w) encB 1 hb b w) :
    Calls Tryz.prog 34 #[(slV hb b)] w (Ret fun v w' => v = .tuple #[(aggOf (labelCh ((labelOf b).1))), (.bool (decide ((labelOf b).2 = 0)))] ∧ Ext w w') := by
 refine calls_W Tryz.func34 rfl Tryz.ntmps34 rfl ?_
 have H0 := Ctx.start w nob
 have H1 := H0.addSl _ Sb (fun b hb => ⟨hb, fun _ ho => (nomatch ho)⟩)
 have LSb := Sb.len
 refine W_seq (W_reg ?_)
 refine O_v rfl (C_alloc H1 [(idCells zeroId), [(.string ByteArray.empty)], [(.string ByteArray.empty)]] Tryz.zeroValue55 ?_)
 intro b2 w3 hb4 hx5 H6
 refine O_as (v := (.bool false)) rfl rfl ?_
 refine O_nil (Then_n (W_seq (W_reg ?_)))
 refine O_mv (v := (slV hb b)) rfl rfl ?_
 refine O_v rfl (R_callL (vs := [(slV hb b), (.int .u8 4)]) cF73 rfl rfl ((ref04_open hb b (Old w) 4 w3 (H6.sl 0 rfl) (H6.imm _ (List.mem_of_getElem? (i := 0) rfl)).2).ret ?_))
 rintro _ w8 ⟨x7, rfl, hx9, hr10, hs11⟩
 have H12 := H6.ext hx9
 have H13 := H12.immOf 0 rfl (slI (Old w) encB 1 x7.bh x7.b) (fun _ h => h) (fun _ => hs11)
 refine O_v rfl (R_callL (vs := [(aggOf (rdCh x7))]) cF76 rfl rfl ((ref02_GetId x7 (Old w) (openSt b 4) w8 (H13.sl 0 rfl) (H13.imm _ (List.mem_of_getElem? (i := 0) rfl)).2 hr10).ret ?_))
 rintro _ w15 ⟨x14, rfl, hx16, hr17, hs18⟩
 have H19 := H13.ext hx16
 have H20 := H19.immOf 0 rfl (slI (Old w) encB 1 x14.bh x14.b) (fun _ h => h) (fun _ => hs18)
 refine O_mv (v := (.tuple #[(aggOf (idCh ((rdId (openSt b 4)).1))), (aggOf (rdCh x14))])) rfl rfl (O_ex (v := (aggOf (idCh ((rdId (openSt b 4)).1)))) rfl rfl rfl (O_ex (v := (aggOf (rdCh x14))) rfl rfl rfl ?_))
 refine O_v rfl (C_alloc H20 [(idCells zeroId)] Tryz.zeroValue44 ?_)
 intro b21 w22 hb23 hx24 H25
 refine O_v rfl (C_alloc H25 [[(.slice none 0 0)], [(.bool false)]] Tryz.zeroValue110 ?_)
 intro b26 w27 hb28 hx29 H30
 refine O_u (C_storeW H30 1 rfl (sub := [(idCells ((rdId (openSt b 4)).1))]) Tryz.sizeOf44 rfl rfl rfl rfl rfl ?_)
 intro w31 hg32 H33
 refine O_u (C_storeW H33 0 rfl (sub := [[(slV x14.bh x14.b)], [(.bool x14.bad)]]) Tryz.sizeOf110 rfl rfl rfl rfl rfl ?_)
 intro w34 hg35 H36
 refine O_nil (Then_n (W_seq (W_reg ?_)))
 refine O_v rfl (R_loadA (cs := [[(slV x14.bh x14.b)], [(.bool x14.bad)]]) Tryz.isAgg110 Tryz.sizeOf110 rfl rfl (H36.bx 0 rfl 0 2 0 0 _ rfl rfl rfl) ?_)
 refine O_v rfl (R_callL (vs := [(aggOf (rdCh x14)), (.int .i64 60)]) cF78 rfl rfl ((ref02_GetText x14 (Old w) ((rdId (openSt b 4)).2) 60 w34 (H36.sl 0 rfl) (H36.imm _ (List.mem_of_getElem? (i := 0) rfl)).2 hr17).ret ?_))
 rintro _ w38 ⟨x37, rfl, hx39, hr40, hs41⟩
 have H42 := H36.ext hx39
 have H43 := H42.immOf 0 rfl (slI (Old w) encB 1 x37.bh x37.b) (fun _ h => h) (fun _ => hs41)
 refine O_mv (v := (.tuple #[(.string ((rdText ((rdId (openSt b 4)).2) 60).1)), (aggOf (rdCh x37))])) rfl rfl (O_ex (v := (.string ((rdText ((rdId (openSt b 4)).2) 60).1))) rfl rfl rfl (O_ex (v := (aggOf (rdCh x37))) rfl rfl rfl ?_))
 refine O_v rfl (C_alloc H43 [[(.slice none 0 0)], [(.bool false)]] Tryz.zeroValue110 ?_)
 intro b44 w45 hb46 hx47 H48
 refine O_as (v := (.string ((rdText ((rdId (openSt b 4)).2) 60).1))) rfl rfl ?_
 refine O_u (C_storeW H48 0 rfl (sub := [[(slV x37.bh x37.b)], [(.bool x37.bad)]]) Tryz.sizeOf110 rfl rfl rfl rfl rfl ?_)
 intro w49 hg50 H51
 refine O_nil (Then_n (W_seq (W_reg ?_)))
 refine O_v rfl (R_loadA (cs := [[(slV x37.bh x37.b)], [(.bool x37.bad)]]) Tryz.isAgg110 Tryz.sizeOf110 rfl rfl (H51.bx 0 rfl 0 2 0 0 _ rfl rfl rfl) ?_)
 refine O_v rfl (R_callL (vs := [(aggOf (rdCh x37)), (.int .i64 200)]) cF78 rfl rfl ((ref02_GetText x37 (Old w) ((rdText ((rdId (openSt b 4)).2) 60).2) 200 w49 (H51.sl 0 rfl) (H51.imm _ (List.mem_of_getElem? (i := 0) rfl)).2 hr40).ret ?_))
 rintro _ w53 ⟨x52, rfl, hx54, hr55, hs56⟩
 have H57 := H51.ext hx54
 have H58 := H57.immOf 0 rfl (slI (Old w) encB 1 x52.bh x52.b) (fun _ h => h) (fun _ => hs56)
 refine O_mv (v := (.tuple #[(.string ((rdText ((rdText ((rdId (openSt b 4)).2) 60).2) 200).1)), (aggOf (rdCh x52))])) rfl rfl (O_ex (v := (.string ((rdText ((rdText ((rdId (openSt b 4)).2) 60).2) 200).1))) rfl rfl rfl (O_ex (v := (aggOf (rdCh x52))) rfl rfl rfl ?_))
 refine O_v rfl (C_alloc H58 [[(.slice none 0 0)], [(.bool false)]] Tryz.zeroValue110 ?_)
 intro b59 w60 hb61 hx62 H63
 refine O_as (v := (.string ((rdText ((rdText ((rdId (openSt b 4)).2) 60).2) 200).1))) rfl rfl ?_
 refine O_u (C_storeW H63 0 rfl (sub := [[(slV x52.bh x52.b)], [(.bool x52.bad)]]) Tryz.sizeOf110 rfl rfl rfl rfl rfl ?_)
 intro w64 hg65 H66
 refine O_nil (Then_n (W_seq (W_reg ?_)))
 refine O_v rfl (R_loadA (cs := [(idCells ((rdId (openSt b 4)).1))]) Tryz.isAgg44 Tryz.sizeOf44 rfl rfl (H66.bx 3 rfl 0 1 0 0 _ rfl rfl rfl) ?_)
 refine O_mv (v := (.string ((rdText ((rdId (openSt b 4)).2) 60).1))) rfl rfl (O_mv (v := (.string ((rdText ((rdText ((rdId (openSt b 4)).2) 60).2) 200).1))) rfl rfl ?_)
 refine O_v rfl (R_buildL (vs := [(0, (aggOf (idCh ((rdId (openSt b 4)).1)))), (1, (.string ((rdText ((rdId (openSt b 4)).2) 60).1))), (2, (.string ((rdText ((rdText ((rdId (openSt b 4)).2) 60).2) 200).1)))]) (v := aggOf [(idCells ((rdId (openSt b 4)).1)), [(.string ((rdText ((rdId (openSt b 4)).2) 60).1))], [(.string ((rdText ((rdText ((rdId (openSt b 4)).2) 60).2) 200).1))]]) rfl (fun _ => by kernel_rfl) ?_)
 refine O_v rfl (C_alloc H66 [(idCells zeroId), [(.string ByteArray.empty)], [(.string ByteArray.empty)]] Tryz.zeroValue55 ?_)
 intro b67 w68 hb69 hx70 H71
 refine O_u (C_storeW H71 0 rfl (sub := [(idCells ((rdId (openSt b 4)).1)), [(.string ((rdText ((rdId (openSt b 4)).2) 60).1))], [(.string ((rdText ((rdText ((rdId (openSt b 4)).2) 60).2) 200).1))]]) Tryz.sizeOf55 rfl rfl rfl rfl rfl ?_)
 intro w72 hg73 H74
 refine O_nil (Then_n (W_seq (W_seq ?_)))
 refine W_rg [(0, .q 0), (1, .q 0), (2, .q 0), (3, .q 0), (4, .q 0), (5, .q 0), (6, .q 0), (7, .q 0)] (by kernel_rfl) ?_
 refine Lx_q rfl rfl _ (fun v75 hv76 => R_loadA (cs := [[(slV x52.bh x52.b)], [(.bool x52.bad)]]) Tryz.isAgg110 Tryz.sizeOf110 rfl rfl ((H74.ext hv76).bx 1 rfl 0 2 0 0 _ rfl rfl rfl) qk) (Lx_q rfl rfl (.bool (rdDone ((rdText ((rdText ((rdId (openSt b 4)).2) 60).2) 200).2))) (fun v77 hv78 => R_callL (vs := [(aggOf (rdCh x52))]) cF75 rfl rfl (ref02_Done x52 (Old w) ((rdText ((rdText ((rdId (openSt b 4)).2) 60).2) 200).2) v77 ((H74.ext hv78).sl 0 rfl) ((H74.ext hv78).imm _ (List.mem_of_getElem? (i := 0) rfl)).2 hr55)) (Lx_q rfl rfl _ (fun v79 hv80 => R_not rfl qk) (Lx_mv (v := (.bool (!(rdDone ((rdText ((rdText ((rdId (openSt b 4)).2) 60).2) 200).2))))) rfl rfl rfl ?_)))
 refine Lx_qf rfl rfl rfl rfl rfl _ (fun hA v83 hv84 => R_loadA (cs := [(idCells ((rdId (openSt b 4)).1)), [(.string ((rdText ((rdId (openSt b 4)).2) 60).1))], [(.string ((rdText ((rdText ((rdId (openSt b 4)).2) 60).2) 200).1))]]) Tryz.isAgg55 Tryz.sizeOf55 rfl rfl ((H74.ext hv84).bx 0 rfl 0 3 0 0 _ rfl rfl rfl) qk) (Lx_qf rfl rfl rfl rfl rfl (.bool (labelOk ({ target := (rdId (openSt b 4)).1, name := (rdText ((rdId (openSt b 4)).2) 60).1, msg := (rdText ((rdText ((rdId (openSt b 4)).2) 60).2) 200).1 } : Label))) (fun hA v85 hv86 => R_callL (vs := [(aggOf [(idCells ((rdId (openSt b 4)).1)), [(.string ((rdText ((rdId (openSt b 4)).2) 60).1))], [(.string ((rdText ((rdText ((rdId (openSt b 4)).2) 60).2) 200).1))]])]) cF29 rfl (lst1 (gv_t hA)) (ref04_RightLabel ({ target := (rdId (openSt b 4)).1, name := (rdText ((rdId (openSt b 4)).2) 60).1, msg := (rdText ((rdText ((rdId (openSt b 4)).2) 60).2) 200).1 } : Label) v85 (rdText_size _ (by decide)))) (Lx_qf rfl rfl rfl rfl rfl _ (fun hA v87 hv88 => R_not (gv_t hA) qk) (Lx_q rfl rfl _ (fun v89 hv90 => R_pick rfl pk_or qk) ?_)))
 refine Lx_nil (fun w91 hw92 => ?_)
 have H93 := H74.ext hw92
 refine Then_n ?_
 refine W_cond rfl (fun hc94 => ?_) (fun hc94 => ?_)
 ·have hc94 : ((rdDone ((rdText ((rdText ((rdId (openSt b 4)).2) 60).2) 200).2)) = false ∨ (labelOk ({ target := (rdId (openSt b 4)).1, name := (rdText ((rdId (openSt b 4)).2) 60).1, msg := (rdText ((rdText ((rdId (openSt b 4)).2) 60).2) 200).1 } : Label)) = false) := (Or.imp (fun h => (notT h)) (fun h => (notT h)) (orT hc94))
  refine W_seq (W_reg ?_)
  refine O_v rfl (R_buildL (vs := []) (v := aggOf [(idCells zeroId), [(.string ByteArray.empty)], [(.string ByteArray.empty)]]) rfl (fun _ => by kernel_rfl) ?_)
  refine O_u (C_storeW H93 5 rfl (sub := [(idCells zeroId), [(.string ByteArray.empty)], [(.string ByteArray.empty)]]) Tryz.sizeOf55 rfl rfl rfl rfl rfl ?_)
  intro w95 hg96 H97
  refine O_as (v := (.bool false)) rfl rfl ?_
  refine O_nil (Then_n (W_ret (Then_r ?_)))
  refine ret_ct (v := (.bool false)) Tryz.results34 (inMem (cs := [(idCells zeroId), [(.string ByteArray.empty)], [(.string ByteArray.empty)]]) rfl Tryz.isAgg55 Tryz.sizeOf55 rfl (boxR_at (H97.getOwn 5 rfl))) rfl ?_
  exact ⟨(labelR_f (by assumption)), H97.gr⟩
 ·have hc94 : ((rdDone ((rdText ((rdText ((rdId (openSt b 4)).2) 60).2) 200).2)) = true ∧ (labelOk ({ target := (rdId (openSt b 4)).1, name := (rdText ((rdId (openSt b 4)).2) 60).1, msg := (rdText ((rdText ((rdId (openSt b 4)).2) 60).2) 200).1 } : Label)) = true) := (And.imp (fun h => (notF h)) (fun h => (notF h)) (orF hc94))
  refine W_skip (Then_n (W_seq (W_reg ?_)))
  refine O_v rfl (R_loadA (cs := [(idCells ((rdId (openSt b 4)).1)), [(.string ((rdText ((rdId (openSt b 4)).2) 60).1))], [(.string ((rdText ((rdText ((rdId (openSt b 4)).2) 60).2) 200).1))]]) Tryz.isAgg55 Tryz.sizeOf55 rfl rfl (H93.bx 0 rfl 0 3 0 0 _ rfl rfl rfl) ?_)
  refine O_u (C_storeW H93 5 rfl (sub := [(idCells ((rdId (openSt b 4)).1)), [(.string ((rdText ((rdId (openSt b 4)).2) 60).1))], [(.string ((rdText ((rdText ((rdId (openSt b 4)).2) 60).2) 200).1))]]) Tryz.sizeOf55 rfl rfl rfl rfl rfl ?_)
  intro w98 hg99 H100
  refine O_as (v := (.bool true)) rfl rfl ?_
  refine O_nil (Then_n (W_ret ?_))
  refine ret_ct (v := (.bool true)) Tryz.results34 (inMem (cs := [(idCells ((rdId (openSt b 4)).1)), [(.string ((rdText ((rdId (openSt b 4)).2) 60).1))], [(.string ((rdText ((rdText ((rdId (openSt b 4)).2) 60).2) 200).1))]]) rfl Tryz.isAgg55 Tryz.sizeOf55 rfl (boxR_at (H100.getOwn 5 rfl))) rfl ?_
  exact ⟨(labelR_t (by assumption)), H100.gr⟩
set_option maxHeartbeats 1000000 in
theorem ref04_RiseG (hids : SlH) (ids : List ID) (id : ID) (w : World) (Sids : Sl (Old w) idCh 32 hids ids w) (hl : ids.length ≤ 3000000) :
    Calls Tryz.prog 95 #[(slV hids ids), (aggOf (idCh id))] w (Ret fun v w' => ∃ h, v = slV h (riseL ids id) ∧ Ext w w' ∧ OwnS w.heap.size 44 32 idCh h (riseL ids id) w') := by
 refine calls_W Tryz.func95 rfl Tryz.ntmps95 rfl ?_
 have H0 := Ctx.start w nob
 have H1 := H0.addSl _ Sids (fun b hb => ⟨hb, fun _ ho => (nomatch ho)⟩)
 have LSids := Sids.len
 refine W_seq (W_reg ?_)
 refine O_v rfl (C_box H1 [(idCells id)] rfl ?_)
 intro b2 w3 hb4 hx5 H6
 refine O_as (v := (.slice none 0 0)) rfl rfl ?_
 refine O_nil (Then_n (W_seq (W_reg ?_)))
 refine O_v rfl (C_buildSliceL H6 (enc := idCh) (val := idV) ([] : List ID) Tryz.underlying41 Tryz.sizeOf44 Tryz.zeroValue44 rfl (by decide) (fun _ => rfl) (fun _ => rfl) rfl rfl (by decide) ?_)
 intro b7 w8 hb9 hx10 H11
 refine O_as (v := (slV ⟨some ⟨b7, 0, none⟩, b7, 0, 0⟩ ([] : List ID))) rfl rfl ?_
 refine O_nil (Then_n (W_seq (W_reg ?_)))
 refine O_as (v := (.bool false)) rfl rfl ?_
 refine O_nil (Then_n (W_seq (W_seq (W_reg ?_))))
 refine O_as (v := (.int .i64 0)) rfl rfl ?_
 refine O_nil (Then_n (W_block ?_))
 refine W_loop (fun m13 e14 w15 => ∃ (k : Nat), ∃ (acc : List ID), ∃ (dn : Bool), ∃ (h12 : SlH), m13 = ids.length - k ∧ (k ≤ ids.length) ∧ ((acc, dn) = putTo ids id k) ∧ (acc.length ≤ 2 * k) ∧ ∃ eb16, e14 = envL [(0, (slV hids ids)), (3, (.pointer (some ⟨b2, 0, none⟩))), (4, (.slice none 0 0)), (5, (slV h12 acc)), (6, (.bool dn)), (7, (.int .i64 (k : Int)))] eb16 ∧ Ctx w nob w15 [rowR 44 32 idCh h12 acc, boxR b2 44 [(idCells id)]] [slI (Old w) idCh 32 hids ids]) _ ⟨0, [], false, ⟨some ⟨b7, 0, none⟩, b7, 0, 0⟩, rfl, (by omega), rfl, (Nat.zero_le _), _, envL_self ⟨rfl, rfl, rfl, rfl, rfl, rfl, trivial⟩, H11⟩ ?_
 rintro m13 _ w15 ⟨k, acc, dn, h12, rfl, hk, hp, hal, eb16, rfl, H17⟩
 refine W_seq (W_seq (W_reg ?_))
 refine O_mv (v := (.int .i64 (k : Int))) rfl rfl (O_mv (v := (slV hids ids)) rfl rfl ?_)
 refine O_v rfl (R_len_slice (a := hids.a) (n := ids.length) (c := hids.c) Tryz.underlying41 rfl ?_)
 refine O_v rfl (R_cmp (a := (k : Int)) (b := (ids.length : Int)) (r := (decide ((k : Int) < (ids.length : Int)))) rfl rfl rfl ?_)
 refine O_nil (Then_n ?_)
 refine W_cond rfl (fun hc18 => ?_) (fun hc18 => ?_)
 ·have hc18 := (of_decide_eq_true hc18)
  refine W_skip (Then_n (W_seq (W_block (W_seq ?_))))
  refine W_rgd TryzMixed [(0, .q 0), (1, .q 0), (2, .q 0), (3, .q 0), (4, .q 0), (5, .q 0), (6, .q 0)] (by kernel_rfl) ?_
  refine Lx_mv (v := (slV hids ids)) rfl rfl rfl (Lx_mv (v := (.int .i64 (k : Int))) rfl rfl rfl (Lx_q rfl rfl _ (fun v23 hv24 => R_index_pure (H17.sl 0 rfl) (n := ids.length) rfl (j := (k : Int)) (oo := (hids.o + k * 32)) Tryz.underlying41 Tryz.sizeOf44 rfl rfl (by omega) (by omega) rfl qk) (Lx_q rfl rfl _ (fun v25 hv26 => R_loadA (cs := [(idCells (nth ids k))]) Tryz.isAgg44 Tryz.sizeOf44 rfl rfl ((Sl.elem ((H17.ext hv26).sl 0 rfl) (i := k) (by omega) rfl).chunks 0 1 0 (hids.o + k * 32) _ rfl rfl rfl) qk) ?_)))
  refine Lx_q rfl rfl _ (fun v27 hv28 => R_loadA (cs := [(idCells id)]) Tryz.isAgg44 Tryz.sizeOf44 rfl rfl ((H17.ext hv28).bx 1 rfl 0 1 0 0 _ rfl rfl rfl) qk) (Lx_q rfl rfl (.int .i64 (cmpId (nth ids k) id)) (fun v29 hv30 => R_callL (vs := [(aggOf (idCh (nth ids k))), (aggOf (idCh id))]) cF36 rfl rfl (ref01_Cmp (nth ids k) id v29 )) (Lx_q rfl rfl _ (fun v31 hv32 => R_assign (v := (.int .i64 (cmpId (nth ids k) id))) rfl qk) ?_))
  refine Lx_nil (fun w33 hw34 => ?_)
  have H35 := H17.ext hw34
  refine Then_n (W_seq (W_seq ?_))
  refine W_rg [(0, .q 0), (1, .q 0), (2, .q 0), (3, .q 0), (4, .q 0), (5, .q 0)] (by kernel_rfl) ?_
  refine Lx_mv (v := (.int .i64 (cmpId (nth ids k) id))) rfl rfl rfl (Lx_q rfl rfl _ (fun v38 hv39 => R_cmp (a := cmpId (nth ids k) id) (b := 0) (r := (decide (0 ≤ cmpId (nth ids k) id))) rfl rfl rfl qk) (Lx_mv (v := (.bool (decide (0 ≤ cmpId (nth ids k) id)))) rfl rfl rfl (Lx_qt rfl rfl rfl rfl rfl _ (fun hA v42 hv43 => R_move (v := (.bool dn)) rfl qk) ?_)))
  refine Lx_qt rfl rfl rfl rfl rfl _ (fun hA v44 hv45 => R_not (gv_t hA) qk) (Lx_q rfl rfl _ (fun v46 hv47 => R_pick rfl pk_and qk) ?_)
  refine Lx_nil (fun w48 hw49 => ?_)
  have H50 := H35.ext hw49
  refine Then_n ?_
  refine W_cond rfl (fun hc51 => ?_) (fun hc51 => ?_)
  ·have hc51 : ((0 ≤ cmpId (nth ids k) id) ∧ dn = false) := (And.imp (fun h => (of_decide_eq_true h)) (fun h => (notT h)) (andT hc51))
   refine W_seq (W_reg ?_)
   refine O_as (v := (.bool true)) rfl rfl ?_
   refine O_nil (Then_n (W_seq (W_reg ?_)))
   refine O_mv (v := (.int .i64 (cmpId (nth ids k) id))) rfl rfl ?_
   refine O_v rfl (R_cmp (a := cmpId (nth ids k) id) (b := 0) (r := (decide (0 < cmpId (nth ids k) id))) rfl rfl rfl ?_)
   refine O_nil (Then_n ?_)
   refine W_cond rfl (fun hc52 => ?_) (fun hc52 => ?_)
   ·have hc52 := (of_decide_eq_true hc52)
    refine W_reg ?_
    refine O_mv (v := (slV h12 acc)) rfl rfl ?_
    refine O_v rfl (R_loadA (cs := [(idCells id)]) Tryz.isAgg44 Tryz.sizeOf44 rfl rfl (H50.bx 1 rfl 0 1 0 0 _ rfl rfl rfl) ?_)
    refine O_v rfl (C_buildSliceL H50 (enc := idCh) (val := idV) ([id] : List ID) Tryz.underlying41 Tryz.sizeOf44 Tryz.zeroValue44 rfl (by decide) (fun _ => rfl) (fun _ => rfl) rfl rfl (by decide) ?_)
    intro b53 w54 hb55 hx56 H57
    refine O_v rfl (C_append H57 1 rfl (bytes := 32) (l := acc) (ys := ([id] : List ID)) Tryz.underlying41 rfl rfl rfl rfl rfl (by decide) rfl rfl (OwnS.sl (H57.getOwn 0 rfl) (fun _ => rfl)) (fun _ => rfl) (fun _ => rfl) (by simp only [List.length_append, List.length_cons, List.length_nil]; omega) (by decide) ?_)
    intro h58 w59 hg60 H61
    refine O_as (v := (slV h58 (acc ++ ([id] : List ID)))) rfl rfl ?_
    refine O_nil (Then_n (W_reg ?_))
    refine O_mv (v := (slV h58 (acc ++ ([id] : List ID)))) rfl rfl (O_mv (v := (slV hids ids)) rfl rfl (O_mv (v := (.int .i64 (k : Int))) rfl rfl ?_))
    refine O_v rfl (R_index_pure (H61.sl 0 rfl) (n := ids.length) rfl (j := (k : Int)) (oo := (hids.o + k * 32)) Tryz.underlying41 Tryz.sizeOf44 rfl rfl (by omega) (by omega) rfl ?_)
    refine O_v rfl (R_loadA (cs := [(idCells (nth ids k))]) Tryz.isAgg44 Tryz.sizeOf44 rfl rfl ((Sl.elem (H61.sl 0 rfl) (i := k) (by omega) rfl).chunks 0 1 0 (hids.o + k * 32) _ rfl rfl rfl) ?_)
    refine O_v rfl (C_buildSliceL H61 (enc := idCh) (val := idV) ([(nth ids k)] : List ID) Tryz.underlying41 Tryz.sizeOf44 Tryz.zeroValue44 rfl (by decide) (fun _ => rfl) (fun _ => rfl) rfl rfl (by decide) ?_)
    intro b62 w63 hb64 hx65 H66
    refine O_v rfl (C_append H66 2 rfl (bytes := 32) (l := (acc ++ ([id] : List ID))) (ys := ([(nth ids k)] : List ID)) Tryz.underlying41 rfl rfl rfl rfl rfl (by decide) rfl rfl (OwnS.sl (H66.getOwn 0 rfl) (fun _ => rfl)) (fun _ => rfl) (fun _ => rfl) (by simp only [List.length_append, List.length_cons, List.length_nil]; omega) (by decide) ?_)
    intro h67 w68 hg69 H70
    refine O_as (v := (slV h67 ((acc ++ ([id] : List ID)) ++ ([(nth ids k)] : List ID)))) rfl rfl ?_
    refine O_nil (Blk_n (Then_n (W_reg ?_)))
    refine O_mv (v := (.int .i64 (k : Int))) rfl rfl ?_
    refine O_v rfl (R_arith (a := (k : Int)) (b := 1) (r0 := (k : Int) + 1) (r := ((k + 1 : Nat) : Int)) rfl rfl rfl (wrapN _ (by omega)) ?_)
    refine O_as (v := (.int .i64 ((k + 1 : Nat) : Int))) rfl rfl ?_
    refine O_nil (Then_n ?_)
    have H71 := H70.sub (List.Sublist.cons _ (List.Sublist.cons _ (List.Sublist.cons_cons _ (List.Sublist.cons_cons _ List.Sublist.slnil)))) (List.forall_mem_cons.2 ⟨List.mem_of_getElem? (i := 0) rfl, memN⟩)
    refine ⟨_, ?_, (k + 1), ((acc ++ ([id] : List ID)) ++ ([(nth ids k)] : List ID)), true, h67, rfl, (by omega), (rise_1 hp (by assumption) (by assumption)), (by simp only [List.length_append, List.length_cons, List.length_nil]; omega), _, envL_self ⟨rfl, rfl, rfl, rfl, rfl, rfl, trivial⟩, H71⟩
    omega
   ·have hc52 := (of_decide_eq_false hc52)
    refine W_skip (Then_n (W_reg ?_))
    refine O_mv (v := (slV h12 acc)) rfl rfl (O_mv (v := (slV hids ids)) rfl rfl (O_mv (v := (.int .i64 (k : Int))) rfl rfl ?_))
    refine O_v rfl (R_index_pure (H50.sl 0 rfl) (n := ids.length) rfl (j := (k : Int)) (oo := (hids.o + k * 32)) Tryz.underlying41 Tryz.sizeOf44 rfl rfl (by omega) (by omega) rfl ?_)
    refine O_v rfl (R_loadA (cs := [(idCells (nth ids k))]) Tryz.isAgg44 Tryz.sizeOf44 rfl rfl ((Sl.elem (H50.sl 0 rfl) (i := k) (by omega) rfl).chunks 0 1 0 (hids.o + k * 32) _ rfl rfl rfl) ?_)
    refine O_v rfl (C_buildSliceL H50 (enc := idCh) (val := idV) ([(nth ids k)] : List ID) Tryz.underlying41 Tryz.sizeOf44 Tryz.zeroValue44 rfl (by decide) (fun _ => rfl) (fun _ => rfl) rfl rfl (by decide) ?_)
    intro b72 w73 hb74 hx75 H76
    refine O_v rfl (C_append H76 1 rfl (bytes := 32) (l := acc) (ys := ([(nth ids k)] : List ID)) Tryz.underlying41 rfl rfl rfl rfl rfl (by decide) rfl rfl (OwnS.sl (H76.getOwn 0 rfl) (fun _ => rfl)) (fun _ => rfl) (fun _ => rfl) (by simp only [List.length_append, List.length_cons, List.length_nil]; omega) (by decide) ?_)
    intro h77 w78 hg79 H80
    refine O_as (v := (slV h77 (acc ++ ([(nth ids k)] : List ID)))) rfl rfl ?_
    refine O_nil (Blk_n (Then_n (W_reg ?_)))
    refine O_mv (v := (.int .i64 (k : Int))) rfl rfl ?_
    refine O_v rfl (R_arith (a := (k : Int)) (b := 1) (r0 := (k : Int) + 1) (r := ((k + 1 : Nat) : Int)) rfl rfl rfl (wrapN _ (by omega)) ?_)
    refine O_as (v := (.int .i64 ((k + 1 : Nat) : Int))) rfl rfl ?_
    refine O_nil (Then_n ?_)
    have H81 := H80.sub (List.Sublist.cons _ (List.Sublist.cons_cons _ (List.Sublist.cons_cons _ List.Sublist.slnil))) (List.forall_mem_cons.2 ⟨List.mem_of_getElem? (i := 0) rfl, memN⟩)
    refine ⟨_, ?_, (k + 1), (acc ++ ([(nth ids k)] : List ID)), true, h77, rfl, (by omega), (rise_2 hp (by assumption) (by assumption)), (by simp only [List.length_append, List.length_cons, List.length_nil]; omega), _, envL_self ⟨rfl, rfl, rfl, rfl, rfl, rfl, trivial⟩, H81⟩
    omega
  ·have hc51 : (¬ (0 ≤ cmpId (nth ids k) id) ∨ dn = true) := (Or.imp (fun h => (of_decide_eq_false h)) (fun h => (notF h)) (andF hc51))
   refine W_skip (Then_n (W_reg ?_))
   refine O_mv (v := (slV h12 acc)) rfl rfl (O_mv (v := (slV hids ids)) rfl rfl (O_mv (v := (.int .i64 (k : Int))) rfl rfl ?_))
   refine O_v rfl (R_index_pure (H50.sl 0 rfl) (n := ids.length) rfl (j := (k : Int)) (oo := (hids.o + k * 32)) Tryz.underlying41 Tryz.sizeOf44 rfl rfl (by omega) (by omega) rfl ?_)
   refine O_v rfl (R_loadA (cs := [(idCells (nth ids k))]) Tryz.isAgg44 Tryz.sizeOf44 rfl rfl ((Sl.elem (H50.sl 0 rfl) (i := k) (by omega) rfl).chunks 0 1 0 (hids.o + k * 32) _ rfl rfl rfl) ?_)
   refine O_v rfl (C_buildSliceL H50 (enc := idCh) (val := idV) ([(nth ids k)] : List ID) Tryz.underlying41 Tryz.sizeOf44 Tryz.zeroValue44 rfl (by decide) (fun _ => rfl) (fun _ => rfl) rfl rfl (by decide) ?_)
   intro b82 w83 hb84 hx85 H86
   refine O_v rfl (C_append H86 1 rfl (bytes := 32) (l := acc) (ys := ([(nth ids k)] : List ID)) Tryz.underlying41 rfl rfl rfl rfl rfl (by decide) rfl rfl (OwnS.sl (H86.getOwn 0 rfl) (fun _ => rfl)) (fun _ => rfl) (fun _ => rfl) (by simp only [List.length_append, List.length_cons, List.length_nil]; omega) (by decide) ?_)
   intro h87 w88 hg89 H90
   refine O_as (v := (slV h87 (acc ++ ([(nth ids k)] : List ID)))) rfl rfl ?_
   refine O_nil (Blk_n (Then_n (W_reg ?_)))
   refine O_mv (v := (.int .i64 (k : Int))) rfl rfl ?_
   refine O_v rfl (R_arith (a := (k : Int)) (b := 1) (r0 := (k : Int) + 1) (r := ((k + 1 : Nat) : Int)) rfl rfl rfl (wrapN _ (by omega)) ?_)
   refine O_as (v := (.int .i64 ((k + 1 : Nat) : Int))) rfl rfl ?_
   refine O_nil (Then_n ?_)
   have H91 := H90.sub (List.Sublist.cons _ (List.Sublist.cons_cons _ (List.Sublist.cons_cons _ List.Sublist.slnil))) (List.forall_mem_cons.2 ⟨List.mem_of_getElem? (i := 0) rfl, memN⟩)
   refine ⟨_, ?_, (k + 1), (acc ++ ([(nth ids k)] : List ID)), dn, h87, rfl, (by omega), (rise_3 hp (by assumption)), (by simp only [List.length_append, List.length_cons, List.length_nil]; omega), _, envL_self ⟨rfl, rfl, rfl, rfl, rfl, rfl, trivial⟩, H91⟩
   omega
 ·have hc18 := (of_decide_eq_false hc18)
  refine W_exit (Then_x (Then_x (Blk_x (Then_n (W_seq (W_seq (W_reg ?_)))))))
  refine O_mv (v := (.bool dn)) rfl rfl ?_
  refine O_v rfl (R_not rfl ?_)
  refine O_nil (Then_n ?_)
  refine W_cond rfl (fun hc92 => ?_) (fun hc92 => ?_)
  ·have hc92 : dn = false := (notT hc92)
   refine W_reg ?_
   refine O_mv (v := (slV h12 acc)) rfl rfl ?_
   refine O_v rfl (R_loadA (cs := [(idCells id)]) Tryz.isAgg44 Tryz.sizeOf44 rfl rfl (H17.bx 1 rfl 0 1 0 0 _ rfl rfl rfl) ?_)
   refine O_v rfl (C_buildSliceL H17 (enc := idCh) (val := idV) ([id] : List ID) Tryz.underlying41 Tryz.sizeOf44 Tryz.zeroValue44 rfl (by decide) (fun _ => rfl) (fun _ => rfl) rfl rfl (by decide) ?_)
   intro b93 w94 hb95 hx96 H97
   refine O_v rfl (C_append H97 1 rfl (bytes := 32) (l := acc) (ys := ([id] : List ID)) Tryz.underlying41 rfl rfl rfl rfl rfl (by decide) rfl rfl (OwnS.sl (H97.getOwn 0 rfl) (fun _ => rfl)) (fun _ => rfl) (fun _ => rfl) (by simp only [List.length_append, List.length_cons, List.length_nil]; omega) (by decide) ?_)
   intro h98 w99 hg100 H101
   refine O_as (v := (slV h98 (acc ++ ([id] : List ID)))) rfl rfl ?_
   refine O_nil (Then_n (W_seq (W_reg ?_)))
   refine O_mv (v := (slV h98 (acc ++ ([id] : List ID)))) rfl rfl (O_as (v := (slV h98 (acc ++ ([id] : List ID)))) rfl rfl ?_)
   refine O_nil (Then_n (W_ret ?_))
   refine ret_1 (v := (slV h98 (acc ++ ([id] : List ID)))) Tryz.results95 rfl ?_
   have hE : acc ++ ([id] : List ID) = riseL ids id := (rise_end1 hp (by omega) (by assumption))
   refine ⟨h98, ?_, H101.gr, ?_⟩
   · exact congrArg (fun l => slV h98 l) hE
   · have hO := H101.retRow 1 rfl
     exact hE ▸ hO
  ·have hc92 : dn = true := (notF hc92)
   refine W_skip (Then_n (W_seq (W_reg ?_)))
   refine O_mv (v := (slV h12 acc)) rfl rfl (O_as (v := (slV h12 acc)) rfl rfl ?_)
   refine O_nil (Then_n (W_ret ?_))
   refine ret_1 (v := (slV h12 acc)) Tryz.results95 rfl ?_
   have hE : acc = riseL ids id := (rise_end2 hp (by omega) (by assumption))
   refine ⟨h12, ?_, H17.gr, ?_⟩
   · exact congrArg (fun l => slV h12 l) hE
   · have hO := H17.retRow 0 rfl
     exact hE ▸ hO
theorem cF95 : callable Tryz.prog 95 = true := by kernel_rfl
set_option maxHeartbeats 1000000 in
theorem ref04_PutG (hids : SlH) (ids : List ID) (id : ID) (w : World) (Sids : Sl (Old w) idCh 32 hids ids w) (hl : ids.length ≤ 3000000) :
    Calls Tryz.prog 57 #[(slV hids ids), (aggOf (idCh id))] w (Ret fun v w' => ∃ h, v = slV h (putL ids id) ∧ Ext w w' ∧ OwnS w.heap.size 44 32 idCh h (putL ids id) w') := by
 refine calls_W Tryz.func57 rfl Tryz.ntmps57 rfl ?_
 have H0 := Ctx.start w nob
 have H1 := H0.addSl _ Sids (fun b hb => ⟨hb, fun _ ho => (nomatch ho)⟩)
 have LSids := Sids.len
 refine W_seq (W_reg ?_)
 refine O_v rfl (C_box H1 [(idCells id)] rfl ?_)
 intro b2 w3 hb4 hx5 H6
 refine O_as (v := (.slice none 0 0)) rfl rfl ?_
 refine O_nil (Then_n (W_seq (W_seq (W_reg ?_))))
 refine O_v rfl (R_loadA (cs := [(idCells id)]) Tryz.isAgg44 Tryz.sizeOf44 rfl rfl (H6.bx 0 rfl 0 1 0 0 _ rfl rfl rfl) ?_)
 refine O_v rfl (R_callL (vs := [(aggOf (idCh id))]) cF60 rfl rfl ((ref04_zero id w3 ).ret ?_))
 rintro _ w7 ⟨rfl, hx8⟩
 have H9 := H6.ext hx8
 refine O_nil (Then_n ?_)
 refine W_cond rfl (fun hc10 => ?_) (fun hc10 => ?_)
 ·have hc10 := (of_decide_eq_true hc10)
  refine W_seq (W_reg ?_)
  refine O_v rfl (C_buildSliceL H9 (enc := idCh) (val := idV) ([] : List ID) Tryz.underlying41 Tryz.sizeOf44 Tryz.zeroValue44 rfl (by decide) (fun _ => rfl) (fun _ => rfl) rfl rfl (by decide) ?_)
  intro b11 w12 hb13 hx14 H15
  refine O_mv (v := (slV hids ids)) rfl rfl ?_
  refine O_v rfl (C_append H15 0 rfl (bytes := 32) (l := ([] : List ID)) (ys := ids) Tryz.underlying41 rfl rfl rfl rfl rfl (by decide) rfl rfl (H15.sl 0 rfl) (fun _ => rfl) (fun _ => rfl) (by simp only [List.length_append, List.length_nil]; omega) (by decide) ?_)
  intro h16 w17 hg18 H19
  refine O_as (v := (slV h16 (([] : List ID) ++ ids))) rfl rfl ?_
  refine O_nil (Then_n (W_ret (Then_r ?_)))
  refine ret_1 (v := (slV h16 (([] : List ID) ++ ids))) Tryz.results57 rfl ?_
  have hE : ([] : List ID) ++ ids = putL ids id := (put_zero (by assumption))
  refine ⟨h16, ?_, H19.gr, ?_⟩
  · exact congrArg (fun l => slV h16 l) hE
  · have hO := H19.retRow 0 rfl
    exact hE ▸ hO
 ·have hc10 := (of_decide_eq_false hc10)
  refine W_skip (Then_n (W_seq (W_reg ?_)))
  refine O_mv (v := (slV hids ids)) rfl rfl ?_
  refine O_v rfl (R_loadA (cs := [(idCells id)]) Tryz.isAgg44 Tryz.sizeOf44 rfl rfl (H9.bx 0 rfl 0 1 0 0 _ rfl rfl rfl) ?_)
  refine O_v rfl (R_callL (vs := [(slV hids ids), (aggOf (idCh id))]) cF95 rfl rfl ((ref04_RiseG hids ids id w7 (H9.slOld 0 rfl) hl).ret ?_))
  rintro _ w21 ⟨h20, rfl, hx22, ho23⟩
  have H24 := H9.addRow hx22 ho23
  refine O_as (v := (slV h20 (riseL ids id))) rfl rfl ?_
  refine O_nil (Then_n (W_ret ?_))
  refine ret_1 (v := (slV h20 (riseL ids id))) Tryz.results57 rfl ?_
  have hE : riseL ids id = putL ids id := (put_rise (by assumption))
  refine ⟨h20, ?_, H24.gr, ?_⟩
  · exact congrArg (fun l => slV h20 l) hE
  · have hO := H24.retRow 0 rfl
    exact hE ▸ hO
theorem cF32 : callable Tryz.prog 32 = true := by kernel_rfl
theorem cF33 : callable Tryz.prog 33 = true := by kernel_rfl
theorem cF34 : callable Tryz.prog 34 = true := by kernel_rfl
theorem cF57 : callable Tryz.prog 57 = true := by kernel_rfl
set_option maxHeartbeats 4000000 in
theorem ref04_LinksG (hb : SlH) (b : List UInt8) (w : World) (Sb : Sl (Old w) encB 1 hb b w) :
    Calls Tryz.prog 22 #[(slV hb b)] w (Ret fun v w' => ∃ h, v = slV h (linksOf b) ∧ Ext w w' ∧ OwnS w.heap.size 44 32 idCh h (linksOf b) w') := by
 refine calls_W Tryz.func22 rfl Tryz.ntmps22 rfl ?_
 have H0 := Ctx.start w nob
 have H1 := H0.addSl _ Sb (fun b hb => ⟨hb, fun _ ho => (nomatch ho)⟩)
 have LSb := Sb.len
 refine W_seq (W_reg ?_)
 refine O_as (v := (.slice none 0 0)) rfl rfl ?_
 refine O_nil (Then_n (W_seq (W_reg ?_)))
 refine O_v rfl (C_buildSliceL H1 (enc := idCh) (val := idV) ([] : List ID) Tryz.underlying41 Tryz.sizeOf44 Tryz.zeroValue44 rfl (by decide) (fun _ => rfl) (fun _ => rfl) rfl rfl (by decide) ?_)
 intro b2 w3 hb4 hx5 H6
 refine O_as (v := (slV ⟨some ⟨b2, 0, none⟩, b2, 0, 0⟩ ([] : List ID))) rfl rfl ?_
 refine O_nil (Then_n (W_seq (W_reg ?_)))
 refine O_mv (v := (slV hb b)) rfl rfl ?_
 refine O_v rfl (R_callL (vs := [(slV hb b)]) cF32 rfl rfl ((ref04_Dir hb b w3 (H6.slOld 0 rfl)).ret ?_))
 rintro _ w10 ⟨h7, l8, S9, rfl, hx11, ho12, hS13, hd14, hr15⟩
 have H16 := H6.addRowDeep (h := fun x : ItemS => x.hh) (f := fun x : ItemS => x.heads) hx11 ho12 hS13 hd14
 refine O_mv (v := (.tuple #[(slV h7 l8), (.bool (DirB b))])) rfl rfl (O_ex (v := (slV h7 l8)) rfl rfl rfl (O_ex (v := (.bool (DirB b))) rfl rfl rfl (O_as (v := (slV h7 l8)) rfl rfl ?_)))
 refine O_as (v := (.bool (DirB b))) rfl rfl ?_
 refine O_nil (Then_n (W_seq (W_seq (W_reg ?_))))
 refine O_as (v := (.int .i64 0)) rfl rfl ?_
 refine O_nil (Then_n (W_block ?_))
 refine W_loop (fun m18 e19 w20 => ∃ (k : Nat), ∃ (acc : List ID), ∃ (h17 : SlH), m18 = l8.length - k ∧ (k ≤ l8.length) ∧ (dirOk l8 = true) ∧ (acc = putAll [] (rawTo (l8.map ItemS.core) k)) ∧ ∃ eb21, e19 = envL [(0, (slV hb b)), (2, (.slice none 0 0)), (3, (slV h17 acc)), (4, (slV h7 l8)), (6, (.int .i64 (k : Int)))] eb21 ∧ Ctx w nob w20 [rowR 77 38 itemCh h7 l8, rowR 44 32 idCh h17 acc] [deepI S9 headCh 34 (fun x : ItemS => x.hh) (fun x : ItemS => x.heads) l8, slI (Old w) encB 1 hb b]) _ ⟨0, [], ⟨some ⟨b2, 0, none⟩, b2, 0, 0⟩, rfl, (by omega), (dirR_ok hr15), rfl, _, envL_self ⟨rfl, rfl, rfl, rfl, rfl, trivial⟩, H16⟩ ?_
 rintro m18 _ w20 ⟨k, acc, h17, rfl, hk, hd, ha, eb21, rfl, H22⟩
 refine W_seq (W_seq (W_reg ?_))
 refine O_mv (v := (.int .i64 (k : Int))) rfl rfl (O_mv (v := (slV h7 l8)) rfl rfl ?_)
 refine O_v rfl (R_len_slice (a := h7.a) (n := l8.length) (c := h7.c) Tryz.underlying31 rfl ?_)
 refine O_v rfl (R_cmp (a := (k : Int)) (b := (l8.length : Int)) (r := (decide ((k : Int) < (l8.length : Int)))) rfl rfl rfl ?_)
 refine O_nil (Then_n ?_)
 refine W_cond rfl (fun hc23 => ?_) (fun hc23 => ?_)
 ·have hc23 := (of_decide_eq_true hc23)
  refine W_skip (Then_n (W_seq (W_block (W_seq (W_reg ?_)))))
  refine O_mv (v := (slV h17 acc)) rfl rfl (O_mv (v := (slV h7 l8)) rfl rfl (O_mv (v := (.int .i64 (k : Int))) rfl rfl ?_))
  refine O_v rfl (R_index_pure (OwnS.sl (H22.getOwn 0 rfl) (fun _ => rfl)) (n := l8.length) rfl (j := (k : Int)) (oo := (h7.o + k * 38)) Tryz.underlying31 Tryz.sizeOf77 rfl rfl (by omega) (by omega) rfl ?_)
  refine O_v rfl (R_fieldAddr (off := 5) (oo := ((h7.o + k * 38) + 5)) Tryz.underlying77 rfl rfl Tryz.sizeOf45 rfl rfl ?_)
  refine O_v rfl (R_loadA (cs := [(idCells ((nth l8 k).sub))]) Tryz.isAgg45 Tryz.sizeOf45 rfl rfl ((Sl.elem (OwnS.sl (H22.getOwn 0 rfl) (fun _ => rfl)) (i := k) (by omega) rfl).chunks 5 1 5 ((h7.o + k * 38) + 5) _ rfl rfl rfl) ?_)
  refine O_v rfl (R_callL (vs := [(slV h17 acc), (aggOf (idCh ((nth l8 k).sub)))]) cF57 rfl rfl ((ref04_PutG h17 acc ((nth l8 k).sub) w20 (H22.rowSl 1 rfl (fun _ => rfl)) (by have h5 := (dir_lens hd).1; have h6 := rputs_len hd ha (by omega); omega)).ret ?_))
  rintro _ w25 ⟨h24, rfl, hx26, ho27⟩
  have H28 := H22.addRow hx26 ho27
  refine O_as (v := (slV h24 (putL acc ((nth l8 k).sub)))) rfl rfl ?_
  refine O_nil (Then_n (W_seq (W_reg ?_)))
  refine O_as (v := (.int .i64 0)) rfl rfl ?_
  refine O_nil (Then_n (W_block ?_))
  refine W_loop (fun m30 e31 w32 => ∃ (j : Nat), ∃ (acc2 : List ID), ∃ (h29 : SlH), m30 = (nth l8 k).heads.length - j ∧ (j ≤ (nth l8 k).heads.length) ∧ (acc2 = putAll acc ((itemIds (nth l8 k).core).take (j + 1))) ∧ ∃ eb33, e31 = envL [(0, (slV hb b)), (2, (.slice none 0 0)), (3, (slV h29 acc2)), (4, (slV h7 l8)), (6, (.int .i64 (k : Int))), (7, (.int .i64 (j : Int))), (20, (.int .i64 (k : Int))), (21, (slV h7 l8)), (22, (.int .i64 (l8.length : Int))), (23, (.bool (decide ((k : Int) < (l8.length : Int))))), (26, (slV h17 acc)), (27, (slV h7 l8)), (28, (.int .i64 (k : Int))), (29, (.pointer (some ⟨h7.b, (h7.o + k * 38), none⟩))), (30, (.pointer (some ⟨h7.b, ((h7.o + k * 38) + 5), none⟩))), (31, (aggOf (idCh ((nth l8 k).sub)))), (32, (slV h24 (putL acc ((nth l8 k).sub))))] eb33 ∧ Ctx w nob w32 [rowR 44 32 idCh h29 acc2, rowR 77 38 itemCh h7 l8, rowR 44 32 idCh h17 acc] [deepI S9 headCh 34 (fun x : ItemS => x.hh) (fun x : ItemS => x.heads) l8, slI (Old w) encB 1 hb b]) _ ⟨0, (putL acc ((nth l8 k).sub)), h24, rfl, (by omega), (rputs_item ha), _, envL_self ⟨rfl, rfl, rfl, rfl, rfl, rfl, rfl, rfl, rfl, rfl, rfl, rfl, rfl, rfl, rfl, rfl, rfl, trivial⟩, H28⟩ ?_
  rintro m30 _ w32 ⟨j, acc2, h29, rfl, hj, ha2, eb33, rfl, H34⟩
  refine W_seq (W_seq (W_reg ?_))
  refine O_mv (v := (.int .i64 (j : Int))) rfl rfl (O_mv (v := (slV h7 l8)) rfl rfl (O_mv (v := (.int .i64 (k : Int))) rfl rfl ?_))
  refine O_v rfl (R_index_pure (OwnS.sl (H34.getOwn 1 rfl) (fun _ => rfl)) (n := l8.length) rfl (j := (k : Int)) (oo := (h7.o + k * 38)) Tryz.underlying31 Tryz.sizeOf77 rfl rfl (by omega) (by omega) rfl ?_)
  refine O_v rfl (R_fieldAddr (off := 37) (oo := ((h7.o + k * 38) + 37)) Tryz.underlying77 rfl rfl Tryz.sizeOf75 rfl rfl ?_)
  refine O_v rfl (R_load1 (v := (slV ((nth l8 k).hh) ((nth l8 k).heads))) Tryz.isAgg75 rfl ((Sl.elem (OwnS.sl (H34.getOwn 1 rfl) (fun _ => rfl)) (i := k) (by omega) rfl).chunks 6 1 37 ((h7.o + k * 38) + 37) _ rfl rfl rfl) ?_)
  refine O_v rfl (R_len_slice (a := ((nth l8 k).hh).a) (n := ((nth l8 k).heads).length) (c := ((nth l8 k).hh).c) Tryz.underlying75 rfl ?_)
  refine O_v rfl (R_cmp (a := (j : Int)) (b := ((((nth l8 k).heads).length : Nat) : Int)) (r := (decide ((j : Int) < ((((nth l8 k).heads).length : Nat) : Int)))) rfl rfl rfl ?_)
  refine O_nil (Then_n ?_)
  refine W_cond rfl (fun hc35 => ?_) (fun hc35 => ?_)
  ·have hc35 := (of_decide_eq_true hc35)
   refine W_skip (Then_n (W_seq (W_block (W_reg ?_))))
   refine O_mv (v := (slV h29 acc2)) rfl rfl (O_mv (v := (slV h7 l8)) rfl rfl (O_mv (v := (.int .i64 (k : Int))) rfl rfl ?_))
   refine O_v rfl (R_index_pure (OwnS.sl (H34.getOwn 1 rfl) (fun _ => rfl)) (n := l8.length) rfl (j := (k : Int)) (oo := (h7.o + k * 38)) Tryz.underlying31 Tryz.sizeOf77 rfl rfl (by omega) (by omega) rfl ?_)
   refine O_v rfl (R_fieldAddr (off := 37) (oo := ((h7.o + k * 38) + 37)) Tryz.underlying77 rfl rfl Tryz.sizeOf75 rfl rfl ?_)
   refine O_v rfl (R_load1 (v := (slV ((nth l8 k).hh) ((nth l8 k).heads))) Tryz.isAgg75 rfl ((Sl.elem (OwnS.sl (H34.getOwn 1 rfl) (fun _ => rfl)) (i := k) (by omega) rfl).chunks 6 1 37 ((h7.o + k * 38) + 37) _ rfl rfl rfl) ?_)
   refine O_mv (v := (.int .i64 (j : Int))) rfl rfl ?_
   refine O_v rfl (R_index_pure (Sl.as ((nth l8 k).hh) ((nth l8 k).heads) ((H34.getImm 0 rfl) _ (nth_mem (by omega)))) (n := ((nth l8 k).heads).length) rfl (j := (j : Int)) (oo := (((nth l8 k).hh).o + j * 34)) Tryz.underlying75 Tryz.sizeOf84 rfl rfl (by omega) (by omega) rfl ?_)
   refine O_v rfl (R_fieldAddr (off := 2) (oo := ((((nth l8 k).hh).o + j * 34) + 2)) Tryz.underlying84 rfl rfl Tryz.sizeOf45 rfl rfl ?_)
   refine O_v rfl (R_loadA (cs := [(idCells ((nth ((nth l8 k).heads) j).data))]) Tryz.isAgg45 Tryz.sizeOf45 rfl rfl ((Sl.elem (Sl.as ((nth l8 k).hh) ((nth l8 k).heads) ((H34.getImm 0 rfl) _ (nth_mem (by omega)))) (i := j) (by omega) rfl).chunks 2 1 2 ((((nth l8 k).hh).o + j * 34) + 2) _ rfl rfl rfl) ?_)
   refine O_v rfl (R_callL (vs := [(slV h29 acc2), (aggOf (idCh ((nth ((nth l8 k).heads) j).data)))]) cF57 rfl rfl ((ref04_PutG h29 acc2 ((nth ((nth l8 k).heads) j).data) w32 (H34.rowSl 0 rfl (fun _ => rfl)) (by have h5 := (dir_lens hd).1; have h6 := rputs_len hd ha (by omega); have h7 := rputs_len2 ha2; have h8 := (dir_lens hd).2 _ (nth_mem (show k < l8.length by omega)); omega)).ret ?_))
   rintro _ w37 ⟨h36, rfl, hx38, ho39⟩
   have H40 := H34.addRow hx38 ho39
   refine O_as (v := (slV h36 (putL acc2 ((nth ((nth l8 k).heads) j).data)))) rfl rfl ?_
   refine O_nil (Blk_n (Then_n (W_reg ?_)))
   refine O_mv (v := (.int .i64 (j : Int))) rfl rfl ?_
   refine O_v rfl (R_arith (a := (j : Int)) (b := 1) (r0 := (j : Int) + 1) (r := ((j + 1 : Nat) : Int)) rfl rfl rfl (wrapN _ (by have h5 := (dir_lens hd).1; have h8 := (dir_lens hd).2 _ (nth_mem (show k < l8.length by omega)); omega)) ?_)
   refine O_as (v := (.int .i64 ((j + 1 : Nat) : Int))) rfl rfl ?_
   refine O_nil (Then_n ?_)
   have H41 := H40.sub (List.Sublist.cons_cons _ (List.Sublist.cons _ (List.Sublist.cons_cons _ (List.Sublist.cons_cons _ List.Sublist.slnil)))) (List.forall_mem_cons.2 ⟨List.mem_of_getElem? (i := 0) rfl, List.forall_mem_cons.2 ⟨List.mem_of_getElem? (i := 1) rfl, memN⟩⟩)
   refine ⟨_, ?_, (j + 1), (putL acc2 ((nth ((nth l8 k).heads) j).data)), h36, rfl, (by omega), (rputs_head ha2 (by omega)), _, envL_self ⟨rfl, rfl, rfl, rfl, rfl, rfl, rfl, rfl, rfl, rfl, rfl, rfl, rfl, rfl, rfl, rfl, rfl, trivial⟩, H41⟩
   omega
  ·have hc35 := (of_decide_eq_false hc35)
   refine W_exit (Then_x (Then_x (Blk_x (Blk_n (Then_n (W_reg ?_))))))
   refine O_mv (v := (.int .i64 (k : Int))) rfl rfl ?_
   refine O_v rfl (R_arith (a := (k : Int)) (b := 1) (r0 := (k : Int) + 1) (r := ((k + 1 : Nat) : Int)) rfl rfl rfl (wrapN _ (by have h5 := (dir_lens hd).1; have h8 := (dir_lens hd).2 _ (nth_mem (show k < l8.length by omega)); omega)) ?_)
   refine O_as (v := (.int .i64 ((k + 1 : Nat) : Int))) rfl rfl ?_
   refine O_nil (Then_n ?_)
   have H42 := H34.pick (B' := [rowR 77 38 itemCh h7 l8, rowR 44 32 idCh h29 acc2]) (I' := [deepI S9 headCh 34 (fun x : ItemS => x.hh) (fun x : ItemS => x.heads) l8, slI (Old w) encB 1 hb b]) [1, 0] (by decide) rfl (List.forall_mem_cons.2 ⟨List.mem_of_getElem? (i := 0) rfl, List.forall_mem_cons.2 ⟨List.mem_of_getElem? (i := 1) rfl, fun _ h => (nomatch h)⟩⟩)
   refine ⟨_, ?_, (k + 1), acc2, h29, rfl, (by omega), hd, (rputs_next ha (by omega) ha2 (by omega)), _, envL_self ⟨rfl, rfl, rfl, rfl, rfl, trivial⟩, H42⟩
   omega
 ·have hc23 := (of_decide_eq_false hc23)
  refine W_exit (Then_x (Then_x (Blk_x (Then_n (W_seq (W_reg ?_))))))
  refine O_mv (v := (slV hb b)) rfl rfl ?_
  refine O_v rfl (R_callL (vs := [(slV hb b)]) cF33 rfl rfl ((ref04_Change hb b w20 (H22.slOld 1 rfl)).ret ?_))
  rintro _ w46 ⟨x43, S44, rfl, hx47, hS48, hs49, hs50, hs51, hr52⟩
  have H54 := H22.addImm hx47 (slI S44 idCh 32 x43.ph x43.parents) hs49 hS48
  have H55 := H54.immOf 0 rfl (slI S44 opCh 41 x43.oh x43.ops) (fun _ h => h) (fun _ => hs50)
  have H56 := H55.immOf 0 rfl (deepI S44 stampCh 2 (fun x : OpS => x.oh) (fun x : OpS => x.over) x43.ops) (fun _ h => h) (fun _ => hs51)
  refine O_mv (v := (.tuple #[(aggOf (changeCh x43)), (.bool (ChangeB b))])) rfl rfl (O_ex (v := (aggOf (changeCh x43))) rfl rfl rfl (O_ex (v := (.bool (ChangeB b))) rfl rfl rfl ?_))
  refine O_v rfl (C_alloc H56 [[(.slice none 0 0)], [(.int .i64 0)], [(.int .i64 0)], [(.slice none 0 0)], (idCells zeroId), [(.string ByteArray.empty)]] Tryz.zeroValue47 ?_)
  intro b57 w58 hb59 hx60 H61
  refine O_u (C_storeW H61 0 rfl (sub := [[(slV x43.ph x43.parents)], [(.int .i64 x43.time)], [(.int .i64 x43.r)], [(slV x43.oh x43.ops)], (idCells x43.tree), [(.string x43.msg)]]) Tryz.sizeOf47 rfl rfl rfl rfl rfl ?_)
  intro w62 hg63 H64
  refine O_as (v := (.bool (ChangeB b))) rfl rfl ?_
  refine O_nil (Then_n (W_seq (W_seq (W_reg ?_))))
  refine O_mv (v := (.bool (ChangeB b))) rfl rfl ?_
  refine O_nil (Then_n ?_)
  refine W_cond rfl (fun hc65 => ?_) (fun hc65 => ?_)
  ·have hc65 : (ChangeB b) = true := hc65
   refine W_seq (W_reg ?_)
   refine O_mv (v := (slV h17 acc)) rfl rfl ?_
   refine O_v rfl (R_fieldAddr (off := 4) (oo := 4) Tryz.underlying47 rfl rfl Tryz.sizeOf45 rfl rfl ?_)
   refine O_v rfl (R_loadA (cs := [(idCells x43.tree)]) Tryz.isAgg45 Tryz.sizeOf45 rfl rfl (H64.bx 0 rfl 4 1 4 4 _ rfl rfl rfl) ?_)
   refine O_v rfl (R_callL (vs := [(slV h17 acc), (aggOf (idCh x43.tree))]) cF57 rfl rfl ((ref04_PutG h17 acc x43.tree w62 (H64.rowSl 2 rfl (fun _ => rfl)) (by have h5 := (dir_lens hd).1; have h6 := rputs_len hd ha (by omega); omega)).ret ?_))
   rintro _ w67 ⟨h66, rfl, hx68, ho69⟩
   have H70 := H64.addRow hx68 ho69
   refine O_as (v := (slV h66 (putL acc x43.tree))) rfl rfl ?_
   refine O_nil (Then_n (W_seq (W_seq (W_reg ?_))))
   refine O_as (v := (.int .i64 0)) rfl rfl ?_
   refine O_nil (Then_n (W_block ?_))
   refine W_loop (fun m72 e73 w74 => ∃ (i : Nat), ∃ (acc3 : List ID), ∃ (h71 : SlH), m72 = x43.parents.length - i ∧ (i ≤ x43.parents.length) ∧ (changeOk x43 = true) ∧ (acc3 = putAll (putL acc x43.tree) (x43.parents.take i)) ∧ ∃ eb75, e73 = envL [(0, (slV hb b)), (2, (.slice none 0 0)), (3, (slV h71 acc3)), (8, (.pointer (some ⟨b57, 0, none⟩))), (10, (.int .i64 (i : Int)))] eb75 ∧ Ctx w nob w74 [rowR 44 32 idCh h71 acc3, boxR b57 47 [[(slV x43.ph x43.parents)], [(.int .i64 x43.time)], [(.int .i64 x43.r)], [(slV x43.oh x43.ops)], (idCells x43.tree), [(.string x43.msg)]], rowR 77 38 itemCh h7 l8, rowR 44 32 idCh h17 acc] [deepI S44 stampCh 2 (fun x : OpS => x.oh) (fun x : OpS => x.over) x43.ops, slI S44 opCh 41 x43.oh x43.ops, slI S44 idCh 32 x43.ph x43.parents, deepI S9 headCh 34 (fun x : ItemS => x.hh) (fun x : ItemS => x.heads) l8, slI (Old w) encB 1 hb b]) _ ⟨0, (putL acc x43.tree), h66, rfl, (by omega), (changeR_ok hr52 hc65), rfl, _, envL_self ⟨rfl, rfl, rfl, rfl, rfl, trivial⟩, H70⟩ ?_
   rintro m72 _ w74 ⟨i, acc3, h71, rfl, hi, hC, ha3, eb75, rfl, H76⟩
   refine W_seq (W_seq (W_reg ?_))
   refine O_mv (v := (.int .i64 (i : Int))) rfl rfl ?_
   refine O_v rfl (R_fieldAddr (off := 0) (oo := 0) Tryz.underlying47 rfl rfl Tryz.sizeOf39 rfl rfl ?_)
   refine O_v rfl (R_load1 (v := (slV x43.ph x43.parents)) Tryz.isAgg39 rfl (H76.bx 1 rfl 0 1 0 0 _ rfl rfl rfl) ?_)
   refine O_v rfl (R_len_slice (a := x43.ph.a) (n := x43.parents.length) (c := x43.ph.c) Tryz.underlying39 rfl ?_)
   refine O_v rfl (R_cmp (a := (i : Int)) (b := (x43.parents.length : Int)) (r := (decide ((i : Int) < (x43.parents.length : Int)))) rfl rfl rfl ?_)
   refine O_nil (Then_n ?_)
   refine W_cond rfl (fun hc77 => ?_) (fun hc77 => ?_)
   ·have hc77 := (of_decide_eq_true hc77)
    refine W_skip (Then_n (W_seq (W_block (W_reg ?_))))
    refine O_mv (v := (slV h71 acc3)) rfl rfl ?_
    refine O_v rfl (R_fieldAddr (off := 0) (oo := 0) Tryz.underlying47 rfl rfl Tryz.sizeOf39 rfl rfl ?_)
    refine O_v rfl (R_load1 (v := (slV x43.ph x43.parents)) Tryz.isAgg39 rfl (H76.bx 1 rfl 0 1 0 0 _ rfl rfl rfl) ?_)
    refine O_mv (v := (.int .i64 (i : Int))) rfl rfl ?_
    refine O_v rfl (R_index_pure (H76.sl 2 rfl) (n := x43.parents.length) rfl (j := (i : Int)) (oo := (x43.ph.o + i * 32)) Tryz.underlying39 Tryz.sizeOf45 rfl rfl (by omega) (by omega) rfl ?_)
    refine O_v rfl (R_loadA (cs := [(idCells (nth x43.parents i))]) Tryz.isAgg45 Tryz.sizeOf45 rfl rfl ((Sl.elem (H76.sl 2 rfl) (i := i) (by omega) rfl).chunks 0 1 0 (x43.ph.o + i * 32) _ rfl rfl rfl) ?_)
    refine O_v rfl (R_callL (vs := [(slV h71 acc3), (aggOf (idCh (nth x43.parents i)))]) cF57 rfl rfl ((ref04_PutG h71 acc3 (nth x43.parents i) w74 (H76.rowSl 0 rfl (fun _ => rfl)) (by have h5 := (dir_lens hd).1; have h6 := rputs_len hd ha (by omega); have h7 := rputs_len3 ha3; have h8 := change_lens hC; omega)).ret ?_))
    rintro _ w79 ⟨h78, rfl, hx80, ho81⟩
    have H82 := H76.addRow hx80 ho81
    refine O_as (v := (slV h78 (putL acc3 (nth x43.parents i)))) rfl rfl ?_
    refine O_nil (Blk_n (Then_n (W_reg ?_)))
    refine O_mv (v := (.int .i64 (i : Int))) rfl rfl ?_
    refine O_v rfl (R_arith (a := (i : Int)) (b := 1) (r0 := (i : Int) + 1) (r := ((i + 1 : Nat) : Int)) rfl rfl rfl (wrapN _ (by have h8 := change_lens hC; omega)) ?_)
    refine O_as (v := (.int .i64 ((i + 1 : Nat) : Int))) rfl rfl ?_
    refine O_nil (Then_n ?_)
    have H83 := H82.sub (List.Sublist.cons_cons _ (List.Sublist.cons _ (List.Sublist.cons_cons _ (List.Sublist.cons_cons _ (List.Sublist.cons_cons _ List.Sublist.slnil))))) (List.forall_mem_cons.2 ⟨List.mem_of_getElem? (i := 0) rfl, List.forall_mem_cons.2 ⟨List.mem_of_getElem? (i := 1) rfl, List.forall_mem_cons.2 ⟨List.mem_of_getElem? (i := 2) rfl, List.forall_mem_cons.2 ⟨List.mem_of_getElem? (i := 3) rfl, List.forall_mem_cons.2 ⟨List.mem_of_getElem? (i := 4) rfl, memN⟩⟩⟩⟩⟩)
    refine ⟨_, ?_, (i + 1), (putL acc3 (nth x43.parents i)), h78, rfl, (by omega), hC, (rputs_par ha3 (by omega)), _, envL_self ⟨rfl, rfl, rfl, rfl, rfl, trivial⟩, H83⟩
    omega
   ·have hc77 := (of_decide_eq_false hc77)
    refine W_exit (Then_x (Then_x (Blk_x (Then_n (W_seq (W_reg ?_))))))
    refine O_as (v := (.int .i64 0)) rfl rfl ?_
    refine O_nil (Then_n (W_block ?_))
    refine W_loop (fun m85 e86 w87 => ∃ (m : Nat), ∃ (acc4 : List ID), ∃ (h84 : SlH), m85 = x43.ops.length - m ∧ (m ≤ x43.ops.length) ∧ (acc4 = putAll acc3 ((x43.ops.take m).map (·.data))) ∧ ∃ eb88, e86 = envL [(0, (slV hb b)), (2, (.slice none 0 0)), (3, (slV h84 acc4)), (8, (.pointer (some ⟨b57, 0, none⟩))), (11, (.int .i64 (m : Int)))] eb88 ∧ Ctx w nob w87 [rowR 44 32 idCh h84 acc4, boxR b57 47 [[(slV x43.ph x43.parents)], [(.int .i64 x43.time)], [(.int .i64 x43.r)], [(slV x43.oh x43.ops)], (idCells x43.tree), [(.string x43.msg)]], rowR 77 38 itemCh h7 l8, rowR 44 32 idCh h17 acc] [deepI S44 stampCh 2 (fun x : OpS => x.oh) (fun x : OpS => x.over) x43.ops, slI S44 opCh 41 x43.oh x43.ops, slI S44 idCh 32 x43.ph x43.parents, deepI S9 headCh 34 (fun x : ItemS => x.hh) (fun x : ItemS => x.heads) l8, slI (Old w) encB 1 hb b]) _ ⟨0, acc3, h71, rfl, (by omega), rfl, _, envL_self ⟨rfl, rfl, rfl, rfl, rfl, trivial⟩, H76⟩ ?_
    rintro m85 _ w87 ⟨m, acc4, h84, rfl, hm, ha4, eb88, rfl, H89⟩
    refine W_seq (W_seq (W_reg ?_))
    refine O_mv (v := (.int .i64 (m : Int))) rfl rfl ?_
    refine O_v rfl (R_fieldAddr (off := 3) (oo := 3) Tryz.underlying47 rfl rfl Tryz.sizeOf43 rfl rfl ?_)
    refine O_v rfl (R_load1 (v := (slV x43.oh x43.ops)) Tryz.isAgg43 rfl (H89.bx 1 rfl 3 1 3 3 _ rfl rfl rfl) ?_)
    refine O_v rfl (R_len_slice (a := x43.oh.a) (n := x43.ops.length) (c := x43.oh.c) Tryz.underlying43 rfl ?_)
    refine O_v rfl (R_cmp (a := (m : Int)) (b := (x43.ops.length : Int)) (r := (decide ((m : Int) < (x43.ops.length : Int)))) rfl rfl rfl ?_)
    refine O_nil (Then_n ?_)
    refine W_cond rfl (fun hc90 => ?_) (fun hc90 => ?_)
    ·have hc90 := (of_decide_eq_true hc90)
     refine W_skip (Then_n (W_seq (W_block (W_reg ?_))))
     refine O_mv (v := (slV h84 acc4)) rfl rfl ?_
     refine O_v rfl (R_fieldAddr (off := 3) (oo := 3) Tryz.underlying47 rfl rfl Tryz.sizeOf43 rfl rfl ?_)
     refine O_v rfl (R_load1 (v := (slV x43.oh x43.ops)) Tryz.isAgg43 rfl (H89.bx 1 rfl 3 1 3 3 _ rfl rfl rfl) ?_)
     refine O_mv (v := (.int .i64 (m : Int))) rfl rfl ?_
     refine O_v rfl (R_index_pure (H89.sl 1 rfl) (n := x43.ops.length) rfl (j := (m : Int)) (oo := (x43.oh.o + m * 41)) Tryz.underlying43 Tryz.sizeOf72 rfl rfl (by omega) (by omega) rfl ?_)
     refine O_v rfl (R_fieldAddr (off := 8) (oo := ((x43.oh.o + m * 41) + 8)) Tryz.underlying72 rfl rfl Tryz.sizeOf45 rfl rfl ?_)
     refine O_v rfl (R_loadA (cs := [(idCells ((nth x43.ops m).data))]) Tryz.isAgg45 Tryz.sizeOf45 rfl rfl ((Sl.elem (H89.sl 1 rfl) (i := m) (by omega) rfl).chunks 8 1 8 ((x43.oh.o + m * 41) + 8) _ rfl rfl rfl) ?_)
     refine O_v rfl (R_callL (vs := [(slV h84 acc4), (aggOf (idCh ((nth x43.ops m).data)))]) cF57 rfl rfl ((ref04_PutG h84 acc4 ((nth x43.ops m).data) w87 (H89.rowSl 0 rfl (fun _ => rfl)) (by have h5 := (dir_lens hd).1; have h6 := rputs_len hd ha (by omega); have h7 := rputs_len3 ha3; have h8 := change_lens hC; have h9 := rputs_len4 ha4; omega)).ret ?_))
     rintro _ w92 ⟨h91, rfl, hx93, ho94⟩
     have H95 := H89.addRow hx93 ho94
     refine O_as (v := (slV h91 (putL acc4 ((nth x43.ops m).data)))) rfl rfl ?_
     refine O_nil (Blk_n (Then_n (W_reg ?_)))
     refine O_mv (v := (.int .i64 (m : Int))) rfl rfl ?_
     refine O_v rfl (R_arith (a := (m : Int)) (b := 1) (r0 := (m : Int) + 1) (r := ((m + 1 : Nat) : Int)) rfl rfl rfl (wrapN _ (by have h8 := change_lens hC; omega)) ?_)
     refine O_as (v := (.int .i64 ((m + 1 : Nat) : Int))) rfl rfl ?_
     refine O_nil (Then_n ?_)
     have H96 := H95.sub (List.Sublist.cons_cons _ (List.Sublist.cons _ (List.Sublist.cons_cons _ (List.Sublist.cons_cons _ (List.Sublist.cons_cons _ List.Sublist.slnil))))) (List.forall_mem_cons.2 ⟨List.mem_of_getElem? (i := 0) rfl, List.forall_mem_cons.2 ⟨List.mem_of_getElem? (i := 1) rfl, List.forall_mem_cons.2 ⟨List.mem_of_getElem? (i := 2) rfl, List.forall_mem_cons.2 ⟨List.mem_of_getElem? (i := 3) rfl, List.forall_mem_cons.2 ⟨List.mem_of_getElem? (i := 4) rfl, memN⟩⟩⟩⟩⟩)
     refine ⟨_, ?_, (m + 1), (putL acc4 ((nth x43.ops m).data)), h91, rfl, (by omega), (rputs_op ha4 (by omega)), _, envL_self ⟨rfl, rfl, rfl, rfl, rfl, trivial⟩, H96⟩
     omega
    ·have hc90 := (of_decide_eq_false hc90)
     refine W_exit (Then_x (Then_x (Blk_x (Then_n (W_seq (W_reg ?_))))))
     refine O_mv (v := (slV hb b)) rfl rfl ?_
     refine O_v rfl (R_callL (vs := [(slV hb b)]) cF34 rfl rfl ((ref04_Label hb b w87 (H89.slOld 4 rfl)).ret ?_))
     rintro _ w97 ⟨rfl, hx98⟩
     have H99 := H89.ext hx98
     refine O_mv (v := (.tuple #[(aggOf (labelCh ((labelOf b).1))), (.bool (decide ((labelOf b).2 = 0)))])) rfl rfl (O_ex (v := (aggOf (labelCh ((labelOf b).1)))) rfl rfl rfl (O_ex (v := (.bool (decide ((labelOf b).2 = 0)))) rfl rfl rfl ?_))
     refine O_v rfl (C_alloc H99 [(idCells zeroId), [(.string ByteArray.empty)], [(.string ByteArray.empty)]] Tryz.zeroValue55 ?_)
     intro b100 w101 hb102 hx103 H104
     refine O_u (C_storeW H104 0 rfl (sub := [(idCells (((labelOf b).1).target)), [(.string (((labelOf b).1).name))], [(.string (((labelOf b).1).msg))]]) Tryz.sizeOf55 rfl rfl rfl rfl rfl ?_)
     intro w105 hg106 H107
     refine O_as (v := (.bool (decide ((labelOf b).2 = 0)))) rfl rfl ?_
     refine O_nil (Then_n (W_seq (W_seq (W_reg ?_))))
     refine O_mv (v := (.bool (decide ((labelOf b).2 = 0)))) rfl rfl ?_
     refine O_nil (Then_n ?_)
     refine W_cond rfl (fun hc108 => ?_) (fun hc108 => ?_)
     ·have hc108 := (of_decide_eq_true hc108)
      refine W_reg ?_
      refine O_mv (v := (slV h84 acc4)) rfl rfl ?_
      refine O_v rfl (R_fieldAddr (off := 0) (oo := 0) Tryz.underlying55 rfl rfl Tryz.sizeOf45 rfl rfl ?_)
      refine O_v rfl (R_loadA (cs := [(idCells (((labelOf b).1).target))]) Tryz.isAgg45 Tryz.sizeOf45 rfl rfl (H107.bx 0 rfl 0 1 0 0 _ rfl rfl rfl) ?_)
      refine O_v rfl (R_callL (vs := [(slV h84 acc4), (aggOf (idCh (((labelOf b).1).target)))]) cF57 rfl rfl ((ref04_PutG h84 acc4 (((labelOf b).1).target) w105 (H107.rowSl 1 rfl (fun _ => rfl)) (by have h5 := (dir_lens hd).1; have h6 := rputs_len hd ha (by omega); have h7 := rputs_len3 ha3; have h8 := change_lens hC; have h9 := rputs_len4 ha4; omega)).ret ?_))
      rintro _ w110 ⟨h109, rfl, hx111, ho112⟩
      have H113 := H107.addRow hx111 ho112
      refine O_as (v := (slV h109 (putL acc4 (((labelOf b).1).target)))) rfl rfl ?_
      refine O_nil (Then_n (W_seq (W_reg ?_)))
      refine O_mv (v := (slV h109 (putL acc4 (((labelOf b).1).target)))) rfl rfl (O_as (v := (slV h109 (putL acc4 (((labelOf b).1).target)))) rfl rfl ?_)
      refine O_nil (Then_n (W_ret ?_))
      refine ret_1 (v := (slV h109 (putL acc4 (((labelOf b).1).target)))) Tryz.results22 rfl ?_
      have hE : putL acc4 (((labelOf b).1).target) = linksOf b := (rlinks_a hr15 hr52 hc65 (rputs_chg ha (by omega) ha3 (by omega) ha4 (by omega)) hc108)
      refine ⟨h109, ?_, H113.gr, ?_⟩
      · exact congrArg (fun l => slV h109 l) hE
      · have hO := H113.retRow 0 rfl
        exact hE ▸ hO
     ·have hc108 := (of_decide_eq_false hc108)
      refine W_skip (Then_n (W_seq (W_reg ?_)))
      refine O_mv (v := (slV h84 acc4)) rfl rfl (O_as (v := (slV h84 acc4)) rfl rfl ?_)
      refine O_nil (Then_n (W_ret ?_))
      refine ret_1 (v := (slV h84 acc4)) Tryz.results22 rfl ?_
      have hE : acc4 = linksOf b := (rlinks_b hr15 hr52 hc65 (rputs_chg ha (by omega) ha3 (by omega) ha4 (by omega)) hc108)
      refine ⟨h84, ?_, H107.gr, ?_⟩
      · exact congrArg (fun l => slV h84 l) hE
      · have hO := H107.retRow 1 rfl
        exact hE ▸ hO
  ·have hc65 : (ChangeB b) = false := hc65
   refine W_skip (Then_n (W_seq (W_reg ?_)))
   refine O_mv (v := (slV hb b)) rfl rfl ?_
   refine O_v rfl (R_callL (vs := [(slV hb b)]) cF34 rfl rfl ((ref04_Label hb b w62 (H64.slOld 4 rfl)).ret ?_))
   rintro _ w114 ⟨rfl, hx115⟩
   have H116 := H64.ext hx115
   refine O_mv (v := (.tuple #[(aggOf (labelCh ((labelOf b).1))), (.bool (decide ((labelOf b).2 = 0)))])) rfl rfl (O_ex (v := (aggOf (labelCh ((labelOf b).1)))) rfl rfl rfl (O_ex (v := (.bool (decide ((labelOf b).2 = 0)))) rfl rfl rfl ?_))
   refine O_v rfl (C_alloc H116 [(idCells zeroId), [(.string ByteArray.empty)], [(.string ByteArray.empty)]] Tryz.zeroValue55 ?_)
   intro b117 w118 hb119 hx120 H121
   refine O_u (C_storeW H121 0 rfl (sub := [(idCells (((labelOf b).1).target)), [(.string (((labelOf b).1).name))], [(.string (((labelOf b).1).msg))]]) Tryz.sizeOf55 rfl rfl rfl rfl rfl ?_)
   intro w122 hg123 H124
   refine O_as (v := (.bool (decide ((labelOf b).2 = 0)))) rfl rfl ?_
   refine O_nil (Then_n (W_seq (W_seq (W_reg ?_))))
   refine O_mv (v := (.bool (decide ((labelOf b).2 = 0)))) rfl rfl ?_
   refine O_nil (Then_n ?_)
   refine W_cond rfl (fun hc125 => ?_) (fun hc125 => ?_)
   ·have hc125 := (of_decide_eq_true hc125)
    refine W_reg ?_
    refine O_mv (v := (slV h17 acc)) rfl rfl ?_
    refine O_v rfl (R_fieldAddr (off := 0) (oo := 0) Tryz.underlying55 rfl rfl Tryz.sizeOf45 rfl rfl ?_)
    refine O_v rfl (R_loadA (cs := [(idCells (((labelOf b).1).target))]) Tryz.isAgg45 Tryz.sizeOf45 rfl rfl (H124.bx 0 rfl 0 1 0 0 _ rfl rfl rfl) ?_)
    refine O_v rfl (R_callL (vs := [(slV h17 acc), (aggOf (idCh (((labelOf b).1).target)))]) cF57 rfl rfl ((ref04_PutG h17 acc (((labelOf b).1).target) w122 (H124.rowSl 3 rfl (fun _ => rfl)) (by have h5 := (dir_lens hd).1; have h6 := rputs_len hd ha (by omega); omega)).ret ?_))
    rintro _ w127 ⟨h126, rfl, hx128, ho129⟩
    have H130 := H124.addRow hx128 ho129
    refine O_as (v := (slV h126 (putL acc (((labelOf b).1).target)))) rfl rfl ?_
    refine O_nil (Then_n (W_seq (W_reg ?_)))
    refine O_mv (v := (slV h126 (putL acc (((labelOf b).1).target)))) rfl rfl (O_as (v := (slV h126 (putL acc (((labelOf b).1).target)))) rfl rfl ?_)
    refine O_nil (Then_n (W_ret ?_))
    refine ret_1 (v := (slV h126 (putL acc (((labelOf b).1).target)))) Tryz.results22 rfl ?_
    have hE : putL acc (((labelOf b).1).target) = linksOf b := (rlinks_c hr15 hc65 ha (by omega) hc125)
    refine ⟨h126, ?_, H130.gr, ?_⟩
    · exact congrArg (fun l => slV h126 l) hE
    · have hO := H130.retRow 0 rfl
      exact hE ▸ hO
   ·have hc125 := (of_decide_eq_false hc125)
    refine W_skip (Then_n (W_seq (W_reg ?_)))
    refine O_mv (v := (slV h17 acc)) rfl rfl (O_as (v := (slV h17 acc)) rfl rfl ?_)
    refine O_nil (Then_n (W_ret ?_))
    refine ret_1 (v := (slV h17 acc)) Tryz.results22 rfl ?_
    have hE : acc = linksOf b := (rlinks_d hr15 hc65 ha (by omega) hc125)
    refine ⟨h17, ?_, H124.gr, ?_⟩
    · exact congrArg (fun l => slV h17 l) hE
    · have hO := H124.retRow 3 rfl
      exact hE ▸ hO
set_option maxHeartbeats 1000000 in
theorem ref01_Join (ha : SlH) (a : List UInt8) (hb : SlH) (b : List UInt8) (w : World) (Sa : Sl (Old w) encB 1 ha a w) (Sb : Sl (Old w) encB 1 hb b w) (hl : a.length + b.length ≤ 70368744177664) :
    Calls Tryz.prog 13 #[(slV ha a), (slV hb b)] w (Ret fun v w' => ∃ h, v = slV h (a ++ b) ∧ Ext w w' ∧ OwnS w.heap.size 5 1 encB h (a ++ b) w') := by
 refine calls_W Tryz.func13 rfl Tryz.ntmps13 rfl ?_
 have H0 := Ctx.start w nob
 have H1 := H0.addSl _ Sa (fun b hb => ⟨hb, fun _ ho => (nomatch ho)⟩)
 have LSa := Sa.len
 have H2 := H1.addSl _ Sb (fun b hb => ⟨hb, fun _ ho => (nomatch ho)⟩)
 have LSb := Sb.len
 refine W_seq (W_reg ?_)
 refine O_as (v := (.slice none 0 0)) rfl rfl ?_
 refine O_nil (Then_n (W_seq (W_reg ?_)))
 refine O_v rfl (C_buildSliceL H2 (enc := encB) (val := byteV) ([] : List UInt8) Tryz.underlying22 Tryz.sizeOf5 Tryz.zeroValue5 rfl (by decide) (fun _ => rfl) (fun _ => rfl) rfl rfl (by decide) ?_)
 intro b3 w4 hb5 hx6 H7
 refine O_as (v := (slV ⟨some ⟨b3, 0, none⟩, b3, 0, 0⟩ ([] : List UInt8))) rfl rfl ?_
 refine O_nil (Then_n (W_seq (W_seq (W_reg ?_))))
 refine O_as (v := (.int .i64 0)) rfl rfl ?_
 refine O_nil (Then_n (W_block ?_))
 refine W_loop (fun m9 e10 w11 => ∃ (k : Nat), ∃ (acc : List UInt8), ∃ (h8 : SlH), m9 = a.length - k ∧ (k ≤ a.length) ∧ (acc = a.take k) ∧ (acc.length ≤ k) ∧ ∃ eb12, e10 = envL [(0, (slV ha a)), (1, (slV hb b)), (4, (.slice none 0 0)), (5, (slV h8 acc)), (6, (.int .i64 (k : Int)))] eb12 ∧ Ctx w nob w11 [rowR 5 1 encB h8 acc] [slI (Old w) encB 1 hb b, slI (Old w) encB 1 ha a]) _ ⟨0, [], ⟨some ⟨b3, 0, none⟩, b3, 0, 0⟩, rfl, (by omega), rfl, (Nat.zero_le _), _, envL_self ⟨rfl, rfl, rfl, rfl, rfl, trivial⟩, H7⟩ ?_
 rintro m9 _ w11 ⟨k, acc, h8, rfl, hk, hac, hal, eb12, rfl, H13⟩
 refine W_seq (W_seq (W_reg ?_))
 refine O_mv (v := (.int .i64 (k : Int))) rfl rfl (O_mv (v := (slV ha a)) rfl rfl ?_)
 refine O_v rfl (R_len_slice (a := ha.a) (n := a.length) (c := ha.c) Tryz.underlying22 rfl ?_)
 refine O_v rfl (R_cmp (a := (k : Int)) (b := (a.length : Int)) (r := (decide ((k : Int) < (a.length : Int)))) rfl rfl rfl ?_)
 refine O_nil (Then_n ?_)
 refine W_cond rfl (fun hc14 => ?_) (fun hc14 => ?_)
 ·have hc14 := (of_decide_eq_true hc14)
  refine W_skip (Then_n (W_seq (W_block (W_reg ?_))))
  refine O_mv (v := (slV h8 acc)) rfl rfl (O_mv (v := (slV ha a)) rfl rfl (O_mv (v := (.int .i64 (k : Int))) rfl rfl ?_))
  refine O_v rfl (R_index_pure (H13.sl 1 rfl) (n := a.length) rfl (j := (k : Int)) (oo := (ha.o + k * 1)) Tryz.underlying22 Tryz.sizeOf5 rfl rfl (by omega) (by omega) rfl ?_)
  refine O_v rfl (R_load1 (v := (.int .u8 ((nth a k).toNat : Int))) Tryz.isAgg5 rfl ((Sl.elem (H13.sl 1 rfl) (i := k) (by omega) rfl).chunks 0 1 0 (ha.o + k * 1) _ rfl rfl rfl) ?_)
  refine O_v rfl (C_buildSliceL H13 (enc := encB) (val := byteV) ([(nth a k)] : List UInt8) Tryz.underlying22 Tryz.sizeOf5 Tryz.zeroValue5 rfl (by decide) (fun _ => rfl) (fun _ => rfl) rfl rfl (by decide) ?_)
  intro b15 w16 hb17 hx18 H19
  refine O_v rfl (C_append H19 1 rfl (bytes := 1) (l := acc) (ys := ([(nth a k)] : List UInt8)) Tryz.underlying22 rfl rfl rfl rfl rfl (by decide) rfl rfl (OwnS.sl (H19.getOwn 0 rfl) (fun _ => rfl)) (fun _ => rfl) (fun _ => rfl) (by simp only [List.length_append, List.length_cons, List.length_nil]; omega) (by decide) ?_)
  intro h20 w21 hg22 H23
  refine O_as (v := (slV h20 (acc ++ ([(nth a k)] : List UInt8)))) rfl rfl ?_
  refine O_nil (Blk_n (Then_n (W_reg ?_)))
  refine O_mv (v := (.int .i64 (k : Int))) rfl rfl ?_
  refine O_v rfl (R_arith (a := (k : Int)) (b := 1) (r0 := (k : Int) + 1) (r := ((k + 1 : Nat) : Int)) rfl rfl rfl (wrapN _ (by omega)) ?_)
  refine O_as (v := (.int .i64 ((k + 1 : Nat) : Int))) rfl rfl ?_
  refine O_nil (Then_n ?_)
  have H24 := H23.sub (List.Sublist.cons _ (List.Sublist.cons_cons _ List.Sublist.slnil)) (List.forall_mem_cons.2 ⟨List.mem_of_getElem? (i := 0) rfl, List.forall_mem_cons.2 ⟨List.mem_of_getElem? (i := 1) rfl, memN⟩⟩)
  refine ⟨_, ?_, (k + 1), (acc ++ ([(nth a k)] : List UInt8)), h20, rfl, (by omega), (by rw [hac]; exact (take_snoc (by omega)).symm), (by simp only [List.length_append, List.length_cons, List.length_nil]; omega), _, envL_self ⟨rfl, rfl, rfl, rfl, rfl, trivial⟩, H24⟩
  omega
 ·have hc14 := (of_decide_eq_false hc14)
  refine W_exit (Then_x (Then_x (Blk_x (Then_n (W_seq (W_seq (W_reg ?_)))))))
  refine O_as (v := (.int .i64 0)) rfl rfl ?_
  refine O_nil (Then_n (W_block ?_))
  refine W_loop (fun m26 e27 w28 => ∃ (j : Nat), ∃ (acc2 : List UInt8), ∃ (h25 : SlH), m26 = b.length - j ∧ (j ≤ b.length) ∧ (acc2 = a ++ b.take j) ∧ (acc2.length ≤ a.length + j) ∧ ∃ eb29, e27 = envL [(1, (slV hb b)), (4, (.slice none 0 0)), (5, (slV h25 acc2)), (7, (.int .i64 (j : Int)))] eb29 ∧ Ctx w nob w28 [rowR 5 1 encB h25 acc2] [slI (Old w) encB 1 hb b, slI (Old w) encB 1 ha a]) _ ⟨0, acc, h8, rfl, (by omega), (by rw [hac, List.take_of_length_le (by omega), List.take_zero, List.append_nil]), (by omega), _, envL_self ⟨rfl, rfl, rfl, rfl, trivial⟩, H13⟩ ?_
  rintro m26 _ w28 ⟨j, acc2, h25, rfl, hj, hac2, hal2, eb29, rfl, H30⟩
  refine W_seq (W_seq (W_reg ?_))
  refine O_mv (v := (.int .i64 (j : Int))) rfl rfl (O_mv (v := (slV hb b)) rfl rfl ?_)
  refine O_v rfl (R_len_slice (a := hb.a) (n := b.length) (c := hb.c) Tryz.underlying22 rfl ?_)
  refine O_v rfl (R_cmp (a := (j : Int)) (b := (b.length : Int)) (r := (decide ((j : Int) < (b.length : Int)))) rfl rfl rfl ?_)
  refine O_nil (Then_n ?_)
  refine W_cond rfl (fun hc31 => ?_) (fun hc31 => ?_)
  ·have hc31 := (of_decide_eq_true hc31)
   refine W_skip (Then_n (W_seq (W_block (W_reg ?_))))
   refine O_mv (v := (slV h25 acc2)) rfl rfl (O_mv (v := (slV hb b)) rfl rfl (O_mv (v := (.int .i64 (j : Int))) rfl rfl ?_))
   refine O_v rfl (R_index_pure (H30.sl 0 rfl) (n := b.length) rfl (j := (j : Int)) (oo := (hb.o + j * 1)) Tryz.underlying22 Tryz.sizeOf5 rfl rfl (by omega) (by omega) rfl ?_)
   refine O_v rfl (R_load1 (v := (.int .u8 ((nth b j).toNat : Int))) Tryz.isAgg5 rfl ((Sl.elem (H30.sl 0 rfl) (i := j) (by omega) rfl).chunks 0 1 0 (hb.o + j * 1) _ rfl rfl rfl) ?_)
   refine O_v rfl (C_buildSliceL H30 (enc := encB) (val := byteV) ([(nth b j)] : List UInt8) Tryz.underlying22 Tryz.sizeOf5 Tryz.zeroValue5 rfl (by decide) (fun _ => rfl) (fun _ => rfl) rfl rfl (by decide) ?_)
   intro b32 w33 hb34 hx35 H36
   refine O_v rfl (C_append H36 1 rfl (bytes := 1) (l := acc2) (ys := ([(nth b j)] : List UInt8)) Tryz.underlying22 rfl rfl rfl rfl rfl (by decide) rfl rfl (OwnS.sl (H36.getOwn 0 rfl) (fun _ => rfl)) (fun _ => rfl) (fun _ => rfl) (by simp only [List.length_append, List.length_cons, List.length_nil]; omega) (by decide) ?_)
   intro h37 w38 hg39 H40
   refine O_as (v := (slV h37 (acc2 ++ ([(nth b j)] : List UInt8)))) rfl rfl ?_
   refine O_nil (Blk_n (Then_n (W_reg ?_)))
   refine O_mv (v := (.int .i64 (j : Int))) rfl rfl ?_
   refine O_v rfl (R_arith (a := (j : Int)) (b := 1) (r0 := (j : Int) + 1) (r := ((j + 1 : Nat) : Int)) rfl rfl rfl (wrapN _ (by omega)) ?_)
   refine O_as (v := (.int .i64 ((j + 1 : Nat) : Int))) rfl rfl ?_
   refine O_nil (Then_n ?_)
   have H41 := H40.sub (List.Sublist.cons _ (List.Sublist.cons_cons _ List.Sublist.slnil)) (List.forall_mem_cons.2 ⟨List.mem_of_getElem? (i := 0) rfl, List.forall_mem_cons.2 ⟨List.mem_of_getElem? (i := 1) rfl, memN⟩⟩)
   refine ⟨_, ?_, (j + 1), (acc2 ++ ([(nth b j)] : List UInt8)), h37, rfl, (by omega), (by rw [hac2, List.append_assoc]; exact congrArg _ (take_snoc (by omega)).symm), (by simp only [List.length_append, List.length_cons, List.length_nil]; omega), _, envL_self ⟨rfl, rfl, rfl, rfl, trivial⟩, H41⟩
   omega
  ·have hc31 := (of_decide_eq_false hc31)
   refine W_exit (Then_x (Then_x (Blk_x (Then_n (W_seq (W_reg ?_))))))
   refine O_mv (v := (slV h25 acc2)) rfl rfl (O_as (v := (slV h25 acc2)) rfl rfl ?_)
   refine O_nil (Then_n (W_ret ?_))
   refine ret_1 (v := (slV h25 acc2)) Tryz.results13 rfl ?_
   have hE : acc2 = a ++ b := (by rw [hac2, List.take_of_length_le (by omega)])
   refine ⟨h25, ?_, H30.gr, ?_⟩
   · exact congrArg (fun l => slV h25 l) hE
   · have hO := H30.retRow 0 rfl
     exact hE ▸ hO
set_option maxHeartbeats 1000000 in
theorem ref02_Num (n : Int) (w : World) :
    Calls Tryz.prog 90 #[(.int .i64 n)] w (Ret fun v w' => ∃ h, v = slV h (numB n) ∧ Ext w w' ∧ OwnS w.heap.size 5 1 encB h (numB n) w') := by
 refine calls_W Tryz.func90 rfl Tryz.ntmps90 rfl ?_
 have H0 := Ctx.start w nob
 refine W_seq (W_reg ?_)
 refine O_as (v := (.slice none 0 0)) rfl rfl ?_
 refine O_nil (Then_n (W_seq (W_seq (W_reg ?_))))
 refine O_mv (v := (.int .i64 n)) rfl rfl ?_
 refine O_v rfl (R_cmp (a := n) (b := 0) (r := (decide (n < 0))) rfl rfl rfl ?_)
 refine O_nil (Then_n ?_)
 refine W_cond rfl (fun hc1 => ?_) (fun hc1 => ?_)
 ·have hc1 := (of_decide_eq_true hc1)
  refine W_reg ?_
  refine O_as (v := (.int .i64 0)) rfl rfl ?_
  refine O_nil (Then_n (W_seq (W_seq (W_reg ?_))))
  refine O_mv (v := (.int .i64 0)) rfl rfl ?_
  refine O_v rfl (R_cmp (a := 0) (b := 4611686018427387904) (r := (decide ((4611686018427387904 : Int) < 0))) rfl rfl rfl ?_)
  refine O_nil (Then_n ?_)
  refine W_cond rfl (fun hc2 => ?_) (fun hc2 => ?_)
  ·have hc2 := (of_decide_eq_true hc2)
   refine W_reg ?_
   refine O_as (v := (.int .i64 4611686018427387904)) rfl rfl ?_
   refine O_nil (Then_n (W_seq (W_reg ?_)))
   refine O_v rfl (C_buildSliceL H0 (enc := encB) (val := byteV) ([] : List UInt8) Tryz.underlying22 Tryz.sizeOf5 Tryz.zeroValue5 rfl (by decide) (fun _ => rfl) (fun _ => rfl) rfl rfl (by decide) ?_)
   intro b3 w4 hb5 hx6 H7
   refine O_as (v := (slV ⟨some ⟨b3, 0, none⟩, b3, 0, 0⟩ ([] : List UInt8))) rfl rfl ?_
   refine O_nil (Then_n (W_seq (W_block ?_)))
   refine W_loop (fun m9 e10 w11 => ∃ (u : Nat), ∃ (acc : List UInt8), ∃ (h8 : SlH), m9 = u + 1 ∧ (acc ++ numGo u = ([] : List UInt8) ++ numB n) ∧ (u ≤ 4611686018427387904) ∧ (acc.length + (numGo u).length ≤ 9) ∧ ∃ eb12, e10 = envL [(0, (.int .i64 (u : Int))), (2, (.slice none 0 0)), (3, (slV h8 acc))] eb12 ∧ Ctx w nob w11 [rowR 5 1 encB h8 acc] []) _ ⟨4611686018427387904, [], ⟨some ⟨b3, 0, none⟩, b3, 0, 0⟩, rfl, (rnum_start (by unfold numClamp; omega)), (by omega), (rnum_len (by omega)), _, envL_self ⟨(congrArg (Value.int .i64) (by omega)), rfl, rfl, trivial⟩, H7⟩ ?_
   rintro m9 _ w11 ⟨u, acc, h8, rfl, hac, hu, hal, eb12, rfl, H13⟩
   refine W_seq (W_seq (W_reg ?_))
   refine O_mv (v := (.int .i64 (u : Int))) rfl rfl ?_
   refine O_v rfl (R_cmp (a := (u : Int)) (b := 128) (r := (decide (128 ≤ (u : Int)))) rfl rfl rfl ?_)
   refine O_nil (Then_n ?_)
   refine W_cond rfl (fun hc14 => ?_) (fun hc14 => ?_)
   ·have hc14 := (of_decide_eq_true hc14)
    refine W_skip (Then_n (W_block (W_seq (W_reg ?_))))
    refine O_mv (v := (slV h8 acc)) rfl rfl (O_mv (v := (.int .i64 (u : Int))) rfl rfl ?_)
    refine O_v rfl (R_rem (a := (u : Int)) (b := ((128 : Nat) : Int)) (r := (((u % 128) : Nat) : Int)) rfl rfl (by decide) (tmod_nat _ _) ?_)
    refine O_v rfl (R_arith (a := (((u % 128) : Nat) : Int)) (b := 128) (r0 := (((u % 128) : Nat) : Int) + 128) (r := (((u % 128 + 128) : Nat) : Int)) rfl rfl rfl (by rw [w64 _ (by omega)]; omega) ?_)
    refine O_v rfl (R_conv_int (a := (((u % 128 + 128) : Nat) : Int)) (r := ((UInt8.ofNat (u % 128 + 128)).toNat : Int)) Tryz.underlying2 Tryz.underlying5 rfl (conv_u8 _) ?_)
    refine O_v rfl (C_buildSliceL H13 (enc := encB) (val := byteV) ([(UInt8.ofNat (u % 128 + 128))] : List UInt8) Tryz.underlying22 Tryz.sizeOf5 Tryz.zeroValue5 rfl (by decide) (fun _ => rfl) (fun _ => rfl) rfl rfl (by decide) ?_)
    intro b15 w16 hb17 hx18 H19
    refine O_v rfl (C_append H19 1 rfl (bytes := 1) (l := acc) (ys := ([(UInt8.ofNat (u % 128 + 128))] : List UInt8)) Tryz.underlying22 rfl rfl rfl rfl rfl (by decide) rfl rfl (OwnS.sl (H19.getOwn 0 rfl) (fun _ => rfl)) (fun _ => rfl) (fun _ => rfl) (by have := numGo_len1 u; simp only [List.length_append, List.length_cons, List.length_nil]; omega) (by decide) ?_)
    intro h20 w21 hg22 H23
    refine O_as (v := (slV h20 (acc ++ ([(UInt8.ofNat (u % 128 + 128))] : List UInt8)))) rfl rfl ?_
    refine O_nil (Then_n (W_reg ?_))
    refine O_mv (v := (.int .i64 (u : Int))) rfl rfl ?_
    refine O_v rfl (R_quo (a := (u : Int)) (b := 128) (r := (((u : Int) : Int).tdiv 128)) rfl rfl (by decide) (w64 _ (by have h1 : (u : Int).tdiv 128 = ((u / 128 : Nat) : Int) := rfl; omega)) ?_)
    refine O_as (v := (.int .i64 (((u : Int) : Int).tdiv 128))) rfl rfl ?_
    refine O_nil (Blk_n (Then_n ?_))
    have H24 := H23.sub (List.Sublist.cons _ (List.Sublist.cons_cons _ List.Sublist.slnil)) (memN)
    refine ⟨_, ?_, (u / 128), (acc ++ ([(UInt8.ofNat (u % 128 + 128))] : List UInt8)), h20, rfl, (rnum_step hac (by omega)), (by omega), (rnum_room hal (by omega)), _, envL_self ⟨rfl, rfl, rfl, trivial⟩, H24⟩
    omega
   ·have hc14 := (of_decide_eq_false hc14)
    refine W_exit (Then_x (Then_x (Blk_x (Then_n (W_seq (W_reg ?_))))))
    refine O_mv (v := (slV h8 acc)) rfl rfl (O_mv (v := (.int .i64 (u : Int))) rfl rfl ?_)
    refine O_v rfl (R_conv_int (a := (u : Int)) (r := ((UInt8.ofNat u).toNat : Int)) Tryz.underlying2 Tryz.underlying5 rfl (conv_u8 _) ?_)
    refine O_v rfl (C_buildSliceL H13 (enc := encB) (val := byteV) ([(UInt8.ofNat u)] : List UInt8) Tryz.underlying22 Tryz.sizeOf5 Tryz.zeroValue5 rfl (by decide) (fun _ => rfl) (fun _ => rfl) rfl rfl (by decide) ?_)
    intro b25 w26 hb27 hx28 H29
    refine O_v rfl (C_append H29 1 rfl (bytes := 1) (l := acc) (ys := ([(UInt8.ofNat u)] : List UInt8)) Tryz.underlying22 rfl rfl rfl rfl rfl (by decide) rfl rfl (OwnS.sl (H29.getOwn 0 rfl) (fun _ => rfl)) (fun _ => rfl) (fun _ => rfl) (by have := numGo_len1 u; simp only [List.length_append, List.length_cons, List.length_nil]; omega) (by decide) ?_)
    intro h30 w31 hg32 H33
    refine O_as (v := (slV h30 (acc ++ ([(UInt8.ofNat u)] : List UInt8)))) rfl rfl ?_
    refine O_nil (Then_n (W_ret ?_))
    refine ret_1 (v := (slV h30 (acc ++ ([(UInt8.ofNat u)] : List UInt8)))) Tryz.results90 rfl ?_
    have hE : acc ++ ([(UInt8.ofNat u)] : List UInt8) = numB n := (num_end hac (by omega))
    refine ⟨h30, ?_, H33.gr, ?_⟩
    · exact congrArg (fun l => slV h30 l) hE
    · have hO := H33.retRow 1 rfl
      exact hE ▸ hO
  ·have hc2 := (of_decide_eq_false hc2)
   refine W_skip (Then_n (W_seq (W_reg ?_)))
   refine O_v rfl (C_buildSliceL H0 (enc := encB) (val := byteV) ([] : List UInt8) Tryz.underlying22 Tryz.sizeOf5 Tryz.zeroValue5 rfl (by decide) (fun _ => rfl) (fun _ => rfl) rfl rfl (by decide) ?_)
   intro b34 w35 hb36 hx37 H38
   refine O_as (v := (slV ⟨some ⟨b34, 0, none⟩, b34, 0, 0⟩ ([] : List UInt8))) rfl rfl ?_
   refine O_nil (Then_n (W_seq (W_block ?_)))
   refine W_loop (fun m40 e41 w42 => ∃ (u : Nat), ∃ (acc : List UInt8), ∃ (h39 : SlH), m40 = u + 1 ∧ (acc ++ numGo u = ([] : List UInt8) ++ numB n) ∧ (u ≤ 4611686018427387904) ∧ (acc.length + (numGo u).length ≤ 9) ∧ ∃ eb43, e41 = envL [(0, (.int .i64 (u : Int))), (2, (.slice none 0 0)), (3, (slV h39 acc))] eb43 ∧ Ctx w nob w42 [rowR 5 1 encB h39 acc] []) _ ⟨0, [], ⟨some ⟨b34, 0, none⟩, b34, 0, 0⟩, rfl, (rnum_start (by unfold numClamp; omega)), (by omega), (rnum_len (by omega)), _, envL_self ⟨(congrArg (Value.int .i64) (by omega)), rfl, rfl, trivial⟩, H38⟩ ?_
   rintro m40 _ w42 ⟨u, acc, h39, rfl, hac, hu, hal, eb43, rfl, H44⟩
   refine W_seq (W_seq (W_reg ?_))
   refine O_mv (v := (.int .i64 (u : Int))) rfl rfl ?_
   refine O_v rfl (R_cmp (a := (u : Int)) (b := 128) (r := (decide (128 ≤ (u : Int)))) rfl rfl rfl ?_)
   refine O_nil (Then_n ?_)
   refine W_cond rfl (fun hc45 => ?_) (fun hc45 => ?_)
   ·have hc45 := (of_decide_eq_true hc45)
    refine W_skip (Then_n (W_block (W_seq (W_reg ?_))))
    refine O_mv (v := (slV h39 acc)) rfl rfl (O_mv (v := (.int .i64 (u : Int))) rfl rfl ?_)
    refine O_v rfl (R_rem (a := (u : Int)) (b := ((128 : Nat) : Int)) (r := (((u % 128) : Nat) : Int)) rfl rfl (by decide) (tmod_nat _ _) ?_)
    refine O_v rfl (R_arith (a := (((u % 128) : Nat) : Int)) (b := 128) (r0 := (((u % 128) : Nat) : Int) + 128) (r := (((u % 128 + 128) : Nat) : Int)) rfl rfl rfl (by rw [w64 _ (by omega)]; omega) ?_)
    refine O_v rfl (R_conv_int (a := (((u % 128 + 128) : Nat) : Int)) (r := ((UInt8.ofNat (u % 128 + 128)).toNat : Int)) Tryz.underlying2 Tryz.underlying5 rfl (conv_u8 _) ?_)
    refine O_v rfl (C_buildSliceL H44 (enc := encB) (val := byteV) ([(UInt8.ofNat (u % 128 + 128))] : List UInt8) Tryz.underlying22 Tryz.sizeOf5 Tryz.zeroValue5 rfl (by decide) (fun _ => rfl) (fun _ => rfl) rfl rfl (by decide) ?_)
    intro b46 w47 hb48 hx49 H50
    refine O_v rfl (C_append H50 1 rfl (bytes := 1) (l := acc) (ys := ([(UInt8.ofNat (u % 128 + 128))] : List UInt8)) Tryz.underlying22 rfl rfl rfl rfl rfl (by decide) rfl rfl (OwnS.sl (H50.getOwn 0 rfl) (fun _ => rfl)) (fun _ => rfl) (fun _ => rfl) (by have := numGo_len1 u; simp only [List.length_append, List.length_cons, List.length_nil]; omega) (by decide) ?_)
    intro h51 w52 hg53 H54
    refine O_as (v := (slV h51 (acc ++ ([(UInt8.ofNat (u % 128 + 128))] : List UInt8)))) rfl rfl ?_
    refine O_nil (Then_n (W_reg ?_))
    refine O_mv (v := (.int .i64 (u : Int))) rfl rfl ?_
    refine O_v rfl (R_quo (a := (u : Int)) (b := 128) (r := (((u : Int) : Int).tdiv 128)) rfl rfl (by decide) (w64 _ (by have h1 : (u : Int).tdiv 128 = ((u / 128 : Nat) : Int) := rfl; omega)) ?_)
    refine O_as (v := (.int .i64 (((u : Int) : Int).tdiv 128))) rfl rfl ?_
    refine O_nil (Blk_n (Then_n ?_))
    have H55 := H54.sub (List.Sublist.cons _ (List.Sublist.cons_cons _ List.Sublist.slnil)) (memN)
    refine ⟨_, ?_, (u / 128), (acc ++ ([(UInt8.ofNat (u % 128 + 128))] : List UInt8)), h51, rfl, (rnum_step hac (by omega)), (by omega), (rnum_room hal (by omega)), _, envL_self ⟨rfl, rfl, rfl, trivial⟩, H55⟩
    omega
   ·have hc45 := (of_decide_eq_false hc45)
    refine W_exit (Then_x (Then_x (Blk_x (Then_n (W_seq (W_reg ?_))))))
    refine O_mv (v := (slV h39 acc)) rfl rfl (O_mv (v := (.int .i64 (u : Int))) rfl rfl ?_)
    refine O_v rfl (R_conv_int (a := (u : Int)) (r := ((UInt8.ofNat u).toNat : Int)) Tryz.underlying2 Tryz.underlying5 rfl (conv_u8 _) ?_)
    refine O_v rfl (C_buildSliceL H44 (enc := encB) (val := byteV) ([(UInt8.ofNat u)] : List UInt8) Tryz.underlying22 Tryz.sizeOf5 Tryz.zeroValue5 rfl (by decide) (fun _ => rfl) (fun _ => rfl) rfl rfl (by decide) ?_)
    intro b56 w57 hb58 hx59 H60
    refine O_v rfl (C_append H60 1 rfl (bytes := 1) (l := acc) (ys := ([(UInt8.ofNat u)] : List UInt8)) Tryz.underlying22 rfl rfl rfl rfl rfl (by decide) rfl rfl (OwnS.sl (H60.getOwn 0 rfl) (fun _ => rfl)) (fun _ => rfl) (fun _ => rfl) (by have := numGo_len1 u; simp only [List.length_append, List.length_cons, List.length_nil]; omega) (by decide) ?_)
    intro h61 w62 hg63 H64
    refine O_as (v := (slV h61 (acc ++ ([(UInt8.ofNat u)] : List UInt8)))) rfl rfl ?_
    refine O_nil (Then_n (W_ret ?_))
    refine ret_1 (v := (slV h61 (acc ++ ([(UInt8.ofNat u)] : List UInt8)))) Tryz.results90 rfl ?_
    have hE : acc ++ ([(UInt8.ofNat u)] : List UInt8) = numB n := (num_end hac (by omega))
    refine ⟨h61, ?_, H64.gr, ?_⟩
    · exact congrArg (fun l => slV h61 l) hE
    · have hO := H64.retRow 1 rfl
      exact hE ▸ hO
 ·have hc1 := (of_decide_eq_false hc1)
  refine W_skip (Then_n (W_seq (W_seq (W_reg ?_))))
  refine O_mv (v := (.int .i64 n)) rfl rfl ?_
  refine O_v rfl (R_cmp (a := n) (b := 4611686018427387904) (r := (decide (4611686018427387904 < n))) rfl rfl rfl ?_)
  refine O_nil (Then_n ?_)
  refine W_cond rfl (fun hc65 => ?_) (fun hc65 => ?_)
  ·have hc65 := (of_decide_eq_true hc65)
   refine W_reg ?_
   refine O_as (v := (.int .i64 4611686018427387904)) rfl rfl ?_
   refine O_nil (Then_n (W_seq (W_reg ?_)))
   refine O_v rfl (C_buildSliceL H0 (enc := encB) (val := byteV) ([] : List UInt8) Tryz.underlying22 Tryz.sizeOf5 Tryz.zeroValue5 rfl (by decide) (fun _ => rfl) (fun _ => rfl) rfl rfl (by decide) ?_)
   intro b66 w67 hb68 hx69 H70
   refine O_as (v := (slV ⟨some ⟨b66, 0, none⟩, b66, 0, 0⟩ ([] : List UInt8))) rfl rfl ?_
   refine O_nil (Then_n (W_seq (W_block ?_)))
   refine W_loop (fun m72 e73 w74 => ∃ (u : Nat), ∃ (acc : List UInt8), ∃ (h71 : SlH), m72 = u + 1 ∧ (acc ++ numGo u = ([] : List UInt8) ++ numB n) ∧ (u ≤ 4611686018427387904) ∧ (acc.length + (numGo u).length ≤ 9) ∧ ∃ eb75, e73 = envL [(0, (.int .i64 (u : Int))), (2, (.slice none 0 0)), (3, (slV h71 acc))] eb75 ∧ Ctx w nob w74 [rowR 5 1 encB h71 acc] []) _ ⟨4611686018427387904, [], ⟨some ⟨b66, 0, none⟩, b66, 0, 0⟩, rfl, (rnum_start (by unfold numClamp; omega)), (by omega), (rnum_len (by omega)), _, envL_self ⟨(congrArg (Value.int .i64) (by omega)), rfl, rfl, trivial⟩, H70⟩ ?_
   rintro m72 _ w74 ⟨u, acc, h71, rfl, hac, hu, hal, eb75, rfl, H76⟩
   refine W_seq (W_seq (W_reg ?_))
   refine O_mv (v := (.int .i64 (u : Int))) rfl rfl ?_
   refine O_v rfl (R_cmp (a := (u : Int)) (b := 128) (r := (decide (128 ≤ (u : Int)))) rfl rfl rfl ?_)
   refine O_nil (Then_n ?_)
   refine W_cond rfl (fun hc77 => ?_) (fun hc77 => ?_)
   ·have hc77 := (of_decide_eq_true hc77)
    refine W_skip (Then_n (W_block (W_seq (W_reg ?_))))
    refine O_mv (v := (slV h71 acc)) rfl rfl (O_mv (v := (.int .i64 (u : Int))) rfl rfl ?_)
    refine O_v rfl (R_rem (a := (u : Int)) (b := ((128 : Nat) : Int)) (r := (((u % 128) : Nat) : Int)) rfl rfl (by decide) (tmod_nat _ _) ?_)
    refine O_v rfl (R_arith (a := (((u % 128) : Nat) : Int)) (b := 128) (r0 := (((u % 128) : Nat) : Int) + 128) (r := (((u % 128 + 128) : Nat) : Int)) rfl rfl rfl (by rw [w64 _ (by omega)]; omega) ?_)
    refine O_v rfl (R_conv_int (a := (((u % 128 + 128) : Nat) : Int)) (r := ((UInt8.ofNat (u % 128 + 128)).toNat : Int)) Tryz.underlying2 Tryz.underlying5 rfl (conv_u8 _) ?_)
    refine O_v rfl (C_buildSliceL H76 (enc := encB) (val := byteV) ([(UInt8.ofNat (u % 128 + 128))] : List UInt8) Tryz.underlying22 Tryz.sizeOf5 Tryz.zeroValue5 rfl (by decide) (fun _ => rfl) (fun _ => rfl) rfl rfl (by decide) ?_)
    intro b78 w79 hb80 hx81 H82
    refine O_v rfl (C_append H82 1 rfl (bytes := 1) (l := acc) (ys := ([(UInt8.ofNat (u % 128 + 128))] : List UInt8)) Tryz.underlying22 rfl rfl rfl rfl rfl (by decide) rfl rfl (OwnS.sl (H82.getOwn 0 rfl) (fun _ => rfl)) (fun _ => rfl) (fun _ => rfl) (by have := numGo_len1 u; simp only [List.length_append, List.length_cons, List.length_nil]; omega) (by decide) ?_)
    intro h83 w84 hg85 H86
    refine O_as (v := (slV h83 (acc ++ ([(UInt8.ofNat (u % 128 + 128))] : List UInt8)))) rfl rfl ?_
    refine O_nil (Then_n (W_reg ?_))
    refine O_mv (v := (.int .i64 (u : Int))) rfl rfl ?_
    refine O_v rfl (R_quo (a := (u : Int)) (b := 128) (r := (((u : Int) : Int).tdiv 128)) rfl rfl (by decide) (w64 _ (by have h1 : (u : Int).tdiv 128 = ((u / 128 : Nat) : Int) := rfl; omega)) ?_)
    refine O_as (v := (.int .i64 (((u : Int) : Int).tdiv 128))) rfl rfl ?_
    refine O_nil (Blk_n (Then_n ?_))
    have H87 := H86.sub (List.Sublist.cons _ (List.Sublist.cons_cons _ List.Sublist.slnil)) (memN)
    refine ⟨_, ?_, (u / 128), (acc ++ ([(UInt8.ofNat (u % 128 + 128))] : List UInt8)), h83, rfl, (rnum_step hac (by omega)), (by omega), (rnum_room hal (by omega)), _, envL_self ⟨rfl, rfl, rfl, trivial⟩, H87⟩
    omega
   ·have hc77 := (of_decide_eq_false hc77)
    refine W_exit (Then_x (Then_x (Blk_x (Then_n (W_seq (W_reg ?_))))))
    refine O_mv (v := (slV h71 acc)) rfl rfl (O_mv (v := (.int .i64 (u : Int))) rfl rfl ?_)
    refine O_v rfl (R_conv_int (a := (u : Int)) (r := ((UInt8.ofNat u).toNat : Int)) Tryz.underlying2 Tryz.underlying5 rfl (conv_u8 _) ?_)
    refine O_v rfl (C_buildSliceL H76 (enc := encB) (val := byteV) ([(UInt8.ofNat u)] : List UInt8) Tryz.underlying22 Tryz.sizeOf5 Tryz.zeroValue5 rfl (by decide) (fun _ => rfl) (fun _ => rfl) rfl rfl (by decide) ?_)
    intro b88 w89 hb90 hx91 H92
    refine O_v rfl (C_append H92 1 rfl (bytes := 1) (l := acc) (ys := ([(UInt8.ofNat u)] : List UInt8)) Tryz.underlying22 rfl rfl rfl rfl rfl (by decide) rfl rfl (OwnS.sl (H92.getOwn 0 rfl) (fun _ => rfl)) (fun _ => rfl) (fun _ => rfl) (by have := numGo_len1 u; simp only [List.length_append, List.length_cons, List.length_nil]; omega) (by decide) ?_)
    intro h93 w94 hg95 H96
    refine O_as (v := (slV h93 (acc ++ ([(UInt8.ofNat u)] : List UInt8)))) rfl rfl ?_
    refine O_nil (Then_n (W_ret ?_))
    refine ret_1 (v := (slV h93 (acc ++ ([(UInt8.ofNat u)] : List UInt8)))) Tryz.results90 rfl ?_
    have hE : acc ++ ([(UInt8.ofNat u)] : List UInt8) = numB n := (num_end hac (by omega))
    refine ⟨h93, ?_, H96.gr, ?_⟩
    · exact congrArg (fun l => slV h93 l) hE
    · have hO := H96.retRow 1 rfl
      exact hE ▸ hO
  ·have hc65 := (of_decide_eq_false hc65)
   refine W_skip (Then_n (W_seq (W_reg ?_)))
   refine O_v rfl (C_buildSliceL H0 (enc := encB) (val := byteV) ([] : List UInt8) Tryz.underlying22 Tryz.sizeOf5 Tryz.zeroValue5 rfl (by decide) (fun _ => rfl) (fun _ => rfl) rfl rfl (by decide) ?_)
   intro b97 w98 hb99 hx100 H101
   refine O_as (v := (slV ⟨some ⟨b97, 0, none⟩, b97, 0, 0⟩ ([] : List UInt8))) rfl rfl ?_
   refine O_nil (Then_n (W_seq (W_block ?_)))
   refine W_loop (fun m103 e104 w105 => ∃ (u : Nat), ∃ (acc : List UInt8), ∃ (h102 : SlH), m103 = u + 1 ∧ (acc ++ numGo u = ([] : List UInt8) ++ numB n) ∧ (u ≤ 4611686018427387904) ∧ (acc.length + (numGo u).length ≤ 9) ∧ ∃ eb106, e104 = envL [(0, (.int .i64 (u : Int))), (2, (.slice none 0 0)), (3, (slV h102 acc))] eb106 ∧ Ctx w nob w105 [rowR 5 1 encB h102 acc] []) _ ⟨n.toNat, [], ⟨some ⟨b97, 0, none⟩, b97, 0, 0⟩, rfl, (rnum_start (by unfold numClamp; omega)), (by omega), (rnum_len (by omega)), _, envL_self ⟨(congrArg (Value.int .i64) (by omega)), rfl, rfl, trivial⟩, H101⟩ ?_
   rintro m103 _ w105 ⟨u, acc, h102, rfl, hac, hu, hal, eb106, rfl, H107⟩
   refine W_seq (W_seq (W_reg ?_))
   refine O_mv (v := (.int .i64 (u : Int))) rfl rfl ?_
   refine O_v rfl (R_cmp (a := (u : Int)) (b := 128) (r := (decide (128 ≤ (u : Int)))) rfl rfl rfl ?_)
   refine O_nil (Then_n ?_)
   refine W_cond rfl (fun hc108 => ?_) (fun hc108 => ?_)
   ·have hc108 := (of_decide_eq_true hc108)
    refine W_skip (Then_n (W_block (W_seq (W_reg ?_))))
    refine O_mv (v := (slV h102 acc)) rfl rfl (O_mv (v := (.int .i64 (u : Int))) rfl rfl ?_)
    refine O_v rfl (R_rem (a := (u : Int)) (b := ((128 : Nat) : Int)) (r := (((u % 128) : Nat) : Int)) rfl rfl (by decide) (tmod_nat _ _) ?_)
    refine O_v rfl (R_arith (a := (((u % 128) : Nat) : Int)) (b := 128) (r0 := (((u % 128) : Nat) : Int) + 128) (r := (((u % 128 + 128) : Nat) : Int)) rfl rfl rfl (by rw [w64 _ (by omega)]; omega) ?_)
    refine O_v rfl (R_conv_int (a := (((u % 128 + 128) : Nat) : Int)) (r := ((UInt8.ofNat (u % 128 + 128)).toNat : Int)) Tryz.underlying2 Tryz.underlying5 rfl (conv_u8 _) ?_)
    refine O_v rfl (C_buildSliceL H107 (enc := encB) (val := byteV) ([(UInt8.ofNat (u % 128 + 128))] : List UInt8) Tryz.underlying22 Tryz.sizeOf5 Tryz.zeroValue5 rfl (by decide) (fun _ => rfl) (fun _ => rfl) rfl rfl (by decide) ?_)
    intro b109 w110 hb111 hx112 H113
    refine O_v rfl (C_append H113 1 rfl (bytes := 1) (l := acc) (ys := ([(UInt8.ofNat (u % 128 + 128))] : List UInt8)) Tryz.underlying22 rfl rfl rfl rfl rfl (by decide) rfl rfl (OwnS.sl (H113.getOwn 0 rfl) (fun _ => rfl)) (fun _ => rfl) (fun _ => rfl) (by have := numGo_len1 u; simp only [List.length_append, List.length_cons, List.length_nil]; omega) (by decide) ?_)
    intro h114 w115 hg116 H117
    refine O_as (v := (slV h114 (acc ++ ([(UInt8.ofNat (u % 128 + 128))] : List UInt8)))) rfl rfl ?_
    refine O_nil (Then_n (W_reg ?_))
    refine O_mv (v := (.int .i64 (u : Int))) rfl rfl ?_
    refine O_v rfl (R_quo (a := (u : Int)) (b := 128) (r := (((u : Int) : Int).tdiv 128)) rfl rfl (by decide) (w64 _ (by have h1 : (u : Int).tdiv 128 = ((u / 128 : Nat) : Int) := rfl; omega)) ?_)
    refine O_as (v := (.int .i64 (((u : Int) : Int).tdiv 128))) rfl rfl ?_
    refine O_nil (Blk_n (Then_n ?_))
    have H118 := H117.sub (List.Sublist.cons _ (List.Sublist.cons_cons _ List.Sublist.slnil)) (memN)
    refine ⟨_, ?_, (u / 128), (acc ++ ([(UInt8.ofNat (u % 128 + 128))] : List UInt8)), h114, rfl, (rnum_step hac (by omega)), (by omega), (rnum_room hal (by omega)), _, envL_self ⟨rfl, rfl, rfl, trivial⟩, H118⟩
    omega
   ·have hc108 := (of_decide_eq_false hc108)
    refine W_exit (Then_x (Then_x (Blk_x (Then_n (W_seq (W_reg ?_))))))
    refine O_mv (v := (slV h102 acc)) rfl rfl (O_mv (v := (.int .i64 (u : Int))) rfl rfl ?_)
    refine O_v rfl (R_conv_int (a := (u : Int)) (r := ((UInt8.ofNat u).toNat : Int)) Tryz.underlying2 Tryz.underlying5 rfl (conv_u8 _) ?_)
    refine O_v rfl (C_buildSliceL H107 (enc := encB) (val := byteV) ([(UInt8.ofNat u)] : List UInt8) Tryz.underlying22 Tryz.sizeOf5 Tryz.zeroValue5 rfl (by decide) (fun _ => rfl) (fun _ => rfl) rfl rfl (by decide) ?_)
    intro b119 w120 hb121 hx122 H123
    refine O_v rfl (C_append H123 1 rfl (bytes := 1) (l := acc) (ys := ([(UInt8.ofNat u)] : List UInt8)) Tryz.underlying22 rfl rfl rfl rfl rfl (by decide) rfl rfl (OwnS.sl (H123.getOwn 0 rfl) (fun _ => rfl)) (fun _ => rfl) (fun _ => rfl) (by have := numGo_len1 u; simp only [List.length_append, List.length_cons, List.length_nil]; omega) (by decide) ?_)
    intro h124 w125 hg126 H127
    refine O_as (v := (slV h124 (acc ++ ([(UInt8.ofNat u)] : List UInt8)))) rfl rfl ?_
    refine O_nil (Then_n (W_ret ?_))
    refine ret_1 (v := (slV h124 (acc ++ ([(UInt8.ofNat u)] : List UInt8)))) Tryz.results90 rfl ?_
    have hE : acc ++ ([(UInt8.ofNat u)] : List UInt8) = numB n := (num_end hac (by omega))
    refine ⟨h124, ?_, H127.gr, ?_⟩
    · exact congrArg (fun l => slV h124 l) hE
    · have hO := H127.retRow 1 rfl
      exact hE ▸ hO
theorem cF13 : callable Tryz.prog 13 = true := by kernel_rfl
theorem cF90 : callable Tryz.prog 90 = true := by kernel_rfl
set_option maxHeartbeats 1000000 in
theorem ref04_num (hb : SlH) (b : List UInt8) (n : Int) (w : World) (Sb : Sl (Old w) encB 1 hb b w) (hl : b.length ≤ 10000000000) :
    Calls Tryz.prog 50 #[(slV hb b), (.int .i64 n)] w (Ret fun v w' => ∃ h, v = slV h (b ++ numB n) ∧ Ext w w' ∧ OwnS w.heap.size 5 1 encB h (b ++ numB n) w') := by
 refine calls_W Tryz.func50 rfl Tryz.ntmps50 rfl ?_
 have H0 := Ctx.start w nob
 have H1 := H0.addSl _ Sb (fun b hb => ⟨hb, fun _ ho => (nomatch ho)⟩)
 have LSb := Sb.len
 refine W_seq (W_reg ?_)
 refine O_as (v := (.slice none 0 0)) rfl rfl ?_
 refine O_nil (Then_n (W_seq (W_reg ?_)))
 refine O_mv (v := (slV hb b)) rfl rfl (O_mv (v := (.int .i64 n)) rfl rfl ?_)
 refine O_v rfl (R_callL (vs := [(.int .i64 n)]) cF90 rfl rfl ((ref02_Num n w ).ret ?_))
 rintro _ w3 ⟨h2, rfl, hx4, ho5⟩
 have H6 := H1.addRow hx4 ho5
 refine O_v rfl (R_callL (vs := [(slV hb b), (slV h2 (numB n))]) cF13 rfl rfl ((ref01_Join hb b h2 (numB n) w3 (H6.slOld 0 rfl) (H6.rowSl 0 rfl (fun _ => rfl)) (by have := numB_len n; omega)).ret ?_))
 rintro _ w8 ⟨h7, rfl, hx9, ho10⟩
 have H11 := H6.addRow hx9 ho10
 refine O_as (v := (slV h7 (b ++ (numB n)))) rfl rfl ?_
 refine O_nil (Then_n (W_ret ?_))
 refine ret_1 (v := (slV h7 (b ++ (numB n)))) Tryz.results50 rfl ?_
 exact ⟨h7, rfl, H11.gr, H11.retRow 0 rfl⟩
set_option maxHeartbeats 1000000 in
theorem ref02_Id (id : ID) (w : World) :
    Calls Tryz.prog 66 #[(aggOf (idCh id))] w (Ret fun v w' => ∃ h, v = slV h (idList id) ∧ Ext w w' ∧ OwnS w.heap.size 5 1 encB h (idList id) w') := by
 refine calls_W Tryz.func66 rfl Tryz.ntmps66 rfl ?_
 have H0 := Ctx.start w nob
 refine W_seq (W_reg ?_)
 refine O_v rfl (C_box H0 [(idCells id)] rfl ?_)
 intro b1 w2 hb3 hx4 H5
 refine O_as (v := (.slice none 0 0)) rfl rfl ?_
 refine O_nil (Then_n (W_seq (W_reg ?_)))
 refine O_v rfl (C_buildSliceL H5 (enc := encB) (val := byteV) ([] : List UInt8) Tryz.underlying22 Tryz.sizeOf5 Tryz.zeroValue5 rfl (by decide) (fun _ => rfl) (fun _ => rfl) rfl rfl (by decide) ?_)
 intro b6 w7 hb8 hx9 H10
 refine O_as (v := (slV ⟨some ⟨b6, 0, none⟩, b6, 0, 0⟩ ([] : List UInt8))) rfl rfl ?_
 refine O_nil (Then_n (W_seq (W_seq (W_reg ?_))))
 refine O_as (v := (.int .i64 0)) rfl rfl ?_
 refine O_nil (Then_n (W_block ?_))
 refine W_loop (fun m12 e13 w14 => ∃ (k : Nat), ∃ (acc : List UInt8), ∃ (h11 : SlH), m12 = 32 - k ∧ (k ≤ 32) ∧ (acc = (idList id).take k) ∧ (acc.length ≤ k) ∧ ∃ eb15, e13 = envL [(1, (.pointer (some ⟨b1, 0, none⟩))), (2, (.slice none 0 0)), (3, (slV h11 acc)), (4, (.int .i64 (k : Int)))] eb15 ∧ Ctx w nob w14 [rowR 5 1 encB h11 acc, boxR b1 44 [(idCells id)]] []) _ ⟨0, [], ⟨some ⟨b6, 0, none⟩, b6, 0, 0⟩, rfl, (by omega), rfl, (Nat.zero_le _), _, envL_self ⟨rfl, rfl, rfl, rfl, trivial⟩, H10⟩ ?_
 rintro m12 _ w14 ⟨k, acc, h11, rfl, hk, hac, hal, eb15, rfl, H16⟩
 refine W_seq (W_seq (W_reg ?_))
 refine O_mv (v := (.int .i64 (k : Int))) rfl rfl ?_
 refine O_v rfl (R_cmp (a := (k : Int)) (b := 32) (r := (decide ((k : Int) < 32))) rfl rfl rfl ?_)
 refine O_nil (Then_n ?_)
 refine W_cond rfl (fun hc17 => ?_) (fun hc17 => ?_)
 ·have hc17 := (of_decide_eq_true hc17)
  refine W_skip (Then_n (W_seq (W_block (W_reg ?_))))
  refine O_mv (v := (slV h11 acc)) rfl rfl (O_mv (v := (.int .i64 (k : Int))) rfl rfl ?_)
  refine O_v rfl (R_index_array (n := 32) (k := 1) (o := 0) (oo := (0 + k * 1)) (j := (k : Int)) Tryz.underlying44 Tryz.sizeOf5 rfl rfl (by omega) (by omega) rfl ?_)
  refine O_v rfl (R_load1 (v := (.int .u8 ((nth (idList id) k).toNat : Int))) Tryz.isAgg5 rfl ((Sl.elem (Sl_box (H16.getOwn 1 rfl)) (i := k) (by rw [idList_len]; omega) rfl).chunks 0 1 0 (0 + k * 1) _ rfl rfl rfl) ?_)
  refine O_v rfl (C_buildSliceL H16 (enc := encB) (val := byteV) ([(nth (idList id) k)] : List UInt8) Tryz.underlying22 Tryz.sizeOf5 Tryz.zeroValue5 rfl (by decide) (fun _ => rfl) (fun _ => rfl) rfl rfl (by decide) ?_)
  intro b18 w19 hb20 hx21 H22
  refine O_v rfl (C_append H22 1 rfl (bytes := 1) (l := acc) (ys := ([(nth (idList id) k)] : List UInt8)) Tryz.underlying22 rfl rfl rfl rfl rfl (by decide) rfl rfl (OwnS.sl (H22.getOwn 0 rfl) (fun _ => rfl)) (fun _ => rfl) (fun _ => rfl) (by simp only [List.length_append, List.length_cons, List.length_nil]; omega) (by decide) ?_)
  intro h23 w24 hg25 H26
  refine O_as (v := (slV h23 (acc ++ ([(nth (idList id) k)] : List UInt8)))) rfl rfl ?_
  refine O_nil (Blk_n (Then_n (W_reg ?_)))
  refine O_mv (v := (.int .i64 (k : Int))) rfl rfl ?_
  refine O_v rfl (R_arith (a := (k : Int)) (b := 1) (r0 := (k : Int) + 1) (r := ((k + 1 : Nat) : Int)) rfl rfl rfl (wrapN _ (by omega)) ?_)
  refine O_as (v := (.int .i64 ((k + 1 : Nat) : Int))) rfl rfl ?_
  refine O_nil (Then_n ?_)
  have H27 := H26.sub (List.Sublist.cons _ (List.Sublist.cons_cons _ (List.Sublist.cons_cons _ List.Sublist.slnil))) (memN)
  refine ⟨_, ?_, (k + 1), (acc ++ ([(nth (idList id) k)] : List UInt8)), h23, rfl, (by omega), (by rw [hac]; exact (take_snoc (by rw [idList_len]; omega)).symm), (by simp only [List.length_append, List.length_cons, List.length_nil]; omega), _, envL_self ⟨rfl, rfl, rfl, rfl, trivial⟩, H27⟩
  omega
 ·have hc17 := (of_decide_eq_false hc17)
  refine W_exit (Then_x (Then_x (Blk_x (Then_n (W_seq (W_reg ?_))))))
  refine O_mv (v := (slV h11 acc)) rfl rfl (O_as (v := (slV h11 acc)) rfl rfl ?_)
  refine O_nil (Then_n (W_ret ?_))
  refine ret_1 (v := (slV h11 acc)) Tryz.results66 rfl ?_
  have hE : acc = idList id := (by rw [hac, List.take_of_length_le (by rw [idList_len]; omega)])
  refine ⟨h11, ?_, H16.gr, ?_⟩
  · exact congrArg (fun l => slV h11 l) hE
  · have hO := H16.retRow 0 rfl
    exact hE ▸ hO
set_option maxHeartbeats 1000000 in
theorem ref02_Text (s : ByteArray) (w : World) (hl : s.size ≤ 1000000) :
    Calls Tryz.prog 68 #[(.string s)] w (Ret fun v w' => ∃ h, v = slV h (textB s) ∧ Ext w w' ∧ OwnS w.heap.size 5 1 encB h (textB s) w') := by
 refine calls_W Tryz.func68 rfl Tryz.ntmps68 rfl ?_
 have H0 := Ctx.start w nob
 refine W_seq (W_reg ?_)
 refine O_as (v := (.slice none 0 0)) rfl rfl ?_
 refine O_nil (Then_n (W_seq (W_reg ?_)))
 refine O_mv (v := (.string s)) rfl rfl ?_
 refine O_v rfl (R_len_string Tryz.underlying9 rfl ?_)
 refine O_v rfl (R_callL (vs := [(.int .i64 (s.size : Int))]) cF90 rfl rfl ((ref02_Num (s.size : Int) w ).ret ?_))
 rintro _ w2 ⟨h1, rfl, hx3, ho4⟩
 have H5 := H0.addRow hx3 ho4
 refine O_mv (v := (.string s)) rfl rfl ?_
 refine O_v rfl (C_convSB H5 (str := s) Tryz.underlying9 Tryz.underlying22 Tryz.underlying5 rfl (by first | decide | omega) ?_)
 intro h6 w7 hx8 H9
 refine O_v rfl (R_callL (vs := [(slV h1 (numB (s.size : Int))), (slV h6 s.data.toList)]) cF13 rfl rfl ((ref01_Join h1 (numB (s.size : Int)) h6 s.data.toList w7 (H9.rowSl 0 rfl (fun _ => rfl)) (H9.slOld 0 rfl) (by have := numB_len (s.size : Int); have := size_data' s; omega)).ret ?_))
 rintro _ w11 ⟨h10, rfl, hx12, ho13⟩
 have H14 := H9.addRow hx12 ho13
 refine O_as (v := (slV h10 ((numB (s.size : Int)) ++ s.data.toList))) rfl rfl ?_
 refine O_nil (Then_n (W_ret ?_))
 refine ret_1 (v := (slV h10 ((numB (s.size : Int)) ++ s.data.toList))) Tryz.results68 rfl ?_
 exact ⟨h10, rfl, H14.gr, H14.retRow 0 rfl⟩
set_option maxHeartbeats 1000000 in
theorem ref03_Stamp (s : Stamp) (w : World) :
    Calls Tryz.prog 91 #[(aggOf (stampCh s))] w (Ret fun v w' => ∃ h, v = slV h (atB s) ∧ Ext w w' ∧ OwnS w.heap.size 5 1 encB h (atB s) w') := by
 refine calls_W Tryz.func91 rfl Tryz.ntmps91 rfl ?_
 have H0 := Ctx.start w nob
 refine W_seq (W_reg ?_)
 refine O_v rfl (C_box H0 [[(.int .i64 s.T)], [(.int .i64 s.R)]] rfl ?_)
 intro b1 w2 hb3 hx4 H5
 refine O_as (v := (.slice none 0 0)) rfl rfl ?_
 refine O_nil (Then_n (W_seq ?_))
 refine W_rgd TryzMixed [(0, .q 0), (1, .q 0), (3, .q 0), (4, .q 0), (2, .c 0), (5, .c 0), (6, .c 0), (7, .q 0)] (by kernel_rfl) ?_
 refine Lx_q rfl rfl _ (fun v6 hv7 => R_fieldAddr (off := 0) (oo := 0) Tryz.underlying69 rfl rfl Tryz.sizeOf2 rfl rfl qk) (Lx_q rfl rfl _ (fun v8 hv9 => R_load1 (v := (.int .i64 s.T)) Tryz.isAgg2 rfl ((H5.ext hv9).bx 0 rfl 0 1 0 0 _ rfl rfl rfl) qk) (Lx_q rfl rfl _ (fun v10 hv11 => R_fieldAddr (off := 1) (oo := 1) Tryz.underlying69 rfl rfl Tryz.sizeOf3 rfl rfl qk) (Lx_q rfl rfl _ (fun v12 hv13 => R_load1 (v := (.int .i64 s.R)) Tryz.isAgg3 rfl ((H5.ext hv13).bx 0 rfl 1 1 1 1 _ rfl rfl rfl) qk) ?_)))
 refine Lx_c rfl rfl (fun w14 hw15 => ?_)
 have H16 := H5.ext hw15
 refine (R_callL (vs := [(.int .i64 s.T)]) cF90 rfl rfl ((ref02_Num s.T w14 ).ret ?_))
 rintro _ w18 ⟨h17, rfl, hx19, ho20⟩
 have H21 := H16.addRow hx19 ho20
 refine ⟨GrF.ofExt hx19, ?_⟩
 refine Lx_c rfl rfl (fun w22 hw23 => ?_)
 have H24 := H21.ext hw23
 refine (R_callL (vs := [(.int .i64 s.R)]) cF90 rfl rfl ((ref02_Num s.R w22 ).ret ?_))
 rintro _ w26 ⟨h25, rfl, hx27, ho28⟩
 have H29 := H24.addRow hx27 ho28
 refine ⟨GrF.ofExt hx27, ?_⟩
 refine Lx_c rfl rfl (fun w30 hw31 => ?_)
 have H32 := H29.ext hw31
 refine (R_callL (vs := [(slV h17 (numB s.T)), (slV h25 (numB s.R))]) cF13 rfl rfl ((ref01_Join h17 (numB s.T) h25 (numB s.R) w30 (H32.rowSl 1 rfl (fun _ => rfl)) (H32.rowSl 0 rfl (fun _ => rfl)) (by have h1 := numB_len s.T; have h2 := numB_len s.R; omega)).ret ?_))
 rintro _ w34 ⟨h33, rfl, hx35, ho36⟩
 have H37 := H32.addRow hx35 ho36
 refine ⟨GrF.ofExt hx35, ?_⟩
 refine Lx_q rfl rfl _ (fun v38 hv39 => R_assign (v := (slV h33 ((numB s.T) ++ (numB s.R)))) rfl qk) ?_
 refine Lx_nil (fun w40 hw41 => ?_)
 have H42 := H37.ext hw41
 refine Then_n (W_ret ?_)
 refine ret_1 (v := (slV h33 ((numB s.T) ++ (numB s.R)))) Tryz.results91 rfl ?_
 exact ⟨h33, rfl, H42.gr, H42.retRow 0 rfl⟩
theorem cF50 : callable Tryz.prog 50 = true := by kernel_rfl
theorem cF66 : callable Tryz.prog 66 = true := by kernel_rfl
theorem cF68 : callable Tryz.prog 68 = true := by kernel_rfl
theorem cF91 : callable Tryz.prog 91 = true := by kernel_rfl
set_option maxHeartbeats 4000000 in
theorem ref04_put (x : ItemS) (w : World) (Sx_heads : Sl (Old w) headCh 34 x.hh x.heads w) (hx : x.name.size ≤ 60 ∧ x.heads.length ≤ 1000) :
    Calls Tryz.prog 51 #[(aggOf (itemCh x))] w (Ret fun v w' => ∃ h, v = slV h (itemB x) ∧ Ext w w' ∧ OwnS w.heap.size 5 1 encB h (itemB x) w') := by
 refine calls_W Tryz.func51 rfl Tryz.ntmps51 rfl ?_
 have H0 := Ctx.start w nob
 have H1 := H0.addSl _ Sx_heads (fun b hb => ⟨hb, fun _ ho => (nomatch ho)⟩)
 have LSx_heads := Sx_heads.len
 refine W_seq (W_reg ?_)
 refine O_v rfl (C_box H1 [[(.int .i64 x.node.T)], [(.int .i64 x.node.R)], [(.int .i64 x.tm.T)], [(.int .i64 x.tm.R)], [(.string x.name)], (idCells x.sub), [(slV x.hh x.heads)]] rfl ?_)
 intro b2 w3 hb4 hx5 H6
 refine O_as (v := (.slice none 0 0)) rfl rfl ?_
 refine O_nil (Then_n (W_seq ?_))
 refine W_rgd TryzMixed [(0, .q 0), (1, .q 0), (3, .q 0), (4, .q 0), (2, .c 0), (5, .c 0), (6, .c 0), (7, .q 0)] (by kernel_rfl) ?_
 refine Lx_q rfl rfl _ (fun v7 hv8 => R_fieldAddr (off := 0) (oo := 0) Tryz.underlying77 rfl rfl Tryz.sizeOf69 rfl rfl qk) (Lx_q rfl rfl _ (fun v9 hv10 => R_loadA (cs := [[(.int .i64 x.node.T)], [(.int .i64 x.node.R)]]) Tryz.isAgg69 Tryz.sizeOf69 rfl rfl ((H6.ext hv10).bx 0 rfl 0 2 0 0 _ rfl rfl rfl) qk) (Lx_q rfl rfl _ (fun v11 hv12 => R_fieldAddr (off := 2) (oo := 2) Tryz.underlying77 rfl rfl Tryz.sizeOf69 rfl rfl qk) (Lx_q rfl rfl _ (fun v13 hv14 => R_loadA (cs := [[(.int .i64 x.tm.T)], [(.int .i64 x.tm.R)]]) Tryz.isAgg69 Tryz.sizeOf69 rfl rfl ((H6.ext hv14).bx 0 rfl 2 2 2 2 _ rfl rfl rfl) qk) ?_)))
 refine Lx_c rfl rfl (fun w15 hw16 => ?_)
 have H17 := H6.ext hw16
 refine (R_callL (vs := [(aggOf (stampCh x.node))]) cF91 rfl rfl ((ref03_Stamp x.node w15 ).ret ?_))
 rintro _ w19 ⟨h18, rfl, hx20, ho21⟩
 have H22 := H17.addRow hx20 ho21
 refine ⟨GrF.ofExt hx20, ?_⟩
 refine Lx_c rfl rfl (fun w23 hw24 => ?_)
 have H25 := H22.ext hw24
 refine (R_callL (vs := [(aggOf (stampCh x.tm))]) cF91 rfl rfl ((ref03_Stamp x.tm w23 ).ret ?_))
 rintro _ w27 ⟨h26, rfl, hx28, ho29⟩
 have H30 := H25.addRow hx28 ho29
 refine ⟨GrF.ofExt hx28, ?_⟩
 refine Lx_c rfl rfl (fun w31 hw32 => ?_)
 have H33 := H30.ext hw32
 refine (R_callL (vs := [(slV h18 (atB x.node)), (slV h26 (atB x.tm))]) cF13 rfl rfl ((ref01_Join h18 (atB x.node) h26 (atB x.tm) w31 (H33.rowSl 1 rfl (fun _ => rfl)) (H33.rowSl 0 rfl (fun _ => rfl)) (by have h2 := atB_len x.tm; have h3 := atB_len x.node; have h6 := textB_len x.name; (try simp only [List.length_append, idList_len]); omega)).ret ?_))
 rintro _ w35 ⟨h34, rfl, hx36, ho37⟩
 have H38 := H33.addRow hx36 ho37
 refine ⟨GrF.ofExt hx36, ?_⟩
 refine Lx_q rfl rfl _ (fun v39 hv40 => R_assign (v := (slV h34 ((atB x.node) ++ (atB x.tm)))) rfl qk) ?_
 refine Lx_nil (fun w41 hw42 => ?_)
 have H43 := H38.ext hw42
 refine Then_n (W_seq ?_)
 refine W_rgd TryzMixed [(0, .q 0), (1, .q 0), (2, .q 0), (4, .q 0), (5, .q 0), (3, .c 0), (6, .c 0), (7, .c 0), (8, .c 0), (9, .q 0)] (by kernel_rfl) ?_
 refine Lx_mv (v := (slV h34 ((atB x.node) ++ (atB x.tm)))) rfl rfl rfl (Lx_q rfl rfl _ (fun v46 hv47 => R_fieldAddr (off := 4) (oo := 4) Tryz.underlying77 rfl rfl Tryz.sizeOf9 rfl rfl qk) (Lx_q rfl rfl _ (fun v48 hv49 => R_load1 (v := (.string x.name)) Tryz.isAgg9 rfl ((H43.ext hv49).bx 3 rfl 4 1 4 4 _ rfl rfl rfl) qk) (Lx_q rfl rfl _ (fun v50 hv51 => R_fieldAddr (off := 5) (oo := 5) Tryz.underlying77 rfl rfl Tryz.sizeOf45 rfl rfl qk) ?_)))
 refine Lx_q rfl rfl _ (fun v52 hv53 => R_loadA (cs := [(idCells x.sub)]) Tryz.isAgg45 Tryz.sizeOf45 rfl rfl ((H43.ext hv53).bx 3 rfl 5 1 5 5 _ rfl rfl rfl) qk) ?_
 refine Lx_c rfl rfl (fun w54 hw55 => ?_)
 have H56 := H43.ext hw55
 refine (R_callL (vs := [(.string x.name)]) cF68 rfl rfl ((ref02_Text x.name w54 (by omega)).ret ?_))
 rintro _ w58 ⟨h57, rfl, hx59, ho60⟩
 have H61 := H56.addRow hx59 ho60
 refine ⟨GrF.ofExt hx59, ?_⟩
 refine Lx_c rfl rfl (fun w62 hw63 => ?_)
 have H64 := H61.ext hw63
 refine (R_callL (vs := [(aggOf (idCh x.sub))]) cF66 rfl rfl ((ref02_Id x.sub w62 ).ret ?_))
 rintro _ w66 ⟨h65, rfl, hx67, ho68⟩
 have H69 := H64.addRow hx67 ho68
 refine ⟨GrF.ofExt hx67, ?_⟩
 refine Lx_c rfl rfl (fun w70 hw71 => ?_)
 have H72 := H69.ext hw71
 refine (R_callL (vs := [(slV h57 (textB x.name)), (slV h65 (idList x.sub))]) cF13 rfl rfl ((ref01_Join h57 (textB x.name) h65 (idList x.sub) w70 (H72.rowSl 1 rfl (fun _ => rfl)) (H72.rowSl 0 rfl (fun _ => rfl)) (by have h2 := atB_len x.tm; have h3 := atB_len x.node; have h6 := textB_len x.name; (try simp only [List.length_append, idList_len]); omega)).ret ?_))
 rintro _ w74 ⟨h73, rfl, hx75, ho76⟩
 have H77 := H72.addRow hx75 ho76
 refine ⟨GrF.ofExt hx75, ?_⟩
 refine Lx_c rfl rfl (fun w78 hw79 => ?_)
 have H80 := H77.ext hw79
 refine (R_callL (vs := [(slV h34 ((atB x.node) ++ (atB x.tm))), (slV h73 ((textB x.name) ++ (idList x.sub)))]) cF13 rfl rfl ((ref01_Join h34 ((atB x.node) ++ (atB x.tm)) h73 ((textB x.name) ++ (idList x.sub)) w78 (H80.rowSl 3 rfl (fun _ => rfl)) (H80.rowSl 0 rfl (fun _ => rfl)) (by have h2 := atB_len x.tm; have h3 := atB_len x.node; have h6 := textB_len x.name; (try simp only [List.length_append, idList_len]); omega)).ret ?_))
 rintro _ w82 ⟨h81, rfl, hx83, ho84⟩
 have H85 := H80.addRow hx83 ho84
 refine ⟨GrF.ofExt hx83, ?_⟩
 refine Lx_q rfl rfl _ (fun v86 hv87 => R_assign (v := (slV h81 (((atB x.node) ++ (atB x.tm)) ++ ((textB x.name) ++ (idList x.sub))))) rfl qk) ?_
 refine Lx_nil (fun w88 hw89 => ?_)
 have H90 := H85.ext hw89
 refine Then_n (W_seq (W_reg ?_))
 refine O_mv (v := (slV h81 (((atB x.node) ++ (atB x.tm)) ++ ((textB x.name) ++ (idList x.sub))))) rfl rfl ?_
 refine O_v rfl (R_fieldAddr (off := 37) (oo := 37) Tryz.underlying77 rfl rfl Tryz.sizeOf75 rfl rfl ?_)
 refine O_v rfl (R_load1 (v := (slV x.hh x.heads)) Tryz.isAgg75 rfl (H90.bx 7 rfl 6 1 37 37 _ rfl rfl rfl) ?_)
 refine O_v rfl (R_len_slice (a := x.hh.a) (n := x.heads.length) (c := x.hh.c) Tryz.underlying75 rfl ?_)
 refine O_v rfl (R_callL (vs := [(slV h81 (((atB x.node) ++ (atB x.tm)) ++ ((textB x.name) ++ (idList x.sub)))), (.int .i64 (x.heads.length : Int))]) cF50 rfl rfl ((ref04_num h81 (((atB x.node) ++ (atB x.tm)) ++ ((textB x.name) ++ (idList x.sub))) (x.heads.length : Int) w88 (H90.rowSl 0 rfl (fun _ => rfl)) (by have h2 := atB_len x.tm; have h3 := atB_len x.node; have h6 := textB_len x.name; (try simp only [List.length_append, idList_len]); omega)).ret ?_))
 rintro _ w92 ⟨h91, rfl, hx93, ho94⟩
 have H95 := H90.addRow hx93 ho94
 refine O_as (v := (slV h91 ((((atB x.node) ++ (atB x.tm)) ++ ((textB x.name) ++ (idList x.sub))) ++ numB (x.heads.length : Int)))) rfl rfl ?_
 refine O_nil (Then_n (W_seq (W_seq (W_reg ?_))))
 refine O_as (v := (.int .i64 0)) rfl rfl ?_
 refine O_nil (Then_n (W_block ?_))
 refine W_loop (fun m97 e98 w99 => ∃ (k : Nat), ∃ (acc : List UInt8), ∃ (h96 : SlH), m97 = x.heads.length - k ∧ (k ≤ x.heads.length) ∧ (acc = itemTo x k) ∧ (acc.length ≤ 150 + 50 * k) ∧ ∃ eb100, e98 = envL [(1, (.pointer (some ⟨b2, 0, none⟩))), (2, (.slice none 0 0)), (3, (slV h96 acc)), (4, (.int .i64 (k : Int)))] eb100 ∧ Ctx w nob w99 [rowR 5 1 encB h96 acc, rowR 5 1 encB h81 (((atB x.node) ++ (atB x.tm)) ++ ((textB x.name) ++ (idList x.sub))), rowR 5 1 encB h73 ((textB x.name) ++ (idList x.sub)), rowR 5 1 encB h65 (idList x.sub), rowR 5 1 encB h57 (textB x.name), rowR 5 1 encB h34 ((atB x.node) ++ (atB x.tm)), rowR 5 1 encB h26 (atB x.tm), rowR 5 1 encB h18 (atB x.node), boxR b2 77 [[(.int .i64 x.node.T)], [(.int .i64 x.node.R)], [(.int .i64 x.tm.T)], [(.int .i64 x.tm.R)], [(.string x.name)], (idCells x.sub), [(slV x.hh x.heads)]]] [slI (Old w) headCh 34 x.hh x.heads]) _ ⟨0, ((((atB x.node) ++ (atB x.tm)) ++ ((textB x.name) ++ (idList x.sub))) ++ numB (x.heads.length : Int)), h91, rfl, (by omega), (itemR_start x), (by rw [itemR_start]; exact itemTo_len x 0 (Nat.zero_le _) hx.1), _, envL_self ⟨rfl, rfl, rfl, rfl, trivial⟩, H95⟩ ?_
 rintro m97 _ w99 ⟨k, acc, h96, rfl, hk, ha, hal, eb100, rfl, H101⟩
 refine W_seq (W_seq (W_reg ?_))
 refine O_mv (v := (.int .i64 (k : Int))) rfl rfl ?_
 refine O_v rfl (R_fieldAddr (off := 37) (oo := 37) Tryz.underlying77 rfl rfl Tryz.sizeOf75 rfl rfl ?_)
 refine O_v rfl (R_load1 (v := (slV x.hh x.heads)) Tryz.isAgg75 rfl (H101.bx 8 rfl 6 1 37 37 _ rfl rfl rfl) ?_)
 refine O_v rfl (R_len_slice (a := x.hh.a) (n := x.heads.length) (c := x.hh.c) Tryz.underlying75 rfl ?_)
 refine O_v rfl (R_cmp (a := (k : Int)) (b := (x.heads.length : Int)) (r := (decide ((k : Int) < (x.heads.length : Int)))) rfl rfl rfl ?_)
 refine O_nil (Then_n ?_)
 refine W_cond rfl (fun hc102 => ?_) (fun hc102 => ?_)
 ·have hc102 := (of_decide_eq_true hc102)
  refine W_skip (Then_n (W_seq (W_block (W_seq ?_))))
  refine W_rgd TryzMixed [(0, .q 0), (1, .q 0), (2, .q 0), (3, .q 0), (4, .q 0), (5, .q 0), (7, .q 0), (8, .q 0), (9, .q 0), (10, .q 0), (11, .q 0), (12, .q 0), (6, .c 0), (13, .c 0), (14, .c 0), (15, .q 0)] (by kernel_rfl) ?_
  refine Lx_q rfl rfl _ (fun v103 hv104 => R_fieldAddr (off := 37) (oo := 37) Tryz.underlying77 rfl rfl Tryz.sizeOf75 rfl rfl qk) (Lx_q rfl rfl _ (fun v105 hv106 => R_load1 (v := (slV x.hh x.heads)) Tryz.isAgg75 rfl ((H101.ext hv106).bx 8 rfl 6 1 37 37 _ rfl rfl rfl) qk) (Lx_mv (v := (.int .i64 (k : Int))) rfl rfl rfl (Lx_q rfl rfl _ (fun v109 hv110 => R_index_pure (H101.sl 0 rfl) (n := x.heads.length) rfl (j := (k : Int)) (oo := (x.hh.o + k * 34)) Tryz.underlying75 Tryz.sizeOf84 rfl rfl (by omega) (by omega) rfl qk) ?_)))
  refine Lx_q rfl rfl _ (fun v111 hv112 => R_fieldAddr (off := 0) (oo := (x.hh.o + k * 34)) Tryz.underlying84 rfl rfl Tryz.sizeOf69 rfl rfl qk) (Lx_q rfl rfl _ (fun v113 hv114 => R_loadA (cs := [[(.int .i64 (((nth x.heads k).tm).T))], [(.int .i64 (((nth x.heads k).tm).R))]]) Tryz.isAgg69 Tryz.sizeOf69 rfl rfl ((Sl.elem ((H101.ext hv114).sl 0 rfl) (i := k) (by omega) rfl).chunks 0 2 0 (x.hh.o + k * 34) _ rfl rfl rfl) qk) (Lx_q rfl rfl _ (fun v115 hv116 => R_fieldAddr (off := 37) (oo := 37) Tryz.underlying77 rfl rfl Tryz.sizeOf75 rfl rfl qk) (Lx_q rfl rfl _ (fun v117 hv118 => R_load1 (v := (slV x.hh x.heads)) Tryz.isAgg75 rfl ((H101.ext hv118).bx 8 rfl 6 1 37 37 _ rfl rfl rfl) qk) ?_)))
  refine Lx_mv (v := (.int .i64 (k : Int))) rfl rfl rfl (Lx_q rfl rfl _ (fun v121 hv122 => R_index_pure (H101.sl 0 rfl) (n := x.heads.length) rfl (j := (k : Int)) (oo := (x.hh.o + k * 34)) Tryz.underlying75 Tryz.sizeOf84 rfl rfl (by omega) (by omega) rfl qk) (Lx_q rfl rfl _ (fun v123 hv124 => R_fieldAddr (off := 2) (oo := ((x.hh.o + k * 34) + 2)) Tryz.underlying84 rfl rfl Tryz.sizeOf45 rfl rfl qk) (Lx_q rfl rfl _ (fun v125 hv126 => R_loadA (cs := [(idCells ((nth x.heads k).data))]) Tryz.isAgg45 Tryz.sizeOf45 rfl rfl ((Sl.elem ((H101.ext hv126).sl 0 rfl) (i := k) (by omega) rfl).chunks 2 1 2 ((x.hh.o + k * 34) + 2) _ rfl rfl rfl) qk) ?_)))
  refine Lx_c rfl rfl (fun w127 hw128 => ?_)
  have H129 := H101.ext hw128
  refine (R_callL (vs := [(aggOf (stampCh ((nth x.heads k).tm)))]) cF91 rfl rfl ((ref03_Stamp ((nth x.heads k).tm) w127 ).ret ?_))
  rintro _ w131 ⟨h130, rfl, hx132, ho133⟩
  have H134 := H129.addRow hx132 ho133
  refine ⟨GrF.ofExt hx132, ?_⟩
  refine Lx_c rfl rfl (fun w135 hw136 => ?_)
  have H137 := H134.ext hw136
  refine (R_callL (vs := [(aggOf (idCh ((nth x.heads k).data)))]) cF66 rfl rfl ((ref02_Id ((nth x.heads k).data) w135 ).ret ?_))
  rintro _ w139 ⟨h138, rfl, hx140, ho141⟩
  have H142 := H137.addRow hx140 ho141
  refine ⟨GrF.ofExt hx140, ?_⟩
  refine Lx_c rfl rfl (fun w143 hw144 => ?_)
  have H145 := H142.ext hw144
  refine (R_callL (vs := [(slV h130 (atB ((nth x.heads k).tm))), (slV h138 (idList ((nth x.heads k).data)))]) cF13 rfl rfl ((ref01_Join h130 (atB ((nth x.heads k).tm)) h138 (idList ((nth x.heads k).data)) w143 (H145.rowSl 1 rfl (fun _ => rfl)) (H145.rowSl 0 rfl (fun _ => rfl)) (by have := atB_len (nth x.heads k).tm; (try simp only [List.length_append, idList_len]); omega)).ret ?_))
  rintro _ w147 ⟨h146, rfl, hx148, ho149⟩
  have H150 := H145.addRow hx148 ho149
  refine ⟨GrF.ofExt hx148, ?_⟩
  refine Lx_q rfl rfl _ (fun v151 hv152 => R_assign (v := (slV h146 ((atB ((nth x.heads k).tm)) ++ (idList ((nth x.heads k).data))))) rfl qk) ?_
  refine Lx_nil (fun w153 hw154 => ?_)
  have H155 := H150.ext hw154
  refine Then_n (W_seq (W_reg ?_))
  refine O_as (v := (.int .i64 0)) rfl rfl ?_
  refine O_nil (Then_n (W_block ?_))
  refine W_loop (fun m157 e158 w159 => ∃ (j : Nat), ∃ (acc2 : List UInt8), ∃ (h156 : SlH), m157 = (atB (nth x.heads k).tm ++ idList (nth x.heads k).data).length - j ∧ (j ≤ (atB (nth x.heads k).tm ++ idList (nth x.heads k).data).length) ∧ (acc2 = acc ++ (atB (nth x.heads k).tm ++ idList (nth x.heads k).data).take j) ∧ (acc2.length ≤ acc.length + j) ∧ ∃ eb160, e158 = envL [(1, (.pointer (some ⟨b2, 0, none⟩))), (2, (.slice none 0 0)), (3, (slV h156 acc2)), (4, (.int .i64 (k : Int))), (5, (slV h146 ((atB ((nth x.heads k).tm)) ++ (idList ((nth x.heads k).data))))), (6, (.int .i64 (j : Int))), (28, (.int .i64 (k : Int))), (29, (.pointer (some ⟨b2, 37, none⟩))), (30, (slV x.hh x.heads)), (31, (.int .i64 (x.heads.length : Int))), (32, (.bool (decide ((k : Int) < (x.heads.length : Int))))), (35, (.pointer (some ⟨b2, 37, none⟩))), (36, (slV x.hh x.heads)), (37, (.int .i64 (k : Int))), (38, (.pointer (some ⟨x.hh.b, (x.hh.o + k * 34), none⟩))), (39, (.pointer (some ⟨x.hh.b, (x.hh.o + k * 34), none⟩))), (40, (aggOf (stampCh ((nth x.heads k).tm)))), (41, (slV h130 (atB ((nth x.heads k).tm)))), (42, (.pointer (some ⟨b2, 37, none⟩))), (43, (slV x.hh x.heads)), (44, (.int .i64 (k : Int))), (45, (.pointer (some ⟨x.hh.b, (x.hh.o + k * 34), none⟩))), (46, (.pointer (some ⟨x.hh.b, ((x.hh.o + k * 34) + 2), none⟩))), (47, (aggOf (idCh ((nth x.heads k).data)))), (48, (slV h138 (idList ((nth x.heads k).data)))), (49, (slV h146 ((atB ((nth x.heads k).tm)) ++ (idList ((nth x.heads k).data)))))] eb160 ∧ Ctx w nob w159 [rowR 5 1 encB h146 ((atB ((nth x.heads k).tm)) ++ (idList ((nth x.heads k).data))), rowR 5 1 encB h138 (idList ((nth x.heads k).data)), rowR 5 1 encB h130 (atB ((nth x.heads k).tm)), rowR 5 1 encB h156 acc2, rowR 5 1 encB h81 (((atB x.node) ++ (atB x.tm)) ++ ((textB x.name) ++ (idList x.sub))), rowR 5 1 encB h73 ((textB x.name) ++ (idList x.sub)), rowR 5 1 encB h65 (idList x.sub), rowR 5 1 encB h57 (textB x.name), rowR 5 1 encB h34 ((atB x.node) ++ (atB x.tm)), rowR 5 1 encB h26 (atB x.tm), rowR 5 1 encB h18 (atB x.node), boxR b2 77 [[(.int .i64 x.node.T)], [(.int .i64 x.node.R)], [(.int .i64 x.tm.T)], [(.int .i64 x.tm.R)], [(.string x.name)], (idCells x.sub), [(slV x.hh x.heads)]]] [slI (Old w) headCh 34 x.hh x.heads]) _ ⟨0, acc, h96, rfl, (by omega), (by rw [List.take_zero, List.append_nil]), (by omega), _, envL_self ⟨rfl, rfl, rfl, rfl, rfl, rfl, rfl, rfl, rfl, rfl, rfl, rfl, rfl, rfl, rfl, rfl, rfl, rfl, rfl, rfl, rfl, rfl, rfl, rfl, rfl, rfl, trivial⟩, H155⟩ ?_
  rintro m157 _ w159 ⟨j, acc2, h156, rfl, hj, ha2, hal2, eb160, rfl, H161⟩
  refine W_seq (W_seq (W_reg ?_))
  refine O_mv (v := (.int .i64 (j : Int))) rfl rfl (O_mv (v := (slV h146 ((atB ((nth x.heads k).tm)) ++ (idList ((nth x.heads k).data))))) rfl rfl ?_)
  refine O_v rfl (R_len_slice (a := h146.a) (n := ((atB ((nth x.heads k).tm)) ++ (idList ((nth x.heads k).data))).length) (c := h146.c) Tryz.underlying22 rfl ?_)
  refine O_v rfl (R_cmp (a := (j : Int)) (b := ((((atB ((nth x.heads k).tm)) ++ (idList ((nth x.heads k).data))).length : Nat) : Int)) (r := (decide ((j : Int) < ((((atB ((nth x.heads k).tm)) ++ (idList ((nth x.heads k).data))).length : Nat) : Int)))) rfl rfl rfl ?_)
  refine O_nil (Then_n ?_)
  refine W_cond rfl (fun hc162 => ?_) (fun hc162 => ?_)
  ·have hc162 := (of_decide_eq_true hc162)
   refine W_skip (Then_n (W_seq (W_block (W_reg ?_))))
   refine O_mv (v := (slV h156 acc2)) rfl rfl (O_mv (v := (slV h146 ((atB ((nth x.heads k).tm)) ++ (idList ((nth x.heads k).data))))) rfl rfl (O_mv (v := (.int .i64 (j : Int))) rfl rfl ?_))
   refine O_v rfl (R_index_pure (OwnS.sl (H161.getOwn 0 rfl) (fun _ => rfl)) (n := ((atB ((nth x.heads k).tm)) ++ (idList ((nth x.heads k).data))).length) rfl (j := (j : Int)) (oo := (h146.o + j * 1)) Tryz.underlying22 Tryz.sizeOf5 rfl rfl (by omega) (by omega) rfl ?_)
   refine O_v rfl (R_load1 (v := (.int .u8 ((nth ((atB ((nth x.heads k).tm)) ++ (idList ((nth x.heads k).data))) j).toNat : Int))) Tryz.isAgg5 rfl ((Sl.elem (OwnS.sl (H161.getOwn 0 rfl) (fun _ => rfl)) (i := j) (by omega) rfl).chunks 0 1 0 (h146.o + j * 1) _ rfl rfl rfl) ?_)
   refine O_v rfl (C_buildSliceL H161 (enc := encB) (val := byteV) ([(nth ((atB ((nth x.heads k).tm)) ++ (idList ((nth x.heads k).data))) j)] : List UInt8) Tryz.underlying22 Tryz.sizeOf5 Tryz.zeroValue5 rfl (by decide) (fun _ => rfl) (fun _ => rfl) rfl rfl (by decide) ?_)
   intro b163 w164 hb165 hx166 H167
   refine O_v rfl (C_append H167 4 rfl (bytes := 1) (l := acc2) (ys := ([(nth ((atB ((nth x.heads k).tm)) ++ (idList ((nth x.heads k).data))) j)] : List UInt8)) Tryz.underlying22 rfl rfl rfl rfl rfl (by decide) rfl rfl (OwnS.sl (H167.getOwn 0 rfl) (fun _ => rfl)) (fun _ => rfl) (fun _ => rfl) (by have := atB_len (nth x.heads k).tm; simp only [List.length_append, List.length_cons, List.length_nil, idList_len] at *; omega) (by decide) ?_)
   intro h168 w169 hg170 H171
   refine O_as (v := (slV h168 (acc2 ++ ([(nth ((atB ((nth x.heads k).tm)) ++ (idList ((nth x.heads k).data))) j)] : List UInt8)))) rfl rfl ?_
   refine O_nil (Blk_n (Then_n (W_reg ?_)))
   refine O_mv (v := (.int .i64 (j : Int))) rfl rfl ?_
   refine O_v rfl (R_arith (a := (j : Int)) (b := 1) (r0 := (j : Int) + 1) (r := ((j + 1 : Nat) : Int)) rfl rfl rfl (wrapN _ (by have := atB_len (nth x.heads k).tm; simp only [List.length_append, idList_len] at *; omega)) ?_)
   refine O_as (v := (.int .i64 ((j + 1 : Nat) : Int))) rfl rfl ?_
   refine O_nil (Then_n ?_)
   have H172 := H171.sub (List.Sublist.cons _ (List.Sublist.cons_cons _ (List.Sublist.cons_cons _ (List.Sublist.cons_cons _ (List.Sublist.cons_cons _ (List.Sublist.cons_cons _ (List.Sublist.cons_cons _ (List.Sublist.cons_cons _ (List.Sublist.cons_cons _ (List.Sublist.cons_cons _ (List.Sublist.cons_cons _ (List.Sublist.cons_cons _ (List.Sublist.cons_cons _ List.Sublist.slnil))))))))))))) (List.forall_mem_cons.2 ⟨List.mem_of_getElem? (i := 0) rfl, memN⟩)
   refine ⟨_, ?_, (j + 1), (acc2 ++ ([(nth ((atB ((nth x.heads k).tm)) ++ (idList ((nth x.heads k).data))) j)] : List UInt8)), h168, rfl, (by omega), (by rw [ha2, List.append_assoc]; exact congrArg _ (take_snoc (by omega)).symm), (by simp only [List.length_append, List.length_cons, List.length_nil] at *; omega), _, envL_self ⟨rfl, rfl, rfl, rfl, rfl, rfl, rfl, rfl, rfl, rfl, rfl, rfl, rfl, rfl, rfl, rfl, rfl, rfl, rfl, rfl, rfl, rfl, rfl, rfl, rfl, rfl, trivial⟩, H172⟩
   omega
  ·have hc162 := (of_decide_eq_false hc162)
   refine W_exit (Then_x (Then_x (Blk_x (Blk_n (Then_n (W_reg ?_))))))
   refine O_mv (v := (.int .i64 (k : Int))) rfl rfl ?_
   refine O_v rfl (R_arith (a := (k : Int)) (b := 1) (r0 := (k : Int) + 1) (r := ((k + 1 : Nat) : Int)) rfl rfl rfl (wrapN _ (by omega)) ?_)
   refine O_as (v := (.int .i64 ((k + 1 : Nat) : Int))) rfl rfl ?_
   refine O_nil (Then_n ?_)
   have H173 := H161.sub (List.Sublist.cons _ (List.Sublist.cons _ (List.Sublist.cons _ (List.Sublist.cons_cons _ (List.Sublist.cons_cons _ (List.Sublist.cons_cons _ (List.Sublist.cons_cons _ (List.Sublist.cons_cons _ (List.Sublist.cons_cons _ (List.Sublist.cons_cons _ (List.Sublist.cons_cons _ (List.Sublist.cons_cons _ List.Sublist.slnil)))))))))))) (List.forall_mem_cons.2 ⟨List.mem_of_getElem? (i := 0) rfl, memN⟩)
   refine ⟨_, ?_, (k + 1), acc2, h156, rfl, (by omega), (itemR_step ha ha2 (by omega) (by omega)), (by rw [itemR_step ha ha2 (by omega) (by omega)]; exact itemTo_len x _ (by omega) hx.1), _, envL_self ⟨rfl, rfl, rfl, rfl, trivial⟩, H173⟩
   omega
 ·have hc102 := (of_decide_eq_false hc102)
  refine W_exit (Then_x (Then_x (Blk_x (Then_n (W_seq (W_reg ?_))))))
  refine O_mv (v := (slV h96 acc)) rfl rfl (O_as (v := (slV h96 acc)) rfl rfl ?_)
  refine O_nil (Then_n (W_ret ?_))
  refine ret_1 (v := (slV h96 acc)) Tryz.results51 rfl ?_
  have hE : acc = itemB x := (by rw [ha, show k = x.heads.length from by omega]; rfl)
  refine ⟨h96, ?_, H101.gr, ?_⟩
  · exact congrArg (fun l => slV h96 l) hE
  · have hO := H101.retRow 0 rfl
    exact hE ▸ hO
theorem cF51 : callable Tryz.prog 51 = true := by kernel_rfl
set_option maxHeartbeats 4000000 in
theorem ref04_PutDir (hitems : SlH) (items : List ItemS) (w : World) (Sitems : Sl (Old w) itemCh 38 hitems items w) (Ditems_heads : ∀ x ∈ items, Sl (Old w) headCh 34 x.hh x.heads w) (hx : items.length ≤ 1000 ∧ ∀ x ∈ items, x.name.size ≤ 60 ∧ x.heads.length ≤ 1000) :
    Calls Tryz.prog 18 #[(slV hitems items)] w (Ret fun v w' => ∃ h, v = slV h (dirB items) ∧ Ext w w' ∧ OwnS w.heap.size 5 1 encB h (dirB items) w') := by
 refine calls_W Tryz.func18 rfl Tryz.ntmps18 rfl ?_
 have H0 := Ctx.start w nob
 have H1 := H0.addSl _ Sitems (fun b hb => ⟨hb, fun _ ho => (nomatch ho)⟩)
 have LSitems := Sitems.len
 have H2 := H1.addImm' (deepI (Old w) headCh 34 (fun x : ItemS => x.hh) (fun x : ItemS => x.heads) items) Ditems_heads (fun b hb => ⟨hb, fun _ ho => (nomatch ho)⟩)
 refine W_seq (W_reg ?_)
 refine O_as (v := (.slice none 0 0)) rfl rfl ?_
 refine O_nil (Then_n (W_seq (W_reg ?_)))
 refine O_v rfl (C_buildSliceL H2 (enc := encB) (val := byteV) ([2] : List UInt8) Tryz.underlying22 Tryz.sizeOf5 Tryz.zeroValue5 rfl (by decide) (fun _ => rfl) (fun _ => rfl) rfl rfl (by decide) ?_)
 intro b3 w4 hb5 hx6 H7
 refine O_mv (v := (slV hitems items)) rfl rfl ?_
 refine O_v rfl (R_len_slice (a := hitems.a) (n := items.length) (c := hitems.c) Tryz.underlying31 rfl ?_)
 refine O_v rfl (R_callL (vs := [(slV ⟨some ⟨b3, 0, none⟩, b3, 0, 1⟩ ([2] : List UInt8)), (.int .i64 (items.length : Int))]) cF50 rfl rfl ((ref04_num ⟨some ⟨b3, 0, none⟩, b3, 0, 1⟩ ([2] : List UInt8) (items.length : Int) w4 (H7.rowSl 0 rfl (fun _ => rfl)) (by simp only [List.length_cons, List.length_nil]; omega)).ret ?_))
 rintro _ w9 ⟨h8, rfl, hx10, ho11⟩
 have H12 := H7.addRow hx10 ho11
 refine O_as (v := (slV h8 (([2] : List UInt8) ++ numB (items.length : Int)))) rfl rfl ?_
 refine O_nil (Then_n (W_seq (W_seq (W_reg ?_))))
 refine O_as (v := (.int .i64 0)) rfl rfl ?_
 refine O_nil (Then_n (W_block ?_))
 refine W_loop (fun m14 e15 w16 => ∃ (k : Nat), ∃ (acc : List UInt8), ∃ (h13 : SlH), m14 = items.length - k ∧ (k ≤ items.length) ∧ (acc = dirTo items k) ∧ (acc.length ≤ 100 + 51000 * k) ∧ ∃ eb17, e15 = envL [(0, (slV hitems items)), (2, (.slice none 0 0)), (3, (slV h13 acc)), (4, (.int .i64 (k : Int)))] eb17 ∧ Ctx w nob w16 [rowR 5 1 encB h13 acc, rowR 5 1 encB ⟨some ⟨b3, 0, none⟩, b3, 0, 1⟩ ([2] : List UInt8)] [deepI (Old w) headCh 34 (fun x : ItemS => x.hh) (fun x : ItemS => x.heads) items, slI (Old w) itemCh 38 hitems items]) _ ⟨0, (([2] : List UInt8) ++ numB (items.length : Int)), h8, rfl, (by omega), (dirTo_zero items), (by have := numB_len (items.length : Int); simp only [List.length_append, List.length_cons, List.length_nil]; omega), _, envL_self ⟨rfl, rfl, rfl, rfl, trivial⟩, H12⟩ ?_
 rintro m14 _ w16 ⟨k, acc, h13, rfl, hk, ha, hal, eb17, rfl, H18⟩
 refine W_seq (W_seq (W_reg ?_))
 refine O_mv (v := (.int .i64 (k : Int))) rfl rfl (O_mv (v := (slV hitems items)) rfl rfl ?_)
 refine O_v rfl (R_len_slice (a := hitems.a) (n := items.length) (c := hitems.c) Tryz.underlying31 rfl ?_)
 refine O_v rfl (R_cmp (a := (k : Int)) (b := (items.length : Int)) (r := (decide ((k : Int) < (items.length : Int)))) rfl rfl rfl ?_)
 refine O_nil (Then_n ?_)
 refine W_cond rfl (fun hc19 => ?_) (fun hc19 => ?_)
 ·have hc19 := (of_decide_eq_true hc19)
  refine W_skip (Then_n (W_seq (W_block (W_seq (W_reg ?_)))))
  refine O_mv (v := (slV hitems items)) rfl rfl (O_mv (v := (.int .i64 (k : Int))) rfl rfl ?_)
  refine O_v rfl (R_index_pure (H18.sl 1 rfl) (n := items.length) rfl (j := (k : Int)) (oo := (hitems.o + k * 38)) Tryz.underlying31 Tryz.sizeOf77 rfl rfl (by omega) (by omega) rfl ?_)
  refine O_v rfl (R_loadA (cs := [[(.int .i64 (((nth items k).node).T))], [(.int .i64 (((nth items k).node).R))], [(.int .i64 (((nth items k).tm).T))], [(.int .i64 (((nth items k).tm).R))], [(.string ((nth items k).name))], (idCells ((nth items k).sub)), [(slV ((nth items k).hh) ((nth items k).heads))]]) Tryz.isAgg77 Tryz.sizeOf77 rfl rfl ((Sl.elem (H18.sl 1 rfl) (i := k) (by omega) rfl).chunks 0 7 0 (hitems.o + k * 38) _ rfl rfl rfl) ?_)
  refine O_v rfl (R_callL (vs := [(aggOf (itemCh (nth items k)))]) cF51 rfl rfl ((ref04_put (nth items k) w16 (H18.deepOld 0 rfl _ (nth_mem (by omega))) (hx.2 _ (nth_mem (by omega)))).ret ?_))
  rintro _ w21 ⟨h20, rfl, hx22, ho23⟩
  have H24 := H18.addRow hx22 ho23
  refine O_as (v := (slV h20 (itemB (nth items k)))) rfl rfl ?_
  refine O_nil (Then_n (W_seq (W_reg ?_)))
  refine O_as (v := (.int .i64 0)) rfl rfl ?_
  refine O_nil (Then_n (W_block ?_))
  refine W_loop (fun m26 e27 w28 => ∃ (j : Nat), ∃ (acc2 : List UInt8), ∃ (h25 : SlH), m26 = (itemB (nth items k)).length - j ∧ (j ≤ (itemB (nth items k)).length) ∧ (acc2 = acc ++ (itemB (nth items k)).take j) ∧ (acc2.length ≤ acc.length + j) ∧ ∃ eb29, e27 = envL [(0, (slV hitems items)), (2, (.slice none 0 0)), (3, (slV h25 acc2)), (4, (.int .i64 (k : Int))), (5, (slV h20 (itemB (nth items k)))), (6, (.int .i64 (j : Int))), (11, (.int .i64 (k : Int))), (12, (slV hitems items)), (13, (.int .i64 (items.length : Int))), (14, (.bool (decide ((k : Int) < (items.length : Int))))), (17, (slV hitems items)), (18, (.int .i64 (k : Int))), (19, (.pointer (some ⟨hitems.b, (hitems.o + k * 38), none⟩))), (20, (aggOf (itemCh (nth items k)))), (21, (slV h20 (itemB (nth items k))))] eb29 ∧ Ctx w nob w28 [rowR 5 1 encB h20 (itemB (nth items k)), rowR 5 1 encB h25 acc2, rowR 5 1 encB ⟨some ⟨b3, 0, none⟩, b3, 0, 1⟩ ([2] : List UInt8)] [deepI (Old w) headCh 34 (fun x : ItemS => x.hh) (fun x : ItemS => x.heads) items, slI (Old w) itemCh 38 hitems items]) _ ⟨0, acc, h13, rfl, (by omega), (by rw [List.take_zero, List.append_nil]), (by omega), _, envL_self ⟨rfl, rfl, rfl, rfl, rfl, rfl, rfl, rfl, rfl, rfl, rfl, rfl, rfl, rfl, rfl, trivial⟩, H24⟩ ?_
  rintro m26 _ w28 ⟨j, acc2, h25, rfl, hj, ha2, hal2, eb29, rfl, H30⟩
  refine W_seq (W_seq (W_reg ?_))
  refine O_mv (v := (.int .i64 (j : Int))) rfl rfl (O_mv (v := (slV h20 (itemB (nth items k)))) rfl rfl ?_)
  refine O_v rfl (R_len_slice (a := h20.a) (n := (itemB (nth items k)).length) (c := h20.c) Tryz.underlying22 rfl ?_)
  refine O_v rfl (R_cmp (a := (j : Int)) (b := (((itemB (nth items k)).length : Nat) : Int)) (r := (decide ((j : Int) < (((itemB (nth items k)).length : Nat) : Int)))) rfl rfl rfl ?_)
  refine O_nil (Then_n ?_)
  refine W_cond rfl (fun hc31 => ?_) (fun hc31 => ?_)
  ·have hc31 := (of_decide_eq_true hc31)
   refine W_skip (Then_n (W_seq (W_block (W_reg ?_))))
   refine O_mv (v := (slV h25 acc2)) rfl rfl (O_mv (v := (slV h20 (itemB (nth items k)))) rfl rfl (O_mv (v := (.int .i64 (j : Int))) rfl rfl ?_))
   refine O_v rfl (R_index_pure (OwnS.sl (H30.getOwn 0 rfl) (fun _ => rfl)) (n := (itemB (nth items k)).length) rfl (j := (j : Int)) (oo := (h20.o + j * 1)) Tryz.underlying22 Tryz.sizeOf5 rfl rfl (by omega) (by omega) rfl ?_)
   refine O_v rfl (R_load1 (v := (.int .u8 ((nth (itemB (nth items k)) j).toNat : Int))) Tryz.isAgg5 rfl ((Sl.elem (OwnS.sl (H30.getOwn 0 rfl) (fun _ => rfl)) (i := j) (by omega) rfl).chunks 0 1 0 (h20.o + j * 1) _ rfl rfl rfl) ?_)
   refine O_v rfl (C_buildSliceL H30 (enc := encB) (val := byteV) ([(nth (itemB (nth items k)) j)] : List UInt8) Tryz.underlying22 Tryz.sizeOf5 Tryz.zeroValue5 rfl (by decide) (fun _ => rfl) (fun _ => rfl) rfl rfl (by decide) ?_)
   intro b32 w33 hb34 hx35 H36
   refine O_v rfl (C_append H36 2 rfl (bytes := 1) (l := acc2) (ys := ([(nth (itemB (nth items k)) j)] : List UInt8)) Tryz.underlying22 rfl rfl rfl rfl rfl (by decide) rfl rfl (OwnS.sl (H36.getOwn 0 rfl) (fun _ => rfl)) (fun _ => rfl) (fun _ => rfl) (by have := itemB_len (hx.2 _ (nth_mem (show k < items.length by omega))); simp only [List.length_append, List.length_cons, List.length_nil]; omega) (by decide) ?_)
   intro h37 w38 hg39 H40
   refine O_as (v := (slV h37 (acc2 ++ ([(nth (itemB (nth items k)) j)] : List UInt8)))) rfl rfl ?_
   refine O_nil (Blk_n (Then_n (W_reg ?_)))
   refine O_mv (v := (.int .i64 (j : Int))) rfl rfl ?_
   refine O_v rfl (R_arith (a := (j : Int)) (b := 1) (r0 := (j : Int) + 1) (r := ((j + 1 : Nat) : Int)) rfl rfl rfl (wrapN _ (by have := itemB_len (hx.2 _ (nth_mem (show k < items.length by omega))); omega)) ?_)
   refine O_as (v := (.int .i64 ((j + 1 : Nat) : Int))) rfl rfl ?_
   refine O_nil (Then_n ?_)
   have H41 := H40.sub (List.Sublist.cons _ (List.Sublist.cons_cons _ (List.Sublist.cons_cons _ (List.Sublist.cons_cons _ List.Sublist.slnil)))) (List.forall_mem_cons.2 ⟨List.mem_of_getElem? (i := 0) rfl, List.forall_mem_cons.2 ⟨List.mem_of_getElem? (i := 1) rfl, memN⟩⟩)
   refine ⟨_, ?_, (j + 1), (acc2 ++ ([(nth (itemB (nth items k)) j)] : List UInt8)), h37, rfl, (by omega), (by rw [ha2, List.append_assoc]; exact congrArg _ (take_snoc (by omega)).symm), (by simp only [List.length_append, List.length_cons, List.length_nil]; omega), _, envL_self ⟨rfl, rfl, rfl, rfl, rfl, rfl, rfl, rfl, rfl, rfl, rfl, rfl, rfl, rfl, rfl, trivial⟩, H41⟩
   omega
  ·have hc31 := (of_decide_eq_false hc31)
   refine W_exit (Then_x (Then_x (Blk_x (Blk_n (Then_n (W_reg ?_))))))
   refine O_mv (v := (.int .i64 (k : Int))) rfl rfl ?_
   refine O_v rfl (R_arith (a := (k : Int)) (b := 1) (r0 := (k : Int) + 1) (r := ((k + 1 : Nat) : Int)) rfl rfl rfl (wrapN _ (by omega)) ?_)
   refine O_as (v := (.int .i64 ((k + 1 : Nat) : Int))) rfl rfl ?_
   refine O_nil (Then_n ?_)
   have H42 := H30.sub (List.Sublist.cons _ (List.Sublist.cons_cons _ (List.Sublist.cons_cons _ List.Sublist.slnil))) (List.forall_mem_cons.2 ⟨List.mem_of_getElem? (i := 0) rfl, List.forall_mem_cons.2 ⟨List.mem_of_getElem? (i := 1) rfl, memN⟩⟩)
   refine ⟨_, ?_, (k + 1), acc2, h25, rfl, (by omega), (dirR_step ha ha2 (by omega) (by omega)), (by have := itemB_len (hx.2 _ (nth_mem (show k < items.length by omega))); omega), _, envL_self ⟨rfl, rfl, rfl, rfl, trivial⟩, H42⟩
   omega
 ·have hc19 := (of_decide_eq_false hc19)
  refine W_exit (Then_x (Then_x (Blk_x (Then_n (W_seq (W_reg ?_))))))
  refine O_mv (v := (slV h13 acc)) rfl rfl (O_as (v := (slV h13 acc)) rfl rfl ?_)
  refine O_nil (Then_n (W_ret ?_))
  refine ret_1 (v := (slV h13 acc)) Tryz.results18 rfl ?_
  have hE : acc = dirB items := (by rw [ha, show k = items.length from by omega]; rfl)
  refine ⟨h13, ?_, H18.gr, ?_⟩
  · exact congrArg (fun l => slV h13 l) hE
  · have hO := H18.retRow 0 rfl
    exact hE ▸ hO
set_option maxHeartbeats 1000000 in
theorem ref04_SameHeads (ha : SlH) (a : List Head) (hb : SlH) (b : List Head) (w : World) (Sa : Sl (Old w) headCh 34 ha a w) (Sb : Sl (Old w) headCh 34 hb b w) :
    Calls Tryz.prog 52 #[(slV ha a), (slV hb b)] w (Ret fun v w' => v = (.bool (decide (a = b))) ∧ Ext w w') := by
 refine calls_W Tryz.func52 rfl Tryz.ntmps52 rfl ?_
 have H0 := Ctx.start w nob
 have H1 := H0.addSl _ Sa (fun b hb => ⟨hb, fun _ ho => (nomatch ho)⟩)
 have LSa := Sa.len
 have H2 := H1.addSl _ Sb (fun b hb => ⟨hb, fun _ ho => (nomatch ho)⟩)
 have LSb := Sb.len
 refine W_seq (W_reg ?_)
 refine O_as (v := (.bool false)) rfl rfl ?_
 refine O_nil (Then_n (W_seq (W_seq (W_reg ?_))))
 refine O_mv (v := (slV ha a)) rfl rfl ?_
 refine O_v rfl (R_len_slice (a := ha.a) (n := a.length) (c := ha.c) Tryz.underlying75 rfl ?_)
 refine O_mv (v := (slV hb b)) rfl rfl ?_
 refine O_v rfl (R_len_slice (a := hb.a) (n := b.length) (c := hb.c) Tryz.underlying75 rfl ?_)
 refine O_v rfl (R_cmp (a := (a.length : Int)) (b := (b.length : Int)) (r := (!(decide ((a.length : Int) = (b.length : Int))))) rfl rfl rfl ?_)
 refine O_nil (Then_n ?_)
 refine W_cond rfl (fun hc3 => ?_) (fun hc3 => ?_)
 ·have hc3 : ¬ ((a.length : Int) = (b.length : Int)) := (of_decide_eq_false (notT hc3))
  refine W_seq (W_reg ?_)
  refine O_as (v := (.bool false)) rfl rfl ?_
  refine O_nil (Then_n (W_ret (Then_r ?_)))
  refine ret_1 (v := (.bool false)) Tryz.results52 rfl ?_
  exact ⟨(boolF (fun h => by subst h; omega)), H2.gr⟩
 ·have hc3 : ((a.length : Int) = (b.length : Int)) := (of_decide_eq_true (notF hc3))
  refine W_skip (Then_n (W_seq (W_seq (W_reg ?_))))
  refine O_as (v := (.int .i64 0)) rfl rfl ?_
  refine O_nil (Then_n (W_block ?_))
  refine W_loop (fun m4 e5 w6 => ∃ (k : Nat), m4 = a.length - k ∧ (k ≤ a.length) ∧ (∀ i, i < k → nth a i = nth b i) ∧ ∃ eb7, e5 = envL [(0, (slV ha a)), (1, (slV hb b)), (5, (.int .i64 (k : Int)))] eb7 ∧ Ctx w nob w6 [] [slI (Old w) headCh 34 hb b, slI (Old w) headCh 34 ha a]) _ ⟨0, rfl, (by omega), (all_zero _), _, envL_self ⟨rfl, rfl, rfl, trivial⟩, H2⟩ ?_
  rintro m4 _ w6 ⟨k, rfl, hk, hn, eb7, rfl, H8⟩
  refine W_seq (W_seq (W_reg ?_))
  refine O_mv (v := (.int .i64 (k : Int))) rfl rfl (O_mv (v := (slV ha a)) rfl rfl ?_)
  refine O_v rfl (R_len_slice (a := ha.a) (n := a.length) (c := ha.c) Tryz.underlying75 rfl ?_)
  refine O_v rfl (R_cmp (a := (k : Int)) (b := (a.length : Int)) (r := (decide ((k : Int) < (a.length : Int)))) rfl rfl rfl ?_)
  refine O_nil (Then_n ?_)
  refine W_cond rfl (fun hc9 => ?_) (fun hc9 => ?_)
  ·have hc9 := (of_decide_eq_true hc9)
   refine W_skip (Then_n (W_seq (W_block (W_seq ?_))))
   refine W_rgd TryzMixed [(0, .q 0), (1, .q 0), (2, .q 0), (3, .q 0), (4, .q 0), (5, .q 0), (6, .q 0), (7, .q 0), (8, .q 0)] (by kernel_rfl) ?_
   refine Lx_mv (v := (slV ha a)) rfl rfl rfl (Lx_mv (v := (.int .i64 (k : Int))) rfl rfl rfl (Lx_q rfl rfl _ (fun v14 hv15 => R_index_pure (H8.sl 1 rfl) (n := a.length) rfl (j := (k : Int)) (oo := (ha.o + k * 34)) Tryz.underlying75 Tryz.sizeOf84 rfl rfl (by omega) (by omega) rfl qk) (Lx_q rfl rfl _ (fun v16 hv17 => R_loadA (cs := [[(.int .i64 (((nth a k).tm).T))], [(.int .i64 (((nth a k).tm).R))], (idCells ((nth a k).data))]) Tryz.isAgg84 Tryz.sizeOf84 rfl rfl ((Sl.elem ((H8.ext hv17).sl 1 rfl) (i := k) (by omega) rfl).chunks 0 3 0 (ha.o + k * 34) _ rfl rfl rfl) qk) ?_)))
   refine Lx_mv (v := (slV hb b)) rfl rfl rfl (Lx_mv (v := (.int .i64 (k : Int))) rfl rfl rfl (Lx_q rfl rfl _ (fun v22 hv23 => R_index_pure (H8.sl 0 rfl) (n := b.length) rfl (j := (k : Int)) (oo := (hb.o + k * 34)) Tryz.underlying75 Tryz.sizeOf84 rfl rfl (by omega) (by omega) rfl qk) (Lx_q rfl rfl _ (fun v24 hv25 => R_loadA (cs := [[(.int .i64 (((nth b k).tm).T))], [(.int .i64 (((nth b k).tm).R))], (idCells ((nth b k).data))]) Tryz.isAgg84 Tryz.sizeOf84 rfl rfl ((Sl.elem ((H8.ext hv25).sl 0 rfl) (i := k) (by omega) rfl).chunks 0 3 0 (hb.o + k * 34) _ rfl rfl rfl) qk) ?_)))
   refine Lx_q rfl rfl _ (fun v26 hv27 => R_nev (a := (nth a k)) (b := (nth b k)) eqv_Head84 rfl Tryz.eqGuardType84 rfl rfl qk) ?_
   refine Lx_nil (fun w28 hw29 => ?_)
   have H30 := H8.ext hw29
   refine Then_n ?_
   refine W_cond rfl (fun hc31 => ?_) (fun hc31 => ?_)
   ·have hc31 : ¬ ((nth a k) = (nth b k)) := (of_decide_eq_false (notT hc31))
    refine W_seq (W_reg ?_)
    refine O_as (v := (.bool false)) rfl rfl ?_
    refine O_nil (Then_n (W_ret (Blk_r (Then_r (Then_r (Blk_r (Then_r ?_)))))))
    refine ret_1 (v := (.bool false)) Tryz.results52 rfl ?_
    exact ⟨(boolF (fun h => by subst h; exact absurd rfl (by assumption))), H30.gr⟩
   ·have hc31 : ((nth a k) = (nth b k)) := (of_decide_eq_true (notF hc31))
    refine W_skip (Blk_n (Then_n (W_reg ?_)))
    refine O_mv (v := (.int .i64 (k : Int))) rfl rfl ?_
    refine O_v rfl (R_arith (a := (k : Int)) (b := 1) (r0 := (k : Int) + 1) (r := ((k + 1 : Nat) : Int)) rfl rfl rfl (wrapN _ (by omega)) ?_)
    refine O_as (v := (.int .i64 ((k + 1 : Nat) : Int))) rfl rfl ?_
    refine O_nil (Then_n ?_)
    refine ⟨_, ?_, (k + 1), rfl, (by omega), (all_succ hn (by assumption)), _, envL_self ⟨rfl, rfl, rfl, trivial⟩, H30⟩
    omega
  ·have hc9 := (of_decide_eq_false hc9)
   refine W_exit (Then_x (Then_x (Blk_x (Then_n (W_seq (W_reg ?_))))))
   refine O_as (v := (.bool true)) rfl rfl ?_
   refine O_nil (Then_n (W_ret ?_))
   refine ret_1 (v := (.bool true)) Tryz.results52 rfl ?_
   exact ⟨(boolT (eq_of_nth (by omega) (by rwa [show a.length = k from by omega]))), H8.gr⟩
end Go.Proofs.YthjdhfoeckfmbaaGreat
