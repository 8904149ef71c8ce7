/- Proved: for every input, pollardlaw14.DifferOrder returns true and leaves its arguments as they were. No condition. -/
import Derived.Test.YtiknfldhommmpaaX3
namespace Go.Proofs.Ytiknfldhommmpaa
open Go
set_option maxRecDepth 100000
set_option linter.unusedVariables false
set_option linter.unusedSimpArgs false
set_option maxHeartbeats 1000000 in
theorem Clone_byte (hs : SlH) (s : List UInt8) (w : World) (Ss : Sl (Old w) encB 1 hs s w) (hl : s.length ≤ 140737488355328) :
    Calls Try.prog 82 #[(slV hs s)] w (Ret fun v w' => ∃ h, v = slV h (s) ∧ Ext w w' ∧ OwnS w.heap.size 5 1 encB h (s) w') := by
 refine calls_W Try.func82 rfl Try.ntmps82 rfl ?_
 have H0 := Ctx.start w nob
 have H1 := H0.addSl _ Ss (fun b hb => ⟨hb, fun _ ho => (nomatch ho)⟩)
 have LSs := Ss.len
 refine W_seq (W_reg ?_)
 refine O_v rfl (R_assign (v := (.slice none 0 0)) rfl ?_)
 refine O_nil (Then_n (W_seq (W_seq (W_reg ?_))))
 refine O_v rfl (R_move (v := (slV hs s)) rfl ?_)
 refine O_v rfl (R_slice_nil (a := hs.a) Try.underlying79 rfl rfl ?_)
 refine O_nil (Then_n ?_)
 refine W_cond (t := hs.a.isNone) rfl (fun hc2 => ?_) (fun hc2 => ?_)
 ·have hc2 : hs.a.isNone = true := hc2
  refine W_seq (W_reg ?_)
  refine O_v rfl (R_assign (v := (.slice none 0 0)) rfl ?_)
  refine O_nil (Then_n (W_ret (Then_r ?_)))
  refine ret_1 (v := (.slice none 0 0)) Try.results82 rfl ?_
  have H3 := H1.addNil 5 1 encB
  have hE : [] = s := (Sl.isNil Ss (by assumption)).symm
  refine ⟨nilH, ?_, H3.gr, ?_⟩
  · exact congrArg (fun l => slV nilH l) hE
  · have hO := H3.retRow 0 rfl
    exact hE ▸ hO
 ·have hc2 : hs.a.isNone = false := hc2
  refine W_skip (Then_n (W_seq (W_reg ?_)))
  refine O_v rfl (C_buildSliceL H1 (enc := encB) (val := byteV) ([] : List UInt8) Try.underlying79 Try.sizeOf5 Try.zeroValue5 rfl (by decide) (fun _ => rfl) (fun _ => rfl) rfl rfl (by decide) ?_)
  intro b4 w5 hb6 hx7 H8
  refine O_v rfl (R_move (v := (slV hs s)) rfl ?_)
  refine O_v rfl (C_append H8 0 rfl (bytes := 1) (l := ([] : List UInt8)) (ys := s) Try.underlying79 rfl rfl rfl rfl rfl (by decide) rfl rfl (H8.sl 0 rfl) (fun _ => rfl) (fun _ => rfl) (by simpa using hl) (by decide) ?_)
  intro h9 w10 hg11 H12
  refine O_v rfl (R_assign (v := (slV h9 (([] : List UInt8) ++ s))) rfl ?_)
  refine O_nil (Then_n (W_ret ?_))
  refine ret_1 (v := (slV h9 (([] : List UInt8) ++ s))) Try.results82 rfl ?_
  have hE : ([] : List UInt8) ++ s = s := List.nil_append _
  refine ⟨h9, ?_, H12.gr, ?_⟩
  · exact congrArg (fun l => slV h9 l) hE
  · have hO := H12.retRow 0 rfl
    exact hE ▸ hO

end Go.Proofs.Ytiknfldhommmpaa
namespace Go.Proofs.Ytiknfldhommmpaa
open Go
set_option maxRecDepth 100000
set_option linter.unusedVariables false
set_option linter.unusedSimpArgs false
theorem enc_Id_c82 : callable Try.prog 82 = true := by kernel_rfl
set_option maxHeartbeats 1000000 in
theorem enc_Id (hb : SlH) (b : List UInt8) (id : ID) (w : World) (Sb : Sl (Old w) encB 1 hb b w) (hl : b.length ≤ 70368744177664) :
    Calls Try.prog 69 #[(slV hb b), (aggOf (idCh id))] w (Ret fun v w' => ∃ h, v = slV h (b ++ idList id) ∧ Ext w w' ∧ OwnS w.heap.size 5 1 encB h (b ++ idList id) w') := by
 refine calls_W Try.func69 rfl Try.ntmps69 rfl ?_
 have H0 := Ctx.start w nob
 have H1 := H0.addSl _ Sb (fun b hb => ⟨hb, fun _ ho => (nomatch ho)⟩)
 have LSb := Sb.len
 refine W_seq (W_reg ?_)
 refine O_v rfl (C_box H1 [(idCells id)] rfl ?_)
 intro b2 w3 hb4 hx5 H6
 refine O_v rfl (R_assign (v := (.slice none 0 0)) rfl ?_)
 refine O_nil (Then_n (W_seq ?_))
 refine W_rgdM TryMixed (fun _ => True) (fun i => i == 3) [(0, .q true), (2, .q true), (1, .c false), (3, .c true), (4, .q true)] (by kernel_rfl) ?_
 refine Lx_q (i := 0) rfl rfl _ (fun v7 hv8 => R_move (v := (slV hb b)) rfl ⟨rfl, Gr.refl _ _⟩) ?_
 refine Lx_q (i := 2) rfl rfl _ (fun v9 hv10 => R_slice_arr Try.underlying36 Try.sizeOf5 rfl (by decide) ⟨rfl, Gr.refl _ _⟩) ?_
 refine Lx_c (i := 1) rfl rfl (fun w11 hw12 => ?_)
 have H13 := H6.ext hw12
 refine (R_callL (vs := [(slV hb b)]) enc_Id_c82 rfl rfl ((Clone_byte hb b w11 (H13.slOld 0 rfl) (by omega)).ret ?_))
 rintro _ w15 ⟨h14, rfl, hx16, ho17⟩
 have H18 := H13.addRow hx16 ho17
 refine ⟨GrF.ofExt hx16, ?_⟩
 refine Lx_c (i := 3) rfl rfl (fun w19 hw20 => ?_)
 have H21 := H18.ext hw20
 refine (C_append H21 0 rfl (bytes := 1) (l := b) (ys := (idList id)) Try.underlying79 rfl rfl rfl rfl rfl (by decide) rfl rfl (Sl_box (H21.getOwn 1 rfl)) (fun _ => rfl) (fun _ => rfl) (by rw [idList_len]; omega) (by decide) ?_)
 intro h22 w23 hg24 H25
 refine ⟨Gr.mono (M' := fun _ => True) hg24 (fun _ _ => trivial), ?_⟩
 refine Lx_q (i := 4) rfl rfl _ (fun v26 hv27 => R_assign (v := (slV h22 (b ++ (idList id)))) rfl ⟨rfl, Gr.refl _ _⟩) ?_
 refine Lx_nil (fun w28 hw29 => ?_)
 have H30 := H25.ext hw29
 refine Then_n (W_ret ?_)
 refine ret_1 (v := (slV h22 (b ++ (idList id)))) Try.results69 rfl ?_
 exact ⟨h22, rfl, H30.gr, H30.retRow 0 rfl⟩

end Go.Proofs.Ytiknfldhommmpaa
namespace Go.Proofs.Ytiknfldhommmpaa
open Go
set_option maxRecDepth 100000
set_option linter.unusedVariables false
set_option linter.unusedSimpArgs false
theorem enc_Num_c82 : callable Try.prog 82 = true := by kernel_rfl
set_option maxHeartbeats 1000000 in
theorem enc_Num (hb : SlH) (b : List UInt8) (n : Int) (w : World) (Sb : Sl (Old w) encB 1 hb b w) (hl : b.length ≤ 70368744177664) :
    Calls Try.prog 68 #[(slV hb b), (.int .i64 n)] w (Ret fun v w' => ∃ h, v = slV h (b ++ numB n) ∧ Ext w w' ∧ OwnS w.heap.size 5 1 encB h (b ++ numB n) w') := by
 refine calls_W Try.func68 rfl Try.ntmps68 rfl ?_
 have H0 := Ctx.start w nob
 have H1 := H0.addSl _ Sb (fun b hb => ⟨hb, fun _ ho => (nomatch ho)⟩)
 have LSb := Sb.len
 refine W_seq (W_reg ?_)
 refine O_v rfl (R_assign (v := (.slice none 0 0)) rfl ?_)
 refine O_nil (Then_n (W_seq (W_reg ?_)))
 refine O_v rfl (R_move (v := (slV hb b)) rfl ?_)
 refine O_v rfl (R_callL (vs := [(slV hb b)]) enc_Num_c82 rfl rfl ((Clone_byte hb b w (H1.slOld 0 rfl) (by omega)).ret ?_))
 rintro _ w3 ⟨h2, rfl, hx4, ho5⟩
 have H6 := H1.addRow hx4 ho5
 refine O_v rfl (R_assign (v := (slV h2 b)) rfl ?_)
 refine O_nil (Then_n (W_seq (W_reg ?_)))
 refine O_v rfl (R_move (v := (.int .i64 n)) rfl ?_)
 refine O_v rfl (R_max2L (a := n) (b := 0) rfl ?_)
 refine O_v rfl (R_min2L (a := (max n 0)) (b := 4611686018427387904) rfl ?_)
 refine O_v rfl (R_conv_int (a := (min (max n 0) 4611686018427387904)) (r := ((numClamp n : Nat) : Int)) Try.underlying2 Try.underlying120 rfl (conv_clamp n) ?_)
 refine O_v rfl (R_assign (v := (.int .u64 ((numClamp n : Nat) : Int))) rfl ?_)
 refine O_nil (Then_n (W_seq (W_block ?_)))
 refine W_loop (fun m8 e9 w10 => ∃ (u : Nat), ∃ (acc : List UInt8), ∃ (h7 : SlH), m8 = u + 1 ∧ (acc ++ numGo u = b ++ numB n) ∧ ∃ eb11, e9 = envL [(4, (.slice none 0 0)), (5, (slV h7 acc)), (6, (.int .u64 ((u : Nat) : Int)))] eb11 ∧ Ctx w nob w10 [rowR 5 1 encB h7 acc] [slI (Old w) encB 1 hb b]) _ ⟨(numClamp n), b, h2, rfl, rfl, _, envL_self ⟨rfl, rfl, rfl, trivial⟩, H6⟩ ?_
 rintro m8 _ w10 ⟨u, acc, h7, rfl, ha, eb11, rfl, H12⟩
 refine W_seq (W_seq (W_reg ?_))
 refine O_v rfl (R_move (v := (.int .u64 ((u : Nat) : Int))) rfl ?_)
 refine O_v rfl (R_cmp (a := ((u : Nat) : Int)) (b := 127) (r := (decide (127 < ((u : Nat) : Int)))) rfl rfl rfl ?_)
 refine O_nil (Then_n ?_)
 refine W_cond (t := (decide (127 < ((u : Nat) : Int)))) rfl (fun hc13 => ?_) (fun hc13 => ?_)
 ·have hc13 : (127 < ((u : Nat) : Int)) := (of_decide_eq_true hc13)
  refine W_skip (Then_n (W_block (W_seq (W_reg ?_))))
  refine O_v rfl (R_move (v := (slV h7 acc)) rfl ?_)
  refine O_v rfl (R_move (v := (.int .u64 ((u : Nat) : Int))) rfl ?_)
  refine O_v rfl (R_conv_int (a := ((u : Nat) : Int)) (r := ((UInt8.ofNat u).toNat : Int)) Try.underlying120 Try.underlying5 rfl (conv_u8 _) ?_)
  refine O_v rfl (R_bits (k := .u8) (a := ((UInt8.ofNat u).toNat : Int)) (b := ((128 : UInt8).toNat : Int)) (r := (((UInt8.ofNat u) ||| (128 : UInt8)).toNat : Int)) rfl rfl (bit_or8 _ _) ?_)
  refine O_v rfl (C_buildSliceL H12 (enc := encB) (val := byteV) ([((UInt8.ofNat u) ||| (128 : UInt8))] : List UInt8) Try.underlying79 Try.sizeOf5 Try.zeroValue5 rfl (by decide) (fun _ => rfl) (fun _ => rfl) rfl rfl (by decide) ?_)
  intro b14 w15 hb16 hx17 H18
  refine O_v rfl (C_append H18 1 rfl (bytes := 1) (l := acc) (ys := ([((UInt8.ofNat u) ||| (128 : UInt8))] : List UInt8)) Try.underlying79 rfl rfl rfl rfl rfl (by decide) rfl rfl (OwnS.sl (H18.getOwn 0 rfl) (fun _ => rfl)) (fun _ => rfl) (fun _ => rfl) (by have := num_room ha; simp only [List.length_append, List.length_cons, List.length_nil]; omega) (by decide) ?_)
  intro h19 w20 hg21 H22
  refine O_v rfl (R_assign (v := (slV h19 (acc ++ ([((UInt8.ofNat u) ||| (128 : UInt8))] : List UInt8)))) rfl ?_)
  refine O_nil (Then_n (W_reg ?_))
  refine O_v rfl (R_move (v := (.int .u64 ((u : Nat) : Int))) rfl ?_)
  refine O_v rfl (R_shr (a := ((u : Nat) : Int)) (b := ((7 : Nat) : Int)) (r := ((u / 128 : Nat) : Int)) rfl rfl (by decide) (shr_nat _ _ (by decide)) ?_)
  refine O_v rfl (R_assign (v := (.int .u64 ((u / 128 : Nat) : Int))) rfl ?_)
  refine O_nil (Blk_n (Then_n ?_))
  have H23 := H22.sub (B' := [rowR 5 1 encB h19 (acc ++ ([((UInt8.ofNat u) ||| (128 : UInt8))] : List UInt8))]) (I' := [slI (Old w) encB 1 hb b]) (List.Sublist.cons _ (List.Sublist.cons_cons _ List.Sublist.slnil)) (List.forall_mem_cons.2 ⟨List.mem_of_getElem? (i := 0) rfl, fun _ h => (nomatch h)⟩)
  refine ⟨_, ?_, (u / 128), (acc ++ ([((UInt8.ofNat u) ||| (128 : UInt8))] : List UInt8)), h19, rfl, (num_step ha (by omega)), _, envL_self ⟨rfl, rfl, rfl, trivial⟩, H23⟩
  omega
 ·have hc13 : ¬ (127 < ((u : Nat) : Int)) := (of_decide_eq_false hc13)
  refine W_exit (Then_x (Then_x (Blk_x (Then_n (W_seq (W_reg ?_))))))
  refine O_v rfl (R_move (v := (slV h7 acc)) rfl ?_)
  refine O_v rfl (R_move (v := (.int .u64 ((u : Nat) : Int))) rfl ?_)
  refine O_v rfl (R_conv_int (a := ((u : Nat) : Int)) (r := ((UInt8.ofNat u).toNat : Int)) Try.underlying120 Try.underlying5 rfl (conv_u8 _) ?_)
  refine O_v rfl (C_buildSliceL H12 (enc := encB) (val := byteV) ([(UInt8.ofNat u)] : List UInt8) Try.underlying79 Try.sizeOf5 Try.zeroValue5 rfl (by decide) (fun _ => rfl) (fun _ => rfl) rfl rfl (by decide) ?_)
  intro b24 w25 hb26 hx27 H28
  refine O_v rfl (C_append H28 1 rfl (bytes := 1) (l := acc) (ys := ([(UInt8.ofNat u)] : List UInt8)) Try.underlying79 rfl rfl rfl rfl rfl (by decide) rfl rfl (OwnS.sl (H28.getOwn 0 rfl) (fun _ => rfl)) (fun _ => rfl) (fun _ => rfl) (by have := num_room ha; simp only [List.length_append, List.length_cons, List.length_nil]; omega) (by decide) ?_)
  intro h29 w30 hg31 H32
  refine O_v rfl (R_assign (v := (slV h29 (acc ++ ([(UInt8.ofNat u)] : List UInt8)))) rfl ?_)
  refine O_nil (Then_n (W_ret ?_))
  refine ret_1 (v := (slV h29 (acc ++ ([(UInt8.ofNat u)] : List UInt8)))) Try.results68 rfl ?_
  have hE : acc ++ ([(UInt8.ofNat u)] : List UInt8) = b ++ numB n := (num_end ha (by omega))
  refine ⟨h29, ?_, H32.gr, ?_⟩
  · exact congrArg (fun l => slV h29 l) hE
  · have hO := H32.retRow 1 rfl
    exact hE ▸ hO

end Go.Proofs.Ytiknfldhommmpaa
namespace Go.Proofs.Ytiknfldhommmpaa
open Go
set_option maxRecDepth 100000
set_option linter.unusedVariables false
set_option linter.unusedSimpArgs false
theorem enc_Text_c68 : callable Try.prog 68 = true := by kernel_rfl
set_option maxHeartbeats 1000000 in
theorem enc_Text (hb : SlH) (b : List UInt8) (s : ByteArray) (w : World) (Sb : Sl (Old w) encB 1 hb b w) (hl : b.length + s.size ≤ 70368744177664) :
    Calls Try.prog 70 #[(slV hb b), (.string s)] w (Ret fun v w' => ∃ h, v = slV h (b ++ textB s) ∧ Ext w w' ∧ OwnS w.heap.size 5 1 encB h (b ++ textB s) w') := by
 refine calls_W Try.func70 rfl Try.ntmps70 rfl ?_
 have H0 := Ctx.start w nob
 have H1 := H0.addSl _ Sb (fun b hb => ⟨hb, fun _ ho => (nomatch ho)⟩)
 have LSb := Sb.len
 refine W_seq (W_reg ?_)
 refine O_v rfl (R_assign (v := (.slice none 0 0)) rfl ?_)
 refine O_nil (Then_n (W_seq (W_reg ?_)))
 refine O_v rfl (R_move (v := (slV hb b)) rfl ?_)
 refine O_v rfl (R_move (v := (.string s)) rfl ?_)
 refine O_v rfl (R_len_string Try.underlying9 rfl ?_)
 refine O_v rfl (R_callL (vs := [(slV hb b), (.int .i64 ((s.size : Nat) : Int))]) enc_Text_c68 rfl rfl ((enc_Num hb b ((s.size : Nat) : Int) w (H1.slOld 0 rfl) (by omega)).ret ?_))
 rintro _ w3 ⟨h2, rfl, hx4, ho5⟩
 have H6 := H1.addRow hx4 ho5
 refine O_v rfl (R_move (v := (.string s)) rfl ?_)
 refine O_v rfl (C_appendS H6 0 rfl (l := (b ++ numB ((s.size : Nat) : Int))) (str := s) Try.underlying79 Try.underlying9 rfl rfl rfl rfl rfl rfl (by have := numB_len s.size; simp only [List.length_append]; omega) ?_)
 intro h7 w8 hg9 H10
 refine O_v rfl (R_assign (v := (slV h7 ((b ++ numB ((s.size : Nat) : Int)) ++ s.data.toList))) rfl ?_)
 refine O_nil (Then_n (W_ret ?_))
 refine ret_1 (v := (slV h7 ((b ++ numB ((s.size : Nat) : Int)) ++ s.data.toList))) Try.results70 rfl ?_
 have hE : (b ++ numB ((s.size : Nat) : Int)) ++ s.data.toList = b ++ textB s := (List.append_assoc _ _ _)
 refine ⟨h7, ?_, H10.gr, ?_⟩
 · exact congrArg (fun l => slV h7 l) hE
 · have hO := H10.retRow 0 rfl
   exact hE ▸ hO

end Go.Proofs.Ytiknfldhommmpaa
namespace Go.Proofs.Ytiknfldhommmpaa
open Go
set_option maxRecDepth 100000
set_option linter.unusedVariables false
set_option linter.unusedSimpArgs false
theorem obj_at_c68 : callable Try.prog 68 = true := by kernel_rfl
set_option maxHeartbeats 1000000 in
theorem obj_at (hb : SlH) (b : List UInt8) (s : Stamp) (w : World) (Sb : Sl (Old w) encB 1 hb b w) (hl : b.length ≤ 35184372088832) :
    Calls Try.prog 71 #[(slV hb b), (aggOf (stampCh s))] w (Ret fun v w' => ∃ h, v = slV h (b ++ atB s) ∧ Ext w w' ∧ OwnS w.heap.size 5 1 encB h (b ++ atB s) w') := by
 refine calls_W Try.func71 rfl Try.ntmps71 rfl ?_
 have H0 := Ctx.start w nob
 have H1 := H0.addSl _ Sb (fun b hb => ⟨hb, fun _ ho => (nomatch ho)⟩)
 have LSb := Sb.len
 refine W_seq (W_reg ?_)
 refine O_v rfl (C_box H1 [[(.int .i64 s.T)], [(.int .i64 s.R)]] rfl ?_)
 intro b2 w3 hb4 hx5 H6
 refine O_v rfl (R_assign (v := (.slice none 0 0)) rfl ?_)
 refine O_nil (Then_n (W_seq ?_))
 refine W_rgd TryMixed [(0, .q false), (1, .q false), (2, .q false), (4, .q false), (5, .q false), (3, .c false), (6, .c false), (7, .q false)] (by kernel_rfl) ?_
 refine Lx_q (i := 0) rfl rfl _ (fun v7 hv8 => R_move (v := (slV hb b)) rfl ⟨rfl, Gr.refl _ _⟩) ?_
 refine Lx_q (i := 1) rfl rfl _ (fun v9 hv10 => R_fieldAddr (off := 0) (oo := 0) Try.underlying24 rfl rfl Try.sizeOf2 rfl rfl ⟨rfl, Gr.refl _ _⟩) ?_
 refine Lx_q (i := 2) rfl rfl _ (fun v11 hv12 => R_load1 (v := (.int .i64 s.T)) Try.isAgg2 rfl ((boxR_at ((H6.ext hv12).getOwn 0 rfl)).chunks 0 1 0 0 _ rfl rfl rfl) ⟨rfl, Gr.refl _ _⟩) ?_
 refine Lx_q (i := 4) rfl rfl _ (fun v13 hv14 => R_fieldAddr (off := 1) (oo := 1) Try.underlying24 rfl rfl Try.sizeOf3 rfl rfl ⟨rfl, Gr.refl _ _⟩) ?_
 refine Lx_q (i := 5) rfl rfl _ (fun v15 hv16 => R_load1 (v := (.int .i64 s.R)) Try.isAgg3 rfl ((boxR_at ((H6.ext hv16).getOwn 0 rfl)).chunks 1 1 1 1 _ rfl rfl rfl) ⟨rfl, Gr.refl _ _⟩) ?_
 refine Lx_c (i := 3) rfl rfl (fun w17 hw18 => ?_)
 have H19 := H6.ext hw18
 refine (R_callL (vs := [(slV hb b), (.int .i64 s.T)]) obj_at_c68 rfl rfl ((enc_Num hb b s.T w17 (H19.slOld 0 rfl) (by omega)).ret ?_))
 rintro _ w21 ⟨h20, rfl, hx22, ho23⟩
 have H24 := H19.addRow hx22 ho23
 refine ⟨GrF.ofExt hx22, ?_⟩
 refine Lx_c (i := 6) rfl rfl (fun w25 hw26 => ?_)
 have H27 := H24.ext hw26
 refine (R_callL (vs := [(slV h20 (b ++ numB s.T)), (.int .i64 s.R)]) obj_at_c68 rfl rfl ((enc_Num h20 (b ++ numB s.T) s.R w25 (H27.rowSl 0 rfl (fun _ => rfl)) (by have := numB_len s.T; simp only [List.length_append]; omega)).ret ?_))
 rintro _ w29 ⟨h28, rfl, hx30, ho31⟩
 have H32 := H27.addRow hx30 ho31
 refine ⟨GrF.ofExt hx30, ?_⟩
 refine Lx_q (i := 7) rfl rfl _ (fun v33 hv34 => R_assign (v := (slV h28 ((b ++ numB s.T) ++ numB s.R))) rfl ⟨rfl, Gr.refl _ _⟩) ?_
 refine Lx_nil (fun w35 hw36 => ?_)
 have H37 := H32.ext hw36
 refine Then_n (W_ret ?_)
 refine ret_1 (v := (slV h28 ((b ++ numB s.T) ++ numB s.R))) Try.results71 rfl ?_
 have hE : (b ++ numB s.T) ++ numB s.R = b ++ atB s := (List.append_assoc _ _ _)
 refine ⟨h28, ?_, H37.gr, ?_⟩
 · exact congrArg (fun l => slV h28 l) hE
 · have hO := H37.retRow 0 rfl
   exact hE ▸ hO

end Go.Proofs.Ytiknfldhommmpaa
namespace Go.Proofs.Ytiknfldhommmpaa
open Go
set_option maxRecDepth 100000
set_option linter.unusedVariables false
set_option linter.unusedSimpArgs false
set_option maxHeartbeats 1000000 in
theorem IndexFunc_Item (ha : SlH) (a : List ItemS) (kfn : FuncId) (cfn : Array Value) (f : ItemS → Bool) (w : World) (Sa : Sl (Old w) itemCh 38 ha a w) (Kfn : callable Try.prog kfn = true) (Cfn : ∀ x ∈ a, ∀ w1, Ext w w1 → Calls Try.prog kfn (#[itemV x] ++ cfn) w1 (Ret fun v w2 => v = .bool (f x) ∧ Ext w1 w2)) :
    Calls Try.prog 86 #[(slV ha a), (.func (.func kfn) #[] cfn)] w (Ret fun v w' => v = (.int .i64 (idxBy f a)) ∧ Ext w w') := by
 refine calls_W Try.func86 rfl Try.ntmps86 rfl ?_
 have H0 := Ctx.start w nob
 have H1 := H0.addSl _ Sa (fun b hb => ⟨hb, fun _ ho => (nomatch ho)⟩)
 have LSa := Sa.len
 refine W_seq (W_reg ?_)
 refine O_v rfl (R_assign (v := (.int .i64 0)) rfl ?_)
 refine O_nil (Then_n (W_seq (W_seq (W_reg ?_))))
 refine O_v rfl (R_move (v := (slV ha a)) rfl ?_)
 refine O_v rfl (R_len_slice (a := ha.a) (n := a.length) (c := ha.c) Try.underlying50 rfl ?_)
 refine O_v rfl (R_move (v := (.int .i64 0)) rfl ?_)
 refine O_nil (Then_n (W_block ?_))
 refine W_loop (fun m2 e3 w4 => ∃ (k : Nat), m2 = a.length - k ∧ (k ≤ a.length) ∧ (∀ i, i < k → f (nth a i) = false) ∧ ∃ eb5, e3 = envL [(0, (slV ha a)), (1, (.func (.func kfn) #[] cfn)), (7, (.int .i64 ((a.length : Nat) : Int))), (8, (.int .i64 ((k : Nat) : Int)))] eb5 ∧ Ctx w nob w4 [] [slI (Old w) itemCh 38 ha a]) _ ⟨0, rfl, (by omega), (all_zero _), _, envL_self ⟨rfl, rfl, rfl, rfl, trivial⟩, H1⟩ ?_
 rintro m2 _ w4 ⟨k, rfl, hk, hn, eb5, rfl, H6⟩
 refine W_seq (W_reg ?_)
 refine O_v rfl (R_cmp (a := ((k : Nat) : Int)) (b := ((a.length : Nat) : Int)) (r := (decide (((k : Nat) : Int) < ((a.length : Nat) : Int)))) rfl rfl rfl ?_)
 refine O_nil (Then_n (W_seq ?_))
 refine W_cond (t := (decide (((k : Nat) : Int) < ((a.length : Nat) : Int)))) rfl (fun hc7 => ?_) (fun hc7 => ?_)
 ·have hc7 : (((k : Nat) : Int) < ((a.length : Nat) : Int)) := (of_decide_eq_true hc7)
  refine W_skip (Then_n (W_seq (W_block (W_seq (W_reg ?_)))))
  refine O_v rfl (R_move (v := (.int .i64 ((k : Nat) : Int))) rfl ?_)
  refine O_v rfl (R_assign (v := (.int .i64 ((k : Nat) : Int))) rfl ?_)
  refine O_nil (Then_n (W_seq (W_reg ?_)))
  refine O_v rfl (R_move (v := (.func (.func kfn) #[] cfn)) rfl ?_)
  refine O_v rfl (R_move (v := (slV ha a)) rfl ?_)
  refine O_v rfl (R_move (v := (.int .i64 ((k : Nat) : Int))) rfl ?_)
  refine O_v rfl (R_index_pure (H6.sl 0 rfl) (n := a.length) rfl (j := ((k : Nat) : Int)) (oo := (ha.o + k * 38)) Try.underlying50 Try.sizeOf48 rfl rfl (by omega) (by omega) rfl ?_)
  refine O_v rfl (R_loadA (cs := [[(.int .i64 (((nth a k).node).T))], [(.int .i64 (((nth a k).node).R))], [(.int .i64 (((nth a k).tm).T))], [(.int .i64 (((nth a k).tm).R))], [(.string ((nth a k).name))], (idCells ((nth a k).sub)), [(slV ((nth a k).hh) ((nth a k).heads))]]) Try.isAgg48 Try.sizeOf48 rfl rfl ((Sl.elem (H6.sl 0 rfl) (i := k) (by omega) rfl).chunks 0 7 0 (ha.o + k * 38) _ rfl rfl rfl) ?_)
  refine O_v rfl (R_callV (vs := [(aggOf (itemCh (nth a k)))]) Kfn rfl rfl ((Cfn _ (nth_mem (by omega)) w4 H6.gr).ret ?_))
  rintro _ w8 ⟨rfl, hx9⟩
  have H10 := H6.ext hx9
  refine O_nil (Then_n ?_)
  refine W_cond (t := (f (nth a k))) rfl (fun hc11 => ?_) (fun hc11 => ?_)
  ·have hc11 : (f (nth a k)) = true := hc11
   refine W_seq (W_reg ?_)
   refine O_v rfl (R_move (v := (.int .i64 ((k : Nat) : Int))) rfl ?_)
   refine O_v rfl (R_assign (v := (.int .i64 ((k : Nat) : Int))) rfl ?_)
   refine O_nil (Then_n (W_ret (Blk_r (Then_r (Then_r (Blk_r (Then_r ?_)))))))
   refine ret_1 (v := (.int .i64 ((k : Nat) : Int))) Try.results86 rfl ?_
   exact ⟨(by rw [idxBy_at hn (by omega) (by assumption)]), H10.gr⟩
  ·have hc11 : (f (nth a k)) = false := hc11
   refine W_skip (Blk_n (Then_n (W_reg ?_)))
   refine O_v rfl (R_arith (a := ((k : Nat) : Int)) (b := 1) (r0 := ((k : Nat) : Int) + 1) (r := ((k + 1 : Nat) : Int)) rfl rfl rfl (wrapN _ (by omega)) ?_)
   refine O_v rfl (R_move (v := (.int .i64 ((k + 1 : Nat) : Int))) rfl ?_)
   refine O_nil (Then_n ?_)
   refine ⟨_, ?_, (k + 1), rfl, (by omega), (all_succ hn (by assumption)), _, envL_self ⟨rfl, rfl, rfl, rfl, trivial⟩, H10⟩
   omega
 ·have hc7 : ¬ (((k : Nat) : Int) < ((a.length : Nat) : Int)) := (of_decide_eq_false hc7)
  refine W_exit (Then_x (Then_x (Blk_x (Then_n (W_seq (W_reg ?_))))))
  refine O_v rfl (R_assign (v := (.int .i64 (-1))) rfl ?_)
  refine O_nil (Then_n (W_ret ?_))
  refine ret_1 (v := (.int .i64 (-1))) Try.results86 rfl ?_
  exact ⟨(by rw [idxBy_none (by rwa [show a.length = k from by omega])]), H6.gr⟩

end Go.Proofs.Ytiknfldhommmpaa
namespace Go.Proofs.Ytiknfldhommmpaa
open Go
set_option maxRecDepth 100000
set_option linter.unusedVariables false
set_option linter.unusedSimpArgs false
theorem ContainsFunc_Item_c86 : callable Try.prog 86 = true := by kernel_rfl
set_option maxHeartbeats 1000000 in
theorem ContainsFunc_Item (ha : SlH) (a : List ItemS) (kfn : FuncId) (cfn : Array Value) (f : ItemS → Bool) (w : World) (Sa : Sl (Old w) itemCh 38 ha a w) (Kfn : callable Try.prog kfn = true) (Cfn : ∀ x ∈ a, ∀ w1, Ext w w1 → Calls Try.prog kfn (#[itemV x] ++ cfn) w1 (Ret fun v w2 => v = .bool (f x) ∧ Ext w1 w2)) :
    Calls Try.prog 77 #[(slV ha a), (.func (.func kfn) #[] cfn)] w (Ret fun v w' => v = (.bool (a.any f)) ∧ Ext w w') := by
 refine calls_W Try.func77 rfl Try.ntmps77 rfl ?_
 have H0 := Ctx.start w nob
 have H1 := H0.addSl _ Sa (fun b hb => ⟨hb, fun _ ho => (nomatch ho)⟩)
 have LSa := Sa.len
 refine W_seq (W_reg ?_)
 refine O_v rfl (R_assign (v := (.bool false)) rfl ?_)
 refine O_nil (Then_n (W_seq (W_reg ?_)))
 refine O_v rfl (R_move (v := (slV ha a)) rfl ?_)
 refine O_v rfl (R_move (v := (.func (.func kfn) #[] cfn)) rfl ?_)
 refine O_v rfl (R_callL (vs := [(slV ha a), (.func (.func kfn) #[] cfn)]) ContainsFunc_Item_c86 rfl rfl ((IndexFunc_Item ha a kfn cfn f w (H1.slOld 0 rfl) Kfn (fun x hx w1 he => Cfn x hx w1 (H1.gr.trans he))).ret ?_))
 rintro _ w2 ⟨rfl, hx3⟩
 have H4 := H1.ext hx3
 refine O_v rfl (R_cmp (a := idxBy f a) (b := 0) (r := (decide (0 ≤ idxBy f a))) rfl rfl rfl ?_)
 refine O_v rfl (R_assign (v := (.bool (decide (0 ≤ idxBy f a)))) rfl ?_)
 refine O_nil (Then_n (W_ret ?_))
 refine ret_1 (v := (.bool (decide (0 ≤ idxBy f a)))) Try.results77 rfl ?_
 exact ⟨(boolIdx f a), H4.gr⟩

end Go.Proofs.Ytiknfldhommmpaa
namespace Go.Proofs.Ytiknfldhommmpaa
open Go
set_option maxRecDepth 100000
set_option linter.unusedVariables false
set_option linter.unusedSimpArgs false
theorem rightItem_1_c47 : callable Try.prog 47 = true := by kernel_rfl
set_option maxHeartbeats 1000000 in
theorem rightItem_1 (a : Head) (b : Head) (w : World) :
    Calls Try.prog 88 #[(aggOf (headCh a)), (aggOf (headCh b))] w (Ret fun v w' => v = (.int .i64 (cmpSt a.tm b.tm)) ∧ Ext w w') := by
 refine calls_W Try.func88 rfl Try.ntmps88 rfl ?_
 have H0 := Ctx.start w nob
 refine W_seq (W_reg ?_)
 refine O_v rfl (C_box H0 [[(.int .i64 a.tm.T)], [(.int .i64 a.tm.R)], (idCells a.data)] rfl ?_)
 intro b1 w2 hb3 hx4 H5
 refine O_v rfl (C_box H5 [[(.int .i64 b.tm.T)], [(.int .i64 b.tm.R)], (idCells b.data)] rfl ?_)
 intro b6 w7 hb8 hx9 H10
 refine O_v rfl (R_assign (v := (.int .i64 0)) rfl ?_)
 refine O_nil (Then_n (W_seq (W_reg ?_)))
 refine O_v rfl (R_fieldAddr (off := 0) (oo := 0) Try.underlying62 rfl rfl Try.sizeOf24 rfl rfl ?_)
 refine O_v rfl (R_loadA (cs := [[(.int .i64 a.tm.T)], [(.int .i64 a.tm.R)]]) Try.isAgg24 Try.sizeOf24 rfl rfl ((boxR_at (H10.getOwn 1 rfl)).chunks 0 2 0 0 _ rfl rfl rfl) ?_)
 refine O_v rfl (R_fieldAddr (off := 0) (oo := 0) Try.underlying62 rfl rfl Try.sizeOf24 rfl rfl ?_)
 refine O_v rfl (R_loadA (cs := [[(.int .i64 b.tm.T)], [(.int .i64 b.tm.R)]]) Try.isAgg24 Try.sizeOf24 rfl rfl ((boxR_at (H10.getOwn 0 rfl)).chunks 0 2 0 0 _ rfl rfl rfl) ?_)
 refine O_v rfl (R_callL (vs := [(aggOf (stampCh a.tm)), (aggOf (stampCh b.tm))]) rightItem_1_c47 rfl rfl ((stamp_Cmp a.tm b.tm w7 ).ret ?_))
 rintro _ w11 ⟨rfl, hx12⟩
 have H13 := H10.ext hx12
 refine O_v rfl (R_assign (v := (.int .i64 (cmpSt a.tm b.tm))) rfl ?_)
 refine O_nil (Then_n (W_ret ?_))
 refine ret_1 (v := (.int .i64 (cmpSt a.tm b.tm))) Try.results88 rfl ?_
 exact ⟨rfl, H13.gr⟩

end Go.Proofs.Ytiknfldhommmpaa
namespace Go.Proofs.Ytiknfldhommmpaa
open Go
set_option maxRecDepth 100000
set_option linter.unusedVariables false
set_option linter.unusedSimpArgs false
set_option maxHeartbeats 1000000 in
theorem rise_Head (ha : SlH) (a : List Head) (kcmp : FuncId) (ccmp : Array Value) (f : Head → Head → Int) (w : World) (Sa : Sl (Old w) headCh 34 ha a w) (Kcmp : callable Try.prog kcmp = true) (Ccmp : ∀ x ∈ a, ∀ y ∈ a, ∀ w1, Ext w w1 → Calls Try.prog kcmp (#[headV x, headV y] ++ ccmp) w1 (Ret fun v w2 => v = .int .i64 (f x y) ∧ Ext w1 w2)) :
    Calls Try.prog 87 #[(slV ha a), (.func (.func kcmp) #[] ccmp)] w (Ret fun v w' => v = (.bool (riseBy f a)) ∧ Ext w w') := by
 refine calls_W Try.func87 rfl Try.ntmps87 rfl ?_
 have H0 := Ctx.start w nob
 have H1 := H0.addSl _ Sa (fun b hb => ⟨hb, fun _ ho => (nomatch ho)⟩)
 have LSa := Sa.len
 refine W_seq (W_reg ?_)
 refine O_v rfl (R_assign (v := (.bool false)) rfl ?_)
 refine O_nil (Then_n (W_seq (W_seq (W_reg ?_))))
 refine O_v rfl (R_assign (v := (.int .i64 1)) rfl ?_)
 refine O_nil (Then_n (W_block ?_))
 refine W_loop (fun m2 e3 w4 => ∃ (k : Nat), m2 = a.length - k ∧ (1 ≤ k) ∧ (k ≤ max a.length 1) ∧ (∀ i, i < k → 1 ≤ i → f (nth a (i - 1)) (nth a i) < 0) ∧ ∃ eb5, e3 = envL [(0, (slV ha a)), (1, (.func (.func kcmp) #[] ccmp)), (5, (.int .i64 ((k : Nat) : Int)))] eb5 ∧ Ctx w nob w4 [] [slI (Old w) headCh 34 ha a]) _ ⟨1, rfl, (by omega), (by omega), (fun i h1 h2 => by omega), _, envL_self ⟨rfl, rfl, rfl, trivial⟩, H1⟩ ?_
 rintro m2 _ w4 ⟨k, rfl, h1, hk, hn, eb5, rfl, H6⟩
 refine W_seq (W_seq (W_reg ?_))
 refine O_v rfl (R_move (v := (.int .i64 ((k : Nat) : Int))) rfl ?_)
 refine O_v rfl (R_move (v := (slV ha a)) rfl ?_)
 refine O_v rfl (R_len_slice (a := ha.a) (n := a.length) (c := ha.c) Try.underlying42 rfl ?_)
 refine O_v rfl (R_cmp (a := ((k : Nat) : Int)) (b := ((a.length : Nat) : Int)) (r := (decide (((k : Nat) : Int) < ((a.length : Nat) : Int)))) rfl rfl rfl ?_)
 refine O_nil (Then_n ?_)
 refine W_cond (t := (decide (((k : Nat) : Int) < ((a.length : Nat) : Int)))) rfl (fun hc7 => ?_) (fun hc7 => ?_)
 ·have hc7 : (((k : Nat) : Int) < ((a.length : Nat) : Int)) := (of_decide_eq_true hc7)
  refine W_skip (Then_n (W_seq (W_block (W_seq ?_))))
  refine W_rgd TryMixed [(0, .q false), (1, .q false), (2, .q false), (3, .q false), (4, .q false), (5, .q false), (6, .q false), (7, .q false), (8, .q false), (9, .q false), (10, .q false), (11, .q false)] (by kernel_rfl) ?_
  refine Lx_q (i := 0) rfl rfl _ (fun v8 hv9 => R_move (v := (.func (.func kcmp) #[] ccmp)) rfl ⟨rfl, Gr.refl _ _⟩) ?_
  refine Lx_q (i := 1) rfl rfl _ (fun v10 hv11 => R_move (v := (slV ha a)) rfl ⟨rfl, Gr.refl _ _⟩) ?_
  refine Lx_q (i := 2) rfl rfl _ (fun v12 hv13 => R_move (v := (.int .i64 ((k : Nat) : Int))) rfl ⟨rfl, Gr.refl _ _⟩) ?_
  refine Lx_q (i := 3) rfl rfl _ (fun v14 hv15 => R_arith (a := ((k : Nat) : Int)) (b := 1) (r0 := ((k : Nat) : Int) - 1) (r := ((k - 1 : Nat) : Int)) rfl rfl rfl (wrapP _ (by omega) (by omega)) ⟨rfl, Gr.refl _ _⟩) ?_
  refine Lx_q (i := 4) rfl rfl _ (fun v16 hv17 => R_index_pure (H6.sl 0 rfl) (n := a.length) rfl (j := ((k - 1 : Nat) : Int)) (oo := (ha.o + (k - 1) * 34)) Try.underlying42 Try.sizeOf62 rfl rfl (by omega) (by omega) rfl ⟨rfl, Gr.refl _ _⟩) ?_
  refine Lx_q (i := 5) rfl rfl _ (fun v18 hv19 => R_loadA (cs := [[(.int .i64 (((nth a (k - 1)).tm).T))], [(.int .i64 (((nth a (k - 1)).tm).R))], (idCells ((nth a (k - 1)).data))]) Try.isAgg62 Try.sizeOf62 rfl rfl ((Sl.elem ((H6.ext hv19).sl 0 rfl) (i := (k - 1)) (by omega) rfl).chunks 0 3 0 (ha.o + (k - 1) * 34) _ rfl rfl rfl) ⟨rfl, Gr.refl _ _⟩) ?_
  refine Lx_q (i := 6) rfl rfl _ (fun v20 hv21 => R_move (v := (slV ha a)) rfl ⟨rfl, Gr.refl _ _⟩) ?_
  refine Lx_q (i := 7) rfl rfl _ (fun v22 hv23 => R_move (v := (.int .i64 ((k : Nat) : Int))) rfl ⟨rfl, Gr.refl _ _⟩) ?_
  refine Lx_q (i := 8) rfl rfl _ (fun v24 hv25 => R_index_pure (H6.sl 0 rfl) (n := a.length) rfl (j := ((k : Nat) : Int)) (oo := (ha.o + k * 34)) Try.underlying42 Try.sizeOf62 rfl rfl (by omega) (by omega) rfl ⟨rfl, Gr.refl _ _⟩) ?_
  refine Lx_q (i := 9) rfl rfl _ (fun v26 hv27 => R_loadA (cs := [[(.int .i64 (((nth a k).tm).T))], [(.int .i64 (((nth a k).tm).R))], (idCells ((nth a k).data))]) Try.isAgg62 Try.sizeOf62 rfl rfl ((Sl.elem ((H6.ext hv27).sl 0 rfl) (i := k) (by omega) rfl).chunks 0 3 0 (ha.o + k * 34) _ rfl rfl rfl) ⟨rfl, Gr.refl _ _⟩) ?_
  refine Lx_q (i := 10) rfl rfl (.int .i64 (f (nth a (k - 1)) (nth a k))) (fun v28 hv29 => R_callV (vs := [(aggOf (headCh (nth a (k - 1)))), (aggOf (headCh (nth a k)))]) Kcmp rfl rfl (Ccmp _ (nth_mem (by omega)) _ (nth_mem (by omega)) v28 (H6.ext hv29).gr)) ?_
  refine Lx_q (i := 11) rfl rfl _ (fun v30 hv31 => R_cmp (a := f (nth a (k - 1)) (nth a k)) (b := 0) (r := (decide (0 ≤ f (nth a (k - 1)) (nth a k)))) rfl rfl rfl ⟨rfl, Gr.refl _ _⟩) ?_
  refine Lx_nil (fun w32 hw33 => ?_)
  have H34 := H6.ext hw33
  refine Then_n ?_
  refine W_cond (t := (decide (0 ≤ f (nth a (k - 1)) (nth a k)))) rfl (fun hc35 => ?_) (fun hc35 => ?_)
  ·have hc35 : (0 ≤ f (nth a (k - 1)) (nth a k)) := (of_decide_eq_true hc35)
   refine W_seq (W_reg ?_)
   refine O_v rfl (R_assign (v := (.bool false)) rfl ?_)
   refine O_nil (Then_n (W_ret (Blk_r (Then_r (Then_r (Blk_r (Then_r ?_)))))))
   refine ret_1 (v := (.bool false)) Try.results87 rfl ?_
   exact ⟨(boolF (fun h => by have := h k (by omega) (by omega); omega)), H34.gr⟩
  ·have hc35 : ¬ (0 ≤ f (nth a (k - 1)) (nth a k)) := (of_decide_eq_false hc35)
   refine W_skip (Blk_n (Then_n (W_reg ?_)))
   refine O_v rfl (R_move (v := (.int .i64 ((k : Nat) : Int))) rfl ?_)
   refine O_v rfl (R_arith (a := ((k : Nat) : Int)) (b := 1) (r0 := ((k : Nat) : Int) + 1) (r := ((k + 1 : Nat) : Int)) rfl rfl rfl (wrapN _ (by omega)) ?_)
   refine O_v rfl (R_assign (v := (.int .i64 ((k + 1 : Nat) : Int))) rfl ?_)
   refine O_nil (Then_n ?_)
   refine ⟨_, ?_, (k + 1), rfl, (by omega), (by omega), (rise_succ hn (by omega)), _, envL_self ⟨rfl, rfl, rfl, trivial⟩, H34⟩
   omega
 ·have hc7 : ¬ (((k : Nat) : Int) < ((a.length : Nat) : Int)) := (of_decide_eq_false hc7)
  refine W_exit (Then_x (Then_x (Blk_x (Then_n (W_seq (W_reg ?_))))))
  refine O_v rfl (R_assign (v := (.bool true)) rfl ?_)
  refine O_nil (Then_n (W_ret ?_))
  refine ret_1 (v := (.bool true)) Try.results87 rfl ?_
  exact ⟨(boolT (fun i h1 h2 => hn i (by omega) h2)), H6.gr⟩

end Go.Proofs.Ytiknfldhommmpaa
namespace Go.Proofs.Ytiknfldhommmpaa
open Go
set_option maxRecDepth 100000
set_option linter.unusedVariables false
set_option linter.unusedSimpArgs false
theorem obj_rightItem_c35 : callable Try.prog 35 = true := by kernel_rfl
theorem obj_rightItem_c47 : callable Try.prog 47 = true := by kernel_rfl
theorem obj_rightItem_c85 : callable Try.prog 85 = true := by kernel_rfl
theorem obj_rightItem_c87 : callable Try.prog 87 = true := by kernel_rfl
theorem obj_rightItem_c88 : callable Try.prog 88 = true := by kernel_rfl
set_option maxHeartbeats 2000000 in
theorem obj_rightItem (x : ItemS) (w : World) (Sx_heads : Sl (Old w) headCh 34 x.hh x.heads w) :
    Calls Try.prog 79 #[(aggOf (itemCh x))] w (Ret fun v w' => v = (.bool (itemOkS x)) ∧ Ext w w') := by
 refine calls_W Try.func79 rfl Try.ntmps79 rfl ?_
 have H0 := Ctx.start w nob
 have H1 := H0.addSl _ Sx_heads (fun b hb => ⟨hb, fun _ ho => (nomatch ho)⟩)
 have LSx_heads := Sx_heads.len
 refine W_seq (W_reg ?_)
 refine O_v rfl (C_box H1 [[(.int .i64 x.node.T)], [(.int .i64 x.node.R)], [(.int .i64 x.tm.T)], [(.int .i64 x.tm.R)], [(.string x.name)], (idCells x.sub), [(slV x.hh x.heads)]] rfl ?_)
 intro b2 w3 hb4 hx5 H6
 refine O_v rfl (R_assign (v := (.bool false)) rfl ?_)
 refine O_nil (Then_n (W_seq (W_seq ?_)))
 refine W_rg [(0, .q false), (1, .q false), (2, .q false), (3, .q false), (4, .q false), (5, .q false), (6, .q false), (7, .q false), (8, .q false), (9, .q false), (10, .q false), (11, .q false), (12, .q false), (13, .q false), (14, .q false), (15, .q false), (16, .q false), (17, .q false), (18, .q false), (19, .q false), (20, .q false), (21, .q false), (22, .q false), (23, .q false), (24, .q false), (25, .q false), (26, .q false), (27, .q false), (28, .q false), (29, .q false)] (by kernel_rfl) ?_
 refine Lx_q (i := 0) rfl rfl _ (fun v7 hv8 => R_fieldAddr (off := 0) (oo := 0) Try.underlying48 rfl rfl Try.sizeOf24 rfl rfl ⟨rfl, Gr.refl _ _⟩) ?_
 refine Lx_q (i := 1) rfl rfl _ (fun v9 hv10 => R_loadA (cs := [[(.int .i64 x.node.T)], [(.int .i64 x.node.R)]]) Try.isAgg24 Try.sizeOf24 rfl rfl ((boxR_at ((H6.ext hv10).getOwn 0 rfl)).chunks 0 2 0 0 _ rfl rfl rfl) ⟨rfl, Gr.refl _ _⟩) ?_
 refine Lx_q (i := 2) rfl rfl (.bool (stRight x.node)) (fun v11 hv12 => R_callL (vs := [(aggOf (stampCh x.node))]) obj_rightItem_c35 rfl rfl (stamp_Right x.node v11 )) ?_
 refine Lx_q (i := 3) rfl rfl _ (fun v13 hv14 => R_not rfl ⟨rfl, Gr.refl _ _⟩) ?_
 refine Lx_q (i := 4) rfl rfl _ (fun v15 hv16 => R_move (v := (.bool (!(stRight x.node)))) rfl ⟨rfl, Gr.refl _ _⟩) ?_
 refine Lx_qg (i := 5) true (!(stRight x.node)) rfl rfl rfl rfl rfl (!(!(stRight x.node))) ga_f _ (fun hA v17 hv18 => R_fieldAddr (off := 2) (oo := 2) Try.underlying48 rfl rfl Try.sizeOf24 rfl rfl ⟨rfl, Gr.refl _ _⟩) ?_
 refine Lx_qg (i := 6) true (!(stRight x.node)) rfl rfl rfl rfl rfl (!(!(stRight x.node))) ga_f _ (fun hA v19 hv20 => R_loadA (cs := [[(.int .i64 x.tm.T)], [(.int .i64 x.tm.R)]]) Try.isAgg24 Try.sizeOf24 rfl (gv_t hA) ((boxR_at ((H6.ext hv20).getOwn 0 rfl)).chunks 2 2 2 2 _ rfl rfl rfl) ⟨rfl, Gr.refl _ _⟩) ?_
 refine Lx_qg (i := 7) true (!(stRight x.node)) rfl rfl rfl rfl rfl (!(!(stRight x.node))) ga_f (.bool (stRight x.tm)) (fun hA v21 hv22 => R_callL (vs := [(aggOf (stampCh x.tm))]) obj_rightItem_c35 rfl (lst1 (gv_t hA)) (stamp_Right x.tm v21 )) ?_
 refine Lx_qg (i := 8) true (!(stRight x.node)) rfl rfl rfl rfl rfl (!(!(stRight x.node))) ga_f _ (fun hA v23 hv24 => R_not (gv_t hA) ⟨rfl, Gr.refl _ _⟩) ?_
 refine Lx_q (i := 9) rfl rfl _ (fun v25 hv26 => R_pick (t := (!(stRight x.node))) (v := (.bool ((!(stRight x.node)) || (!(stRight x.tm))))) rfl pk_or ⟨rfl, Gr.refl _ _⟩) ?_
 refine Lx_q (i := 10) rfl rfl _ (fun v27 hv28 => R_move (v := (.bool ((!(stRight x.node)) || (!(stRight x.tm))))) rfl ⟨rfl, Gr.refl _ _⟩) ?_
 refine Lx_qg (i := 11) true ((!(stRight x.node)) || (!(stRight x.tm))) rfl rfl rfl rfl rfl (!((!(stRight x.node)) || (!(stRight x.tm)))) ga_f _ (fun hA v29 hv30 => R_fieldAddr (off := 2) (oo := 2) Try.underlying48 rfl rfl Try.sizeOf24 rfl rfl ⟨rfl, Gr.refl _ _⟩) ?_
 refine Lx_qg (i := 12) true ((!(stRight x.node)) || (!(stRight x.tm))) rfl rfl rfl rfl rfl (!((!(stRight x.node)) || (!(stRight x.tm)))) ga_f _ (fun hA v31 hv32 => R_loadA (cs := [[(.int .i64 x.tm.T)], [(.int .i64 x.tm.R)]]) Try.isAgg24 Try.sizeOf24 rfl (gv_t hA) ((boxR_at ((H6.ext hv32).getOwn 0 rfl)).chunks 2 2 2 2 _ rfl rfl rfl) ⟨rfl, Gr.refl _ _⟩) ?_
 refine Lx_qg (i := 13) true ((!(stRight x.node)) || (!(stRight x.tm))) rfl rfl rfl rfl rfl (!((!(stRight x.node)) || (!(stRight x.tm)))) ga_f _ (fun hA v33 hv34 => R_fieldAddr (off := 0) (oo := 0) Try.underlying48 rfl rfl Try.sizeOf24 rfl rfl ⟨rfl, Gr.refl _ _⟩) ?_
 refine Lx_qg (i := 14) true ((!(stRight x.node)) || (!(stRight x.tm))) rfl rfl rfl rfl rfl (!((!(stRight x.node)) || (!(stRight x.tm)))) ga_f _ (fun hA v35 hv36 => R_loadA (cs := [[(.int .i64 x.node.T)], [(.int .i64 x.node.R)]]) Try.isAgg24 Try.sizeOf24 rfl (gv_t hA) ((boxR_at ((H6.ext hv36).getOwn 0 rfl)).chunks 0 2 0 0 _ rfl rfl rfl) ⟨rfl, Gr.refl _ _⟩) ?_
 refine Lx_qg (i := 15) true ((!(stRight x.node)) || (!(stRight x.tm))) rfl rfl rfl rfl rfl (!((!(stRight x.node)) || (!(stRight x.tm)))) ga_f (.int .i64 (cmpSt x.tm x.node)) (fun hA v37 hv38 => R_callL (vs := [(aggOf (stampCh x.tm)), (aggOf (stampCh x.node))]) obj_rightItem_c47 rfl (lst2 (gv_t hA) (gv_t hA)) (stamp_Cmp x.tm x.node v37 )) ?_
 refine Lx_qg (i := 16) true ((!(stRight x.node)) || (!(stRight x.tm))) rfl rfl rfl rfl rfl (!((!(stRight x.node)) || (!(stRight x.tm)))) ga_f _ (fun hA v39 hv40 => R_cmp (a := cmpSt x.tm x.node) (b := 0) (r := (decide (cmpSt x.tm x.node < 0))) (gv_t hA) rfl rfl ⟨rfl, Gr.refl _ _⟩) ?_
 refine Lx_q (i := 17) rfl rfl _ (fun v41 hv42 => R_pick (t := ((!(stRight x.node)) || (!(stRight x.tm)))) (v := (.bool (((!(stRight x.node)) || (!(stRight x.tm))) || (decide (cmpSt x.tm x.node < 0))))) rfl pk_or ⟨rfl, Gr.refl _ _⟩) ?_
 refine Lx_q (i := 18) rfl rfl _ (fun v43 hv44 => R_move (v := (.bool (((!(stRight x.node)) || (!(stRight x.tm))) || (decide (cmpSt x.tm x.node < 0))))) rfl ⟨rfl, Gr.refl _ _⟩) ?_
 refine Lx_qg (i := 19) true (((!(stRight x.node)) || (!(stRight x.tm))) || (decide (cmpSt x.tm x.node < 0))) rfl rfl rfl rfl rfl (!(((!(stRight x.node)) || (!(stRight x.tm))) || (decide (cmpSt x.tm x.node < 0)))) ga_f _ (fun hA v45 hv46 => R_fieldAddr (off := 4) (oo := 4) Try.underlying48 rfl rfl Try.sizeOf9 rfl rfl ⟨rfl, Gr.refl _ _⟩) ?_
 refine Lx_qg (i := 20) true (((!(stRight x.node)) || (!(stRight x.tm))) || (decide (cmpSt x.tm x.node < 0))) rfl rfl rfl rfl rfl (!(((!(stRight x.node)) || (!(stRight x.tm))) || (decide (cmpSt x.tm x.node < 0)))) ga_f _ (fun hA v47 hv48 => R_load1 (v := (.string x.name)) Try.isAgg9 (gv_t hA) ((boxR_at ((H6.ext hv48).getOwn 0 rfl)).chunks 4 1 4 4 _ rfl rfl rfl) ⟨rfl, Gr.refl _ _⟩) ?_
 refine Lx_qg (i := 21) true (((!(stRight x.node)) || (!(stRight x.tm))) || (decide (cmpSt x.tm x.node < 0))) rfl rfl rfl rfl rfl (!(((!(stRight x.node)) || (!(stRight x.tm))) || (decide (cmpSt x.tm x.node < 0)))) ga_f (.bool (nameOk x.name)) (fun hA v49 hv50 => R_callL (vs := [(.string x.name)]) obj_rightItem_c85 rfl (lst1 (gv_t hA)) (stamp_Name x.name v49 )) ?_
 refine Lx_qg (i := 22) true (((!(stRight x.node)) || (!(stRight x.tm))) || (decide (cmpSt x.tm x.node < 0))) rfl rfl rfl rfl rfl (!(((!(stRight x.node)) || (!(stRight x.tm))) || (decide (cmpSt x.tm x.node < 0)))) ga_f _ (fun hA v51 hv52 => R_not (gv_t hA) ⟨rfl, Gr.refl _ _⟩) ?_
 refine Lx_q (i := 23) rfl rfl _ (fun v53 hv54 => R_pick (t := (((!(stRight x.node)) || (!(stRight x.tm))) || (decide (cmpSt x.tm x.node < 0)))) (v := (.bool ((((!(stRight x.node)) || (!(stRight x.tm))) || (decide (cmpSt x.tm x.node < 0))) || (!(nameOk x.name))))) rfl pk_or ⟨rfl, Gr.refl _ _⟩) ?_
 refine Lx_q (i := 24) rfl rfl _ (fun v55 hv56 => R_move (v := (.bool ((((!(stRight x.node)) || (!(stRight x.tm))) || (decide (cmpSt x.tm x.node < 0))) || (!(nameOk x.name))))) rfl ⟨rfl, Gr.refl _ _⟩) ?_
 refine Lx_qg (i := 25) true ((((!(stRight x.node)) || (!(stRight x.tm))) || (decide (cmpSt x.tm x.node < 0))) || (!(nameOk x.name))) rfl rfl rfl rfl rfl (!((((!(stRight x.node)) || (!(stRight x.tm))) || (decide (cmpSt x.tm x.node < 0))) || (!(nameOk x.name)))) ga_f _ (fun hA v57 hv58 => R_fieldAddr (off := 37) (oo := 37) Try.underlying48 rfl rfl Try.sizeOf42 rfl rfl ⟨rfl, Gr.refl _ _⟩) ?_
 refine Lx_qg (i := 26) true ((((!(stRight x.node)) || (!(stRight x.tm))) || (decide (cmpSt x.tm x.node < 0))) || (!(nameOk x.name))) rfl rfl rfl rfl rfl (!((((!(stRight x.node)) || (!(stRight x.tm))) || (decide (cmpSt x.tm x.node < 0))) || (!(nameOk x.name)))) ga_f _ (fun hA v59 hv60 => R_load1 (v := (slV x.hh x.heads)) Try.isAgg42 (gv_t hA) ((boxR_at ((H6.ext hv60).getOwn 0 rfl)).chunks 6 1 37 37 _ rfl rfl rfl) ⟨rfl, Gr.refl _ _⟩) ?_
 refine Lx_qg (i := 27) true ((((!(stRight x.node)) || (!(stRight x.tm))) || (decide (cmpSt x.tm x.node < 0))) || (!(nameOk x.name))) rfl rfl rfl rfl rfl (!((((!(stRight x.node)) || (!(stRight x.tm))) || (decide (cmpSt x.tm x.node < 0))) || (!(nameOk x.name)))) ga_f _ (fun hA v61 hv62 => R_len_slice (a := x.hh.a) (n := x.heads.length) (c := x.hh.c) Try.underlying42 (gv_t hA) ⟨rfl, Gr.refl _ _⟩) ?_
 refine Lx_qg (i := 28) true ((((!(stRight x.node)) || (!(stRight x.tm))) || (decide (cmpSt x.tm x.node < 0))) || (!(nameOk x.name))) rfl rfl rfl rfl rfl (!((((!(stRight x.node)) || (!(stRight x.tm))) || (decide (cmpSt x.tm x.node < 0))) || (!(nameOk x.name)))) ga_f _ (fun hA v63 hv64 => R_cmp (a := ((x.heads.length : Nat) : Int)) (b := 1000) (r := (decide (1000 < ((x.heads.length : Nat) : Int)))) (gv_t hA) rfl rfl ⟨rfl, Gr.refl _ _⟩) ?_
 refine Lx_q (i := 29) rfl rfl _ (fun v65 hv66 => R_pick (t := ((((!(stRight x.node)) || (!(stRight x.tm))) || (decide (cmpSt x.tm x.node < 0))) || (!(nameOk x.name)))) (v := (.bool (((((!(stRight x.node)) || (!(stRight x.tm))) || (decide (cmpSt x.tm x.node < 0))) || (!(nameOk x.name))) || (decide (1000 < ((x.heads.length : Nat) : Int)))))) rfl pk_or ⟨rfl, Gr.refl _ _⟩) ?_
 refine Lx_nil (fun w67 hw68 => ?_)
 have H69 := H6.ext hw68
 refine Then_n ?_
 refine W_cond (t := (((((!(stRight x.node)) || (!(stRight x.tm))) || (decide (cmpSt x.tm x.node < 0))) || (!(nameOk x.name))) || (decide (1000 < ((x.heads.length : Nat) : Int))))) rfl (fun hc70 => ?_) (fun hc70 => ?_)
 ·have hc70 : (((((stRight x.node) = false ∨ (stRight x.tm) = false) ∨ (cmpSt x.tm x.node < 0)) ∨ (nameOk x.name) = false) ∨ (1000 < ((x.heads.length : Nat) : Int))) := (Or.imp (fun h => (Or.imp (fun h => (Or.imp (fun h => (Or.imp (fun h => (notT h)) (fun h => (notT h)) (orT h))) (fun h => (of_decide_eq_true h)) (orT h))) (fun h => (notT h)) (orT h))) (fun h => (of_decide_eq_true h)) (orT hc70))
  refine W_seq (W_reg ?_)
  refine O_v rfl (R_assign (v := (.bool false)) rfl ?_)
  refine O_nil (Then_n (W_ret (Then_r ?_)))
  refine ret_1 (v := (.bool false)) Try.results79 rfl ?_
  exact ⟨(itemOk_f1 (by assumption)), H69.gr⟩
 ·have hc70 : (((((stRight x.node) = true ∧ (stRight x.tm) = true) ∧ ¬ (cmpSt x.tm x.node < 0)) ∧ (nameOk x.name) = true) ∧ ¬ (1000 < ((x.heads.length : Nat) : Int))) := (And.imp (fun h => (And.imp (fun h => (And.imp (fun h => (And.imp (fun h => (notF h)) (fun h => (notF h)) (orF h))) (fun h => (of_decide_eq_false h)) (orF h))) (fun h => (notF h)) (orF h))) (fun h => (of_decide_eq_false h)) (orF hc70))
  refine W_skip (Then_n (W_seq (W_seq (W_reg ?_))))
  refine O_v rfl (R_fieldAddr (off := 37) (oo := 37) Try.underlying48 rfl rfl Try.sizeOf42 rfl rfl ?_)
  refine O_v rfl (R_load1 (v := (slV x.hh x.heads)) Try.isAgg42 rfl ((boxR_at (H69.getOwn 0 rfl)).chunks 6 1 37 37 _ rfl rfl rfl) ?_)
  refine O_v rfl (R_len_slice (a := x.hh.a) (n := x.heads.length) (c := x.hh.c) Try.underlying42 rfl ?_)
  refine O_v rfl (R_move (v := (.int .i64 0)) rfl ?_)
  refine O_nil (Then_n (W_block ?_))
  refine W_loop (fun m71 e72 w73 => ∃ (k : Nat), m71 = x.heads.length - k ∧ (k ≤ x.heads.length) ∧ (∀ i, i < k → itemHead1 x.node x.heads i) ∧ ∃ eb74, e72 = envL [(1, (.pointer (some ⟨b2, 0, none⟩))), (36, (slV x.hh x.heads)), (37, (.int .i64 ((x.heads.length : Nat) : Int))), (38, (.int .i64 ((k : Nat) : Int)))] eb74 ∧ Ctx w nob w73 [boxR b2 48 [[(.int .i64 x.node.T)], [(.int .i64 x.node.R)], [(.int .i64 x.tm.T)], [(.int .i64 x.tm.R)], [(.string x.name)], (idCells x.sub), [(slV x.hh x.heads)]]] [slI (Old w) headCh 34 x.hh x.heads]) _ ⟨0, rfl, (by omega), (all_zero _), _, envL_self ⟨rfl, rfl, rfl, rfl, trivial⟩, H69⟩ ?_
  rintro m71 _ w73 ⟨k, rfl, hk, hn, eb74, rfl, H75⟩
  refine W_seq (W_reg ?_)
  refine O_v rfl (R_cmp (a := ((k : Nat) : Int)) (b := ((x.heads.length : Nat) : Int)) (r := (decide (((k : Nat) : Int) < ((x.heads.length : Nat) : Int)))) rfl rfl rfl ?_)
  refine O_nil (Then_n (W_seq ?_))
  refine W_cond (t := (decide (((k : Nat) : Int) < ((x.heads.length : Nat) : Int)))) rfl (fun hc76 => ?_) (fun hc76 => ?_)
  ·have hc76 : (((k : Nat) : Int) < ((x.heads.length : Nat) : Int)) := (of_decide_eq_true hc76)
   refine W_skip (Then_n (W_seq (W_block (W_seq (W_reg ?_)))))
   refine O_v rfl (R_index_pure (H75.sl 0 rfl) (n := x.heads.length) rfl (j := ((k : Nat) : Int)) (oo := (x.hh.o + k * 34)) Try.underlying42 Try.sizeOf62 rfl rfl (by omega) (by omega) rfl ?_)
   refine O_v rfl (R_loadA (cs := [[(.int .i64 (((nth x.heads k).tm).T))], [(.int .i64 (((nth x.heads k).tm).R))], (idCells ((nth x.heads k).data))]) Try.isAgg62 Try.sizeOf62 rfl rfl ((Sl.elem (H75.sl 0 rfl) (i := k) (by omega) rfl).chunks 0 3 0 (x.hh.o + k * 34) _ rfl rfl rfl) ?_)
   refine O_v rfl (C_alloc H75 [[(.int .i64 0)], [(.int .i64 0)], (idCells zeroId)] Try.zeroValue62 ?_)
   intro b77 w78 hb79 hx80 H81
   refine O_u (C_storeA H81 0 rfl 0 (sub := [[(.int .i64 (((nth x.heads k).tm).T))], [(.int .i64 (((nth x.heads k).tm).R))], (idCells ((nth x.heads k).data))]) [[(.int .i64 (((nth x.heads k).tm).T))], [(.int .i64 (((nth x.heads k).tm).R))], (idCells ((nth x.heads k).data))] Try.sizeOf62 rfl rfl rfl rfl ⟨[[(.int .i64 0)], [(.int .i64 0)], (idCells zeroId)], [], rfl, rfl, rfl⟩ rfl ?_)
   intro w82 hg83 H84
   refine O_nil (Then_n (W_seq ?_))
   refine W_rg [(0, .q false), (1, .q false), (2, .q false), (3, .q false), (4, .q false), (5, .q false), (6, .q false), (7, .q false), (8, .q false), (9, .q false), (10, .q false), (11, .q false), (12, .q false), (13, .q false), (14, .q false), (15, .q false), (16, .q false), (17, .q false)] (by kernel_rfl) ?_
   refine Lx_q (i := 0) rfl rfl _ (fun v85 hv86 => R_fieldAddr (off := 0) (oo := 0) Try.underlying62 rfl rfl Try.sizeOf24 rfl rfl ⟨rfl, Gr.refl _ _⟩) ?_
   refine Lx_q (i := 1) rfl rfl _ (fun v87 hv88 => R_loadA (cs := [[(.int .i64 (((nth x.heads k).tm).T))], [(.int .i64 (((nth x.heads k).tm).R))]]) Try.isAgg24 Try.sizeOf24 rfl rfl ((boxR_at ((H84.ext hv88).getOwn 0 rfl)).chunks 0 2 0 0 _ rfl rfl rfl) ⟨rfl, Gr.refl _ _⟩) ?_
   refine Lx_q (i := 2) rfl rfl (.bool (stRight ((nth x.heads k).tm))) (fun v89 hv90 => R_callL (vs := [(aggOf (stampCh ((nth x.heads k).tm)))]) obj_rightItem_c35 rfl rfl (stamp_Right ((nth x.heads k).tm) v89 )) ?_
   refine Lx_q (i := 3) rfl rfl _ (fun v91 hv92 => R_not rfl ⟨rfl, Gr.refl _ _⟩) ?_
   refine Lx_q (i := 4) rfl rfl _ (fun v93 hv94 => R_move (v := (.bool (!(stRight ((nth x.heads k).tm))))) rfl ⟨rfl, Gr.refl _ _⟩) ?_
   refine Lx_qg (i := 5) true (!(stRight ((nth x.heads k).tm))) rfl rfl rfl rfl rfl (!(!(stRight ((nth x.heads k).tm)))) ga_f _ (fun hA v95 hv96 => R_fieldAddr (off := 0) (oo := 0) Try.underlying62 rfl rfl Try.sizeOf24 rfl rfl ⟨rfl, Gr.refl _ _⟩) ?_
   refine Lx_qg (i := 6) true (!(stRight ((nth x.heads k).tm))) rfl rfl rfl rfl rfl (!(!(stRight ((nth x.heads k).tm)))) ga_f _ (fun hA v97 hv98 => R_loadA (cs := [[(.int .i64 (((nth x.heads k).tm).T))], [(.int .i64 (((nth x.heads k).tm).R))]]) Try.isAgg24 Try.sizeOf24 rfl (gv_t hA) ((boxR_at ((H84.ext hv98).getOwn 0 rfl)).chunks 0 2 0 0 _ rfl rfl rfl) ⟨rfl, Gr.refl _ _⟩) ?_
   refine Lx_qg (i := 7) true (!(stRight ((nth x.heads k).tm))) rfl rfl rfl rfl rfl (!(!(stRight ((nth x.heads k).tm)))) ga_f _ (fun hA v99 hv100 => R_fieldAddr (off := 0) (oo := 0) Try.underlying48 rfl rfl Try.sizeOf24 rfl rfl ⟨rfl, Gr.refl _ _⟩) ?_
   refine Lx_qg (i := 8) true (!(stRight ((nth x.heads k).tm))) rfl rfl rfl rfl rfl (!(!(stRight ((nth x.heads k).tm)))) ga_f _ (fun hA v101 hv102 => R_loadA (cs := [[(.int .i64 x.node.T)], [(.int .i64 x.node.R)]]) Try.isAgg24 Try.sizeOf24 rfl (gv_t hA) ((boxR_at ((H84.ext hv102).getOwn 1 rfl)).chunks 0 2 0 0 _ rfl rfl rfl) ⟨rfl, Gr.refl _ _⟩) ?_
   refine Lx_qg (i := 9) true (!(stRight ((nth x.heads k).tm))) rfl rfl rfl rfl rfl (!(!(stRight ((nth x.heads k).tm)))) ga_f (.int .i64 (cmpSt ((nth x.heads k).tm) x.node)) (fun hA v103 hv104 => R_callL (vs := [(aggOf (stampCh ((nth x.heads k).tm))), (aggOf (stampCh x.node))]) obj_rightItem_c47 rfl (lst2 (gv_t hA) (gv_t hA)) (stamp_Cmp ((nth x.heads k).tm) x.node v103 )) ?_
   refine Lx_qg (i := 10) true (!(stRight ((nth x.heads k).tm))) rfl rfl rfl rfl rfl (!(!(stRight ((nth x.heads k).tm)))) ga_f _ (fun hA v105 hv106 => R_cmp (a := cmpSt ((nth x.heads k).tm) x.node) (b := 0) (r := (decide (cmpSt ((nth x.heads k).tm) x.node ≤ 0))) (gv_t hA) rfl rfl ⟨rfl, Gr.refl _ _⟩) ?_
   refine Lx_q (i := 11) rfl rfl _ (fun v107 hv108 => R_pick (t := (!(stRight ((nth x.heads k).tm)))) (v := (.bool ((!(stRight ((nth x.heads k).tm))) || (decide (cmpSt ((nth x.heads k).tm) x.node ≤ 0))))) rfl pk_or ⟨rfl, Gr.refl _ _⟩) ?_
   refine Lx_q (i := 12) rfl rfl _ (fun v109 hv110 => R_move (v := (.bool ((!(stRight ((nth x.heads k).tm))) || (decide (cmpSt ((nth x.heads k).tm) x.node ≤ 0))))) rfl ⟨rfl, Gr.refl _ _⟩) ?_
   refine Lx_qg (i := 13) true ((!(stRight ((nth x.heads k).tm))) || (decide (cmpSt ((nth x.heads k).tm) x.node ≤ 0))) rfl rfl rfl rfl rfl (!((!(stRight ((nth x.heads k).tm))) || (decide (cmpSt ((nth x.heads k).tm) x.node ≤ 0)))) ga_f _ (fun hA v111 hv112 => R_fieldAddr (off := 2) (oo := 2) Try.underlying62 rfl rfl Try.sizeOf36 rfl rfl ⟨rfl, Gr.refl _ _⟩) ?_
   refine Lx_qg (i := 14) true ((!(stRight ((nth x.heads k).tm))) || (decide (cmpSt ((nth x.heads k).tm) x.node ≤ 0))) rfl rfl rfl rfl rfl (!((!(stRight ((nth x.heads k).tm))) || (decide (cmpSt ((nth x.heads k).tm) x.node ≤ 0)))) ga_f _ (fun hA v113 hv114 => R_loadA (cs := [(idCells ((nth x.heads k).data))]) Try.isAgg36 Try.sizeOf36 rfl (gv_t hA) ((boxR_at ((H84.ext hv114).getOwn 0 rfl)).chunks 2 1 2 2 _ rfl rfl rfl) ⟨rfl, Gr.refl _ _⟩) ?_
   refine Lx_qg (i := 15) true ((!(stRight ((nth x.heads k).tm))) || (decide (cmpSt ((nth x.heads k).tm) x.node ≤ 0))) rfl rfl rfl rfl rfl (!((!(stRight ((nth x.heads k).tm))) || (decide (cmpSt ((nth x.heads k).tm) x.node ≤ 0)))) ga_f _ (fun hA v115 hv116 => R_buildL (vs := []) (v := aggOf [(idCells zeroId)]) rfl (fun _ => by kernel_rfl) ⟨rfl, Gr.refl _ _⟩) ?_
   refine Lx_qg (i := 16) true ((!(stRight ((nth x.heads k).tm))) || (decide (cmpSt ((nth x.heads k).tm) x.node ≤ 0))) rfl rfl rfl rfl rfl (!((!(stRight ((nth x.heads k).tm))) || (decide (cmpSt ((nth x.heads k).tm) x.node ≤ 0)))) ga_f _ (fun hA v117 hv118 => R_eqv (a := (nth x.heads k).data) (b := zeroId) eqv_ID36 rfl Try.eqGuardType36 (gv_t hA) (gv_t hA) ⟨rfl, Gr.refl _ _⟩) ?_
   refine Lx_q (i := 17) rfl rfl _ (fun v119 hv120 => R_pick (t := ((!(stRight ((nth x.heads k).tm))) || (decide (cmpSt ((nth x.heads k).tm) x.node ≤ 0)))) (v := (.bool (((!(stRight ((nth x.heads k).tm))) || (decide (cmpSt ((nth x.heads k).tm) x.node ≤ 0))) || (decide ((nth x.heads k).data = zeroId))))) rfl pk_or ⟨rfl, Gr.refl _ _⟩) ?_
   refine Lx_nil (fun w121 hw122 => ?_)
   have H123 := H84.ext hw122
   refine Then_n ?_
   refine W_cond (t := (((!(stRight ((nth x.heads k).tm))) || (decide (cmpSt ((nth x.heads k).tm) x.node ≤ 0))) || (decide ((nth x.heads k).data = zeroId)))) rfl (fun hc124 => ?_) (fun hc124 => ?_)
   ·have hc124 : (((stRight ((nth x.heads k).tm)) = false ∨ (cmpSt ((nth x.heads k).tm) x.node ≤ 0)) ∨ ((nth x.heads k).data = zeroId)) := (Or.imp (fun h => (Or.imp (fun h => (notT h)) (fun h => (of_decide_eq_true h)) (orT h))) (fun h => (of_decide_eq_true h)) (orT hc124))
    refine W_seq (W_reg ?_)
    refine O_v rfl (R_assign (v := (.bool false)) rfl ?_)
    refine O_nil (Then_n (W_ret (Blk_r (Then_r (Then_r (Blk_r (Then_r ?_)))))))
    refine ret_1 (v := (.bool false)) Try.results79 rfl ?_
    exact ⟨(itemOk_f3 (k := k) (by omega) (by assumption)), H123.gr⟩
   ·have hc124 : (((stRight ((nth x.heads k).tm)) = true ∧ ¬ (cmpSt ((nth x.heads k).tm) x.node ≤ 0)) ∧ ¬ ((nth x.heads k).data = zeroId)) := (And.imp (fun h => (And.imp (fun h => (notF h)) (fun h => (of_decide_eq_false h)) (orF h))) (fun h => (of_decide_eq_false h)) (orF hc124))
    refine W_skip (Blk_n (Then_n (W_reg ?_)))
    refine O_v rfl (R_arith (a := ((k : Nat) : Int)) (b := 1) (r0 := ((k : Nat) : Int) + 1) (r := ((k + 1 : Nat) : Int)) rfl rfl rfl (wrapN _ (by omega)) ?_)
    refine O_v rfl (R_move (v := (.int .i64 ((k + 1 : Nat) : Int))) rfl ?_)
    refine O_nil (Then_n ?_)
    have H125 := H123.sub (B' := [boxR b2 48 [[(.int .i64 x.node.T)], [(.int .i64 x.node.R)], [(.int .i64 x.tm.T)], [(.int .i64 x.tm.R)], [(.string x.name)], (idCells x.sub), [(slV x.hh x.heads)]]]) (I' := [slI (Old w) headCh 34 x.hh x.heads]) (List.Sublist.cons _ (List.Sublist.cons_cons _ List.Sublist.slnil)) (List.forall_mem_cons.2 ⟨List.mem_of_getElem? (i := 0) rfl, fun _ h => (nomatch h)⟩)
    refine ⟨_, ?_, (k + 1), rfl, (by omega), (all_succ hn (itemHead1_t (by assumption))), _, envL_self ⟨rfl, rfl, rfl, rfl, trivial⟩, H125⟩
    omega
  ·have hc76 : ¬ (((k : Nat) : Int) < ((x.heads.length : Nat) : Int)) := (of_decide_eq_false hc76)
   refine W_exit (Then_x (Then_x (Blk_x (Then_n (W_seq (W_reg ?_))))))
   refine O_v rfl (R_fieldAddr (off := 37) (oo := 37) Try.underlying48 rfl rfl Try.sizeOf42 rfl rfl ?_)
   refine O_v rfl (R_load1 (v := (slV x.hh x.heads)) Try.isAgg42 rfl ((boxR_at (H75.getOwn 0 rfl)).chunks 6 1 37 37 _ rfl rfl rfl) ?_)
   refine O_v rfl (R_callL (vs := [(slV x.hh x.heads), (.func (.func 88) #[] #[])]) obj_rightItem_c87 rfl rfl ((rise_Head x.hh x.heads 88 #[] (fun (a b : Head) => cmpSt a.tm b.tm) w73 (H75.slOld 0 rfl) obj_rightItem_c88 (fun x _ y _ w1 _ => callsCap0 (rightItem_1 x y w1))).ret ?_))
   rintro _ w126 ⟨rfl, hx127⟩
   have H128 := H75.ext hx127
   refine O_v rfl (R_assign (v := (.bool (riseBy (fun (a b : Head) => cmpSt a.tm b.tm) x.heads))) rfl ?_)
   refine O_nil (Then_n (W_ret ?_))
   refine ret_1 (v := (.bool (riseBy (fun (a b : Head) => cmpSt a.tm b.tm) x.heads))) Try.results79 rfl ?_
   exact ⟨(itemOk_e (by assumption) (by rwa [show x.heads.length = k from by omega])), H128.gr⟩

end Go.Proofs.Ytiknfldhommmpaa
namespace Go.Proofs.Ytiknfldhommmpaa
open Go
set_option maxRecDepth 100000
set_option linter.unusedVariables false
set_option linter.unusedSimpArgs false
theorem rightDir_1_c79 : callable Try.prog 79 = true := by kernel_rfl
set_option maxHeartbeats 1000000 in
theorem rightDir_1 (x : ItemS) (w : World) (Sx_heads : Sl (Old w) headCh 34 x.hh x.heads w) :
    Calls Try.prog 78 #[(aggOf (itemCh x))] w (Ret fun v w' => v = (.bool (!(itemOkS x))) ∧ Ext w w') := by
 refine calls_W Try.func78 rfl Try.ntmps78 rfl ?_
 have H0 := Ctx.start w nob
 have H1 := H0.addSl _ Sx_heads (fun b hb => ⟨hb, fun _ ho => (nomatch ho)⟩)
 have LSx_heads := Sx_heads.len
 refine W_seq (W_reg ?_)
 refine O_v rfl (C_box H1 [[(.int .i64 x.node.T)], [(.int .i64 x.node.R)], [(.int .i64 x.tm.T)], [(.int .i64 x.tm.R)], [(.string x.name)], (idCells x.sub), [(slV x.hh x.heads)]] rfl ?_)
 intro b2 w3 hb4 hx5 H6
 refine O_v rfl (R_assign (v := (.bool false)) rfl ?_)
 refine O_nil (Then_n (W_seq (W_reg ?_)))
 refine O_v rfl (R_loadA (cs := [[(.int .i64 x.node.T)], [(.int .i64 x.node.R)], [(.int .i64 x.tm.T)], [(.int .i64 x.tm.R)], [(.string x.name)], (idCells x.sub), [(slV x.hh x.heads)]]) Try.isAgg48 Try.sizeOf48 rfl rfl ((boxR_at (H6.getOwn 0 rfl)).chunks 0 7 0 0 _ rfl rfl rfl) ?_)
 refine O_v rfl (R_callL (vs := [(aggOf (itemCh x))]) rightDir_1_c79 rfl rfl ((obj_rightItem x w3 (H6.slOld 0 rfl)).ret ?_))
 rintro _ w7 ⟨rfl, hx8⟩
 have H9 := H6.ext hx8
 refine O_v rfl (R_not rfl ?_)
 refine O_v rfl (R_assign (v := (.bool (!(itemOkS x)))) rfl ?_)
 refine O_nil (Then_n (W_ret ?_))
 refine ret_1 (v := (.bool (!(itemOkS x)))) Try.results78 rfl ?_
 exact ⟨rfl, H9.gr⟩

end Go.Proofs.Ytiknfldhommmpaa
namespace Go.Proofs.Ytiknfldhommmpaa
open Go
set_option maxRecDepth 100000
set_option linter.unusedVariables false
set_option linter.unusedSimpArgs false
theorem rightDir_2_c47 : callable Try.prog 47 = true := by kernel_rfl
set_option maxHeartbeats 1000000 in
theorem rightDir_2 (a : ItemS) (b : ItemS) (w : World) (Sa_heads : Sl (Old w) headCh 34 a.hh a.heads w) (Sb_heads : Sl (Old w) headCh 34 b.hh b.heads w) :
    Calls Try.prog 81 #[(aggOf (itemCh a)), (aggOf (itemCh b))] w (Ret fun v w' => v = (.int .i64 (cmpSt a.node b.node)) ∧ Ext w w') := by
 refine calls_W Try.func81 rfl Try.ntmps81 rfl ?_
 have H0 := Ctx.start w nob
 have H1 := H0.addSl _ Sa_heads (fun b hb => ⟨hb, fun _ ho => (nomatch ho)⟩)
 have LSa_heads := Sa_heads.len
 have H2 := H1.addSl _ Sb_heads (fun b hb => ⟨hb, fun _ ho => (nomatch ho)⟩)
 have LSb_heads := Sb_heads.len
 refine W_seq (W_reg ?_)
 refine O_v rfl (C_box H2 [[(.int .i64 a.node.T)], [(.int .i64 a.node.R)], [(.int .i64 a.tm.T)], [(.int .i64 a.tm.R)], [(.string a.name)], (idCells a.sub), [(slV a.hh a.heads)]] rfl ?_)
 intro b3 w4 hb5 hx6 H7
 refine O_v rfl (C_box H7 [[(.int .i64 b.node.T)], [(.int .i64 b.node.R)], [(.int .i64 b.tm.T)], [(.int .i64 b.tm.R)], [(.string b.name)], (idCells b.sub), [(slV b.hh b.heads)]] rfl ?_)
 intro b8 w9 hb10 hx11 H12
 refine O_v rfl (R_assign (v := (.int .i64 0)) rfl ?_)
 refine O_nil (Then_n (W_seq (W_reg ?_)))
 refine O_v rfl (R_fieldAddr (off := 0) (oo := 0) Try.underlying48 rfl rfl Try.sizeOf24 rfl rfl ?_)
 refine O_v rfl (R_loadA (cs := [[(.int .i64 a.node.T)], [(.int .i64 a.node.R)]]) Try.isAgg24 Try.sizeOf24 rfl rfl ((boxR_at (H12.getOwn 1 rfl)).chunks 0 2 0 0 _ rfl rfl rfl) ?_)
 refine O_v rfl (R_fieldAddr (off := 0) (oo := 0) Try.underlying48 rfl rfl Try.sizeOf24 rfl rfl ?_)
 refine O_v rfl (R_loadA (cs := [[(.int .i64 b.node.T)], [(.int .i64 b.node.R)]]) Try.isAgg24 Try.sizeOf24 rfl rfl ((boxR_at (H12.getOwn 0 rfl)).chunks 0 2 0 0 _ rfl rfl rfl) ?_)
 refine O_v rfl (R_callL (vs := [(aggOf (stampCh a.node)), (aggOf (stampCh b.node))]) rightDir_2_c47 rfl rfl ((stamp_Cmp a.node b.node w9 ).ret ?_))
 rintro _ w13 ⟨rfl, hx14⟩
 have H15 := H12.ext hx14
 refine O_v rfl (R_assign (v := (.int .i64 (cmpSt a.node b.node))) rfl ?_)
 refine O_nil (Then_n (W_ret ?_))
 refine ret_1 (v := (.int .i64 (cmpSt a.node b.node))) Try.results81 rfl ?_
 exact ⟨rfl, H15.gr⟩

end Go.Proofs.Ytiknfldhommmpaa
namespace Go.Proofs.Ytiknfldhommmpaa
open Go
set_option maxRecDepth 100000
set_option linter.unusedVariables false
set_option linter.unusedSimpArgs false
set_option maxHeartbeats 1000000 in
theorem rise_Item (ha : SlH) (a : List ItemS) (kcmp : FuncId) (ccmp : Array Value) (f : ItemS → ItemS → Int) (w : World) (Sa : Sl (Old w) itemCh 38 ha a w) (Kcmp : callable Try.prog kcmp = true) (Ccmp : ∀ x ∈ a, ∀ y ∈ a, ∀ w1, Ext w w1 → Calls Try.prog kcmp (#[itemV x, itemV y] ++ ccmp) w1 (Ret fun v w2 => v = .int .i64 (f x y) ∧ Ext w1 w2)) :
    Calls Try.prog 80 #[(slV ha a), (.func (.func kcmp) #[] ccmp)] w (Ret fun v w' => v = (.bool (riseBy f a)) ∧ Ext w w') := by
 refine calls_W Try.func80 rfl Try.ntmps80 rfl ?_
 have H0 := Ctx.start w nob
 have H1 := H0.addSl _ Sa (fun b hb => ⟨hb, fun _ ho => (nomatch ho)⟩)
 have LSa := Sa.len
 refine W_seq (W_reg ?_)
 refine O_v rfl (R_assign (v := (.bool false)) rfl ?_)
 refine O_nil (Then_n (W_seq (W_seq (W_reg ?_))))
 refine O_v rfl (R_assign (v := (.int .i64 1)) rfl ?_)
 refine O_nil (Then_n (W_block ?_))
 refine W_loop (fun m2 e3 w4 => ∃ (k : Nat), m2 = a.length - k ∧ (1 ≤ k) ∧ (k ≤ max a.length 1) ∧ (∀ i, i < k → 1 ≤ i → f (nth a (i - 1)) (nth a i) < 0) ∧ ∃ eb5, e3 = envL [(0, (slV ha a)), (1, (.func (.func kcmp) #[] ccmp)), (5, (.int .i64 ((k : Nat) : Int)))] eb5 ∧ Ctx w nob w4 [] [slI (Old w) itemCh 38 ha a]) _ ⟨1, rfl, (by omega), (by omega), (fun i h1 h2 => by omega), _, envL_self ⟨rfl, rfl, rfl, trivial⟩, H1⟩ ?_
 rintro m2 _ w4 ⟨k, rfl, h1, hk, hn, eb5, rfl, H6⟩
 refine W_seq (W_seq (W_reg ?_))
 refine O_v rfl (R_move (v := (.int .i64 ((k : Nat) : Int))) rfl ?_)
 refine O_v rfl (R_move (v := (slV ha a)) rfl ?_)
 refine O_v rfl (R_len_slice (a := ha.a) (n := a.length) (c := ha.c) Try.underlying50 rfl ?_)
 refine O_v rfl (R_cmp (a := ((k : Nat) : Int)) (b := ((a.length : Nat) : Int)) (r := (decide (((k : Nat) : Int) < ((a.length : Nat) : Int)))) rfl rfl rfl ?_)
 refine O_nil (Then_n ?_)
 refine W_cond (t := (decide (((k : Nat) : Int) < ((a.length : Nat) : Int)))) rfl (fun hc7 => ?_) (fun hc7 => ?_)
 ·have hc7 : (((k : Nat) : Int) < ((a.length : Nat) : Int)) := (of_decide_eq_true hc7)
  refine W_skip (Then_n (W_seq (W_block (W_seq ?_))))
  refine W_rgd TryMixed [(0, .q false), (1, .q false), (2, .q false), (3, .q false), (4, .q false), (5, .q false), (6, .q false), (7, .q false), (8, .q false), (9, .q false), (10, .q false), (11, .q false)] (by kernel_rfl) ?_
  refine Lx_q (i := 0) rfl rfl _ (fun v8 hv9 => R_move (v := (.func (.func kcmp) #[] ccmp)) rfl ⟨rfl, Gr.refl _ _⟩) ?_
  refine Lx_q (i := 1) rfl rfl _ (fun v10 hv11 => R_move (v := (slV ha a)) rfl ⟨rfl, Gr.refl _ _⟩) ?_
  refine Lx_q (i := 2) rfl rfl _ (fun v12 hv13 => R_move (v := (.int .i64 ((k : Nat) : Int))) rfl ⟨rfl, Gr.refl _ _⟩) ?_
  refine Lx_q (i := 3) rfl rfl _ (fun v14 hv15 => R_arith (a := ((k : Nat) : Int)) (b := 1) (r0 := ((k : Nat) : Int) - 1) (r := ((k - 1 : Nat) : Int)) rfl rfl rfl (wrapP _ (by omega) (by omega)) ⟨rfl, Gr.refl _ _⟩) ?_
  refine Lx_q (i := 4) rfl rfl _ (fun v16 hv17 => R_index_pure (H6.sl 0 rfl) (n := a.length) rfl (j := ((k - 1 : Nat) : Int)) (oo := (ha.o + (k - 1) * 38)) Try.underlying50 Try.sizeOf48 rfl rfl (by omega) (by omega) rfl ⟨rfl, Gr.refl _ _⟩) ?_
  refine Lx_q (i := 5) rfl rfl _ (fun v18 hv19 => R_loadA (cs := [[(.int .i64 (((nth a (k - 1)).node).T))], [(.int .i64 (((nth a (k - 1)).node).R))], [(.int .i64 (((nth a (k - 1)).tm).T))], [(.int .i64 (((nth a (k - 1)).tm).R))], [(.string ((nth a (k - 1)).name))], (idCells ((nth a (k - 1)).sub)), [(slV ((nth a (k - 1)).hh) ((nth a (k - 1)).heads))]]) Try.isAgg48 Try.sizeOf48 rfl rfl ((Sl.elem ((H6.ext hv19).sl 0 rfl) (i := (k - 1)) (by omega) rfl).chunks 0 7 0 (ha.o + (k - 1) * 38) _ rfl rfl rfl) ⟨rfl, Gr.refl _ _⟩) ?_
  refine Lx_q (i := 6) rfl rfl _ (fun v20 hv21 => R_move (v := (slV ha a)) rfl ⟨rfl, Gr.refl _ _⟩) ?_
  refine Lx_q (i := 7) rfl rfl _ (fun v22 hv23 => R_move (v := (.int .i64 ((k : Nat) : Int))) rfl ⟨rfl, Gr.refl _ _⟩) ?_
  refine Lx_q (i := 8) rfl rfl _ (fun v24 hv25 => R_index_pure (H6.sl 0 rfl) (n := a.length) rfl (j := ((k : Nat) : Int)) (oo := (ha.o + k * 38)) Try.underlying50 Try.sizeOf48 rfl rfl (by omega) (by omega) rfl ⟨rfl, Gr.refl _ _⟩) ?_
  refine Lx_q (i := 9) rfl rfl _ (fun v26 hv27 => R_loadA (cs := [[(.int .i64 (((nth a k).node).T))], [(.int .i64 (((nth a k).node).R))], [(.int .i64 (((nth a k).tm).T))], [(.int .i64 (((nth a k).tm).R))], [(.string ((nth a k).name))], (idCells ((nth a k).sub)), [(slV ((nth a k).hh) ((nth a k).heads))]]) Try.isAgg48 Try.sizeOf48 rfl rfl ((Sl.elem ((H6.ext hv27).sl 0 rfl) (i := k) (by omega) rfl).chunks 0 7 0 (ha.o + k * 38) _ rfl rfl rfl) ⟨rfl, Gr.refl _ _⟩) ?_
  refine Lx_q (i := 10) rfl rfl (.int .i64 (f (nth a (k - 1)) (nth a k))) (fun v28 hv29 => R_callV (vs := [(aggOf (itemCh (nth a (k - 1)))), (aggOf (itemCh (nth a k)))]) Kcmp rfl rfl (Ccmp _ (nth_mem (by omega)) _ (nth_mem (by omega)) v28 (H6.ext hv29).gr)) ?_
  refine Lx_q (i := 11) rfl rfl _ (fun v30 hv31 => R_cmp (a := f (nth a (k - 1)) (nth a k)) (b := 0) (r := (decide (0 ≤ f (nth a (k - 1)) (nth a k)))) rfl rfl rfl ⟨rfl, Gr.refl _ _⟩) ?_
  refine Lx_nil (fun w32 hw33 => ?_)
  have H34 := H6.ext hw33
  refine Then_n ?_
  refine W_cond (t := (decide (0 ≤ f (nth a (k - 1)) (nth a k)))) rfl (fun hc35 => ?_) (fun hc35 => ?_)
  ·have hc35 : (0 ≤ f (nth a (k - 1)) (nth a k)) := (of_decide_eq_true hc35)
   refine W_seq (W_reg ?_)
   refine O_v rfl (R_assign (v := (.bool false)) rfl ?_)
   refine O_nil (Then_n (W_ret (Blk_r (Then_r (Then_r (Blk_r (Then_r ?_)))))))
   refine ret_1 (v := (.bool false)) Try.results80 rfl ?_
   exact ⟨(boolF (fun h => by have := h k (by omega) (by omega); omega)), H34.gr⟩
  ·have hc35 : ¬ (0 ≤ f (nth a (k - 1)) (nth a k)) := (of_decide_eq_false hc35)
   refine W_skip (Blk_n (Then_n (W_reg ?_)))
   refine O_v rfl (R_move (v := (.int .i64 ((k : Nat) : Int))) rfl ?_)
   refine O_v rfl (R_arith (a := ((k : Nat) : Int)) (b := 1) (r0 := ((k : Nat) : Int) + 1) (r := ((k + 1 : Nat) : Int)) rfl rfl rfl (wrapN _ (by omega)) ?_)
   refine O_v rfl (R_assign (v := (.int .i64 ((k + 1 : Nat) : Int))) rfl ?_)
   refine O_nil (Then_n ?_)
   refine ⟨_, ?_, (k + 1), rfl, (by omega), (by omega), (rise_succ hn (by omega)), _, envL_self ⟨rfl, rfl, rfl, trivial⟩, H34⟩
   omega
 ·have hc7 : ¬ (((k : Nat) : Int) < ((a.length : Nat) : Int)) := (of_decide_eq_false hc7)
  refine W_exit (Then_x (Then_x (Blk_x (Then_n (W_seq (W_reg ?_))))))
  refine O_v rfl (R_assign (v := (.bool true)) rfl ?_)
  refine O_nil (Then_n (W_ret ?_))
  refine ret_1 (v := (.bool true)) Try.results80 rfl ?_
  exact ⟨(boolT (fun i h1 h2 => hn i (by omega) h2)), H6.gr⟩

end Go.Proofs.Ytiknfldhommmpaa
namespace Go.Proofs.Ytiknfldhommmpaa
open Go
set_option maxRecDepth 100000
set_option linter.unusedVariables false
set_option linter.unusedSimpArgs false
theorem obj_rightDir_c77 : callable Try.prog 77 = true := by kernel_rfl
theorem obj_rightDir_c78 : callable Try.prog 78 = true := by kernel_rfl
theorem obj_rightDir_c80 : callable Try.prog 80 = true := by kernel_rfl
theorem obj_rightDir_c81 : callable Try.prog 81 = true := by kernel_rfl
set_option maxHeartbeats 1000000 in
theorem obj_rightDir (hitems : SlH) (items : List ItemS) (w : World) (Sitems : Sl (Old w) itemCh 38 hitems items w) (Ditems_heads : ∀ x ∈ items, Sl (Old w) headCh 34 x.hh x.heads w) :
    Calls Try.prog 67 #[(slV hitems items)] w (Ret fun v w' => v = (.bool (dirOk items)) ∧ Ext w w') := by
 refine calls_W Try.func67 rfl Try.ntmps67 rfl ?_
 have H0 := Ctx.start w nob
 have H1 := H0.addSl _ Sitems (fun b hb => ⟨hb, fun _ ho => (nomatch ho)⟩)
 have LSitems := Sitems.len
 have H2 := H1.addImm' (deepI (Old w) headCh 34 (fun x : ItemS => x.hh) (fun x : ItemS => x.heads) items) Ditems_heads (fun b hb => ⟨hb, fun _ ho => (nomatch ho)⟩)
 refine W_seq (W_reg ?_)
 refine O_v rfl (R_assign (v := (.bool false)) rfl ?_)
 refine O_nil (Then_n (W_seq ?_))
 refine W_rg [(0, .q false), (1, .q false), (2, .q false), (3, .q false), (4, .q false), (5, .q false), (6, .q false), (7, .q false), (8, .q false), (9, .q false), (10, .q false), (11, .q false), (12, .q false)] (by kernel_rfl) ?_
 refine Lx_q (i := 0) rfl rfl _ (fun v3 hv4 => R_move (v := (slV hitems items)) rfl ⟨rfl, Gr.refl _ _⟩) ?_
 refine Lx_q (i := 1) rfl rfl _ (fun v5 hv6 => R_len_slice (a := hitems.a) (n := items.length) (c := hitems.c) Try.underlying50 rfl ⟨rfl, Gr.refl _ _⟩) ?_
 refine Lx_q (i := 2) rfl rfl _ (fun v7 hv8 => R_cmp (a := ((items.length : Nat) : Int)) (b := 1000) (r := (decide (((items.length : Nat) : Int) ≤ 1000))) rfl rfl rfl ⟨rfl, Gr.refl _ _⟩) ?_
 refine Lx_q (i := 3) rfl rfl _ (fun v9 hv10 => R_move (v := (.bool (decide (((items.length : Nat) : Int) ≤ 1000)))) rfl ⟨rfl, Gr.refl _ _⟩) ?_
 refine Lx_qg (i := 4) true (decide (((items.length : Nat) : Int) ≤ 1000)) rfl rfl rfl rfl rfl (decide (((items.length : Nat) : Int) ≤ 1000)) ga_t _ (fun hA v11 hv12 => R_move (v := (slV hitems items)) rfl ⟨rfl, Gr.refl _ _⟩) ?_
 refine Lx_qg (i := 5) true (decide (((items.length : Nat) : Int) ≤ 1000)) rfl rfl rfl rfl rfl (decide (((items.length : Nat) : Int) ≤ 1000)) ga_t (.bool (items.any (fun (x : ItemS) => !itemOkS x))) (fun hA v13 hv14 => R_callL (vs := [(slV hitems items), (.func (.func 78) #[] #[])]) obj_rightDir_c77 rfl (lst2 (gv_t hA) rfl) (ContainsFunc_Item hitems items 78 #[] (fun (x : ItemS) => !itemOkS x) v13 ((H2.ext hv14).slOld 1 rfl) obj_rightDir_c78 (fun x hx w1 he => callsCap0 (rightDir_1 x w1 (((H2.ext hv14).deepOld 0 rfl _ hx).ext he))))) ?_
 refine Lx_qg (i := 6) true (decide (((items.length : Nat) : Int) ≤ 1000)) rfl rfl rfl rfl rfl (decide (((items.length : Nat) : Int) ≤ 1000)) ga_t _ (fun hA v15 hv16 => R_not (gv_t hA) ⟨rfl, Gr.refl _ _⟩) ?_
 refine Lx_q (i := 7) rfl rfl _ (fun v17 hv18 => R_pick (t := (decide (((items.length : Nat) : Int) ≤ 1000))) (v := (.bool ((decide (((items.length : Nat) : Int) ≤ 1000)) && (!(items.any (fun (x : ItemS) => !itemOkS x)))))) rfl pk_and ⟨rfl, Gr.refl _ _⟩) ?_
 refine Lx_q (i := 8) rfl rfl _ (fun v19 hv20 => R_move (v := (.bool ((decide (((items.length : Nat) : Int) ≤ 1000)) && (!(items.any (fun (x : ItemS) => !itemOkS x)))))) rfl ⟨rfl, Gr.refl _ _⟩) ?_
 refine Lx_qg (i := 9) true ((decide (((items.length : Nat) : Int) ≤ 1000)) && (!(items.any (fun (x : ItemS) => !itemOkS x)))) rfl rfl rfl rfl rfl ((decide (((items.length : Nat) : Int) ≤ 1000)) && (!(items.any (fun (x : ItemS) => !itemOkS x)))) ga_t _ (fun hA v21 hv22 => R_move (v := (slV hitems items)) rfl ⟨rfl, Gr.refl _ _⟩) ?_
 refine Lx_qg (i := 10) true ((decide (((items.length : Nat) : Int) ≤ 1000)) && (!(items.any (fun (x : ItemS) => !itemOkS x)))) rfl rfl rfl rfl rfl ((decide (((items.length : Nat) : Int) ≤ 1000)) && (!(items.any (fun (x : ItemS) => !itemOkS x)))) ga_t (.bool (riseBy (fun (a b : ItemS) => cmpSt a.node b.node) items)) (fun hA v23 hv24 => R_callL (vs := [(slV hitems items), (.func (.func 81) #[] #[])]) obj_rightDir_c80 rfl (lst2 (gv_t hA) rfl) (rise_Item hitems items 81 #[] (fun (a b : ItemS) => cmpSt a.node b.node) v23 ((H2.ext hv24).slOld 1 rfl) obj_rightDir_c81 (fun x hx y hy w1 he => callsCap0 (rightDir_2 x y w1 (((H2.ext hv24).deepOld 0 rfl _ hx).ext he) (((H2.ext hv24).deepOld 0 rfl _ hy).ext he))))) ?_
 refine Lx_q (i := 11) rfl rfl _ (fun v25 hv26 => R_pick (t := ((decide (((items.length : Nat) : Int) ≤ 1000)) && (!(items.any (fun (x : ItemS) => !itemOkS x))))) (v := (.bool (((decide (((items.length : Nat) : Int) ≤ 1000)) && (!(items.any (fun (x : ItemS) => !itemOkS x)))) && (riseBy (fun (a b : ItemS) => cmpSt a.node b.node) items)))) rfl pk_and ⟨rfl, Gr.refl _ _⟩) ?_
 refine Lx_q (i := 12) rfl rfl _ (fun v27 hv28 => R_assign (v := (.bool (((decide (((items.length : Nat) : Int) ≤ 1000)) && (!(items.any (fun (x : ItemS) => !itemOkS x)))) && (riseBy (fun (a b : ItemS) => cmpSt a.node b.node) items)))) rfl ⟨rfl, Gr.refl _ _⟩) ?_
 refine Lx_nil (fun w29 hw30 => ?_)
 have H31 := H2.ext hw30
 refine Then_n (W_ret ?_)
 refine ret_1 (v := (.bool (((decide (((items.length : Nat) : Int) ≤ 1000)) && (!(items.any (fun (x : ItemS) => !itemOkS x)))) && (riseBy (fun (a b : ItemS) => cmpSt a.node b.node) items)))) Try.results67 rfl ?_
 exact ⟨dirOk_e, H31.gr⟩

end Go.Proofs.Ytiknfldhommmpaa
namespace Go.Proofs.Ytiknfldhommmpaa
open Go
set_option maxRecDepth 100000
set_option linter.unusedVariables false
set_option linter.unusedSimpArgs false
theorem obj_PutDir_c67 : callable Try.prog 67 = true := by kernel_rfl
theorem obj_PutDir_c68 : callable Try.prog 68 = true := by kernel_rfl
theorem obj_PutDir_c69 : callable Try.prog 69 = true := by kernel_rfl
theorem obj_PutDir_c70 : callable Try.prog 70 = true := by kernel_rfl
theorem obj_PutDir_c71 : callable Try.prog 71 = true := by kernel_rfl
set_option maxHeartbeats 2000000 in
theorem obj_PutDir (hitems : SlH) (items : List ItemS) (w : World) (Sitems : Sl (Old w) itemCh 38 hitems items w) (Ditems_heads : ∀ x ∈ items, Sl (Old w) headCh 34 x.hh x.heads w) :
    Calls Try.prog 57 #[(slV hitems items)] w (Ret fun v w' => ∃ h0, v = .tuple #[slV h0 (putDirB items), (.int .i64 (putDirE items))] ∧ Ext w w' ∧ OwnS w.heap.size 5 1 encB h0 (putDirB items) w') := by
 refine calls_W Try.func57 rfl Try.ntmps57 rfl ?_
 have H0 := Ctx.start w nob
 have H1 := H0.addSl _ Sitems (fun b hb => ⟨hb, fun _ ho => (nomatch ho)⟩)
 have LSitems := Sitems.len
 have H2 := H1.addImm' (deepI (Old w) headCh 34 (fun x : ItemS => x.hh) (fun x : ItemS => x.heads) items) Ditems_heads (fun b hb => ⟨hb, fun _ ho => (nomatch ho)⟩)
 refine W_seq (W_reg ?_)
 refine O_v rfl (R_assign (v := (.slice none 0 0)) rfl ?_)
 refine O_v rfl (R_assign (v := (.int .i64 0)) rfl ?_)
 refine O_nil (Then_n (W_seq (W_seq (W_reg ?_))))
 refine O_v rfl (R_move (v := (slV hitems items)) rfl ?_)
 refine O_v rfl (R_callL (vs := [(slV hitems items)]) obj_PutDir_c67 rfl rfl ((obj_rightDir hitems items w (H2.slOld 1 rfl) (H2.deepOld 0 rfl)).ret ?_))
 rintro _ w3 ⟨rfl, hx4⟩
 have H5 := H2.ext hx4
 refine O_v rfl (R_not rfl ?_)
 refine O_nil (Then_n ?_)
 refine W_cond (t := (!(dirOk items))) rfl (fun hc6 => ?_) (fun hc6 => ?_)
 ·have hc6 : (dirOk items) = false := (notT hc6)
  refine W_seq (W_reg ?_)
  refine O_v rfl (R_assign (v := (.slice none 0 0)) rfl ?_)
  refine O_v rfl (R_assign (v := (.int .i64 1)) rfl ?_)
  refine O_nil (Then_n (W_ret (Then_r ?_)))
  refine ret_2 (v := (.slice none 0 0)) (v' := (.int .i64 1)) Try.results57 rfl rfl ?_
  have H7 := H5.addNil 5 1 encB
  have hE : [] = putDirB items := (putDir_no (by assumption)).1
  have hV : 1 = putDirE items := (putDir_no (by assumption)).2
  refine ⟨nilH, ?_, H7.gr, ?_⟩
  · exact two_eq (fun l n => Value.tuple #[slV nilH l, Value.int .i64 n]) hE hV
  · have hO := H7.retRow 0 rfl
    exact hE ▸ hO
 ·have hc6 : (dirOk items) = true := (notF hc6)
  refine W_skip (Then_n (W_seq (W_reg ?_)))
  refine O_v rfl (C_buildSliceL H5 (enc := encB) (val := byteV) ([2] : List UInt8) Try.underlying79 Try.sizeOf5 Try.zeroValue5 rfl (by decide) (fun _ => rfl) (fun _ => rfl) rfl rfl (by decide) ?_)
  intro b8 w9 hb10 hx11 H12
  refine O_v rfl (R_move (v := (slV hitems items)) rfl ?_)
  refine O_v rfl (R_len_slice (a := hitems.a) (n := items.length) (c := hitems.c) Try.underlying50 rfl ?_)
  refine O_v rfl (R_callL (vs := [(slV ⟨some ⟨b8, 0, none⟩, b8, 0, 1⟩ ([2] : List UInt8)), (.int .i64 ((items.length : Nat) : Int))]) obj_PutDir_c68 rfl rfl ((enc_Num ⟨some ⟨b8, 0, none⟩, b8, 0, 1⟩ ([2] : List UInt8) ((items.length : Nat) : Int) w9 (H12.rowSl 0 rfl (fun _ => rfl)) (by decide)).ret ?_))
  rintro _ w14 ⟨h13, rfl, hx15, ho16⟩
  have H17 := H12.addRow hx15 ho16
  refine O_v rfl (R_assign (v := (slV h13 (([2] : List UInt8) ++ numB ((items.length : Nat) : Int)))) rfl ?_)
  refine O_nil (Then_n (W_seq (W_seq (W_reg ?_))))
  refine O_v rfl (R_move (v := (slV hitems items)) rfl ?_)
  refine O_v rfl (R_len_slice (a := hitems.a) (n := items.length) (c := hitems.c) Try.underlying50 rfl ?_)
  refine O_v rfl (R_move (v := (.int .i64 0)) rfl ?_)
  refine O_nil (Then_n (W_block ?_))
  refine W_loop (fun m19 e20 w21 => ∃ (k : Nat), ∃ (acc : List UInt8), ∃ (h18 : SlH), m19 = items.length - k ∧ (k ≤ items.length) ∧ (acc = dirTo items k) ∧ (acc.length ≤ 10 + k * 51000) ∧ (dirOk items = true) ∧ ∃ eb22, e20 = envL [(2, (.slice none 0 0)), (3, (.int .i64 0)), (4, (slV h18 acc)), (16, (slV hitems items)), (17, (.int .i64 ((items.length : Nat) : Int))), (18, (.int .i64 ((k : Nat) : Int)))] eb22 ∧ Ctx w nob w21 [rowR 5 1 encB h18 acc, rowR 5 1 encB ⟨some ⟨b8, 0, none⟩, b8, 0, 1⟩ ([2] : List UInt8)] [deepI (Old w) headCh 34 (fun x : ItemS => x.hh) (fun x : ItemS => x.heads) items, slI (Old w) itemCh 38 hitems items]) _ ⟨0, (([2] : List UInt8) ++ numB ((items.length : Nat) : Int)), h13, rfl, (by omega), (dirTo_zero items), (by have := numB_len (items.length : Nat); simp only [List.length_append, List.length_cons, List.length_nil]; omega), (by assumption), _, envL_self ⟨rfl, rfl, rfl, rfl, rfl, rfl, trivial⟩, H17⟩ ?_
  rintro m19 _ w21 ⟨k, acc, h18, rfl, hk, ha, hal, hD, eb22, rfl, H23⟩
  refine W_seq (W_reg ?_)
  refine O_v rfl (R_cmp (a := ((k : Nat) : Int)) (b := ((items.length : Nat) : Int)) (r := (decide (((k : Nat) : Int) < ((items.length : Nat) : Int)))) rfl rfl rfl ?_)
  refine O_nil (Then_n (W_seq ?_))
  refine W_cond (t := (decide (((k : Nat) : Int) < ((items.length : Nat) : Int)))) rfl (fun hc24 => ?_) (fun hc24 => ?_)
  ·have hc24 : (((k : Nat) : Int) < ((items.length : Nat) : Int)) := (of_decide_eq_true hc24)
   refine W_skip (Then_n (W_seq (W_block (W_seq (W_reg ?_)))))
   refine O_v rfl (R_index_pure (H23.sl 1 rfl) (n := items.length) rfl (j := ((k : Nat) : Int)) (oo := (hitems.o + k * 38)) Try.underlying50 Try.sizeOf48 rfl rfl (by omega) (by omega) rfl ?_)
   refine O_v rfl (R_loadA (cs := [[(.int .i64 (((nth items k).node).T))], [(.int .i64 (((nth items k).node).R))], [(.int .i64 (((nth items k).tm).T))], [(.int .i64 (((nth items k).tm).R))], [(.string ((nth items k).name))], (idCells ((nth items k).sub)), [(slV ((nth items k).hh) ((nth items k).heads))]]) Try.isAgg48 Try.sizeOf48 rfl rfl ((Sl.elem (H23.sl 1 rfl) (i := k) (by omega) rfl).chunks 0 7 0 (hitems.o + k * 38) _ rfl rfl rfl) ?_)
   refine O_v rfl (C_alloc H23 [[(.int .i64 0)], [(.int .i64 0)], [(.int .i64 0)], [(.int .i64 0)], [(.string ByteArray.empty)], (idCells zeroId), [(.slice none 0 0)]] Try.zeroValue48 ?_)
   intro b25 w26 hb27 hx28 H29
   refine O_u (C_storeA H29 0 rfl 0 (sub := [[(.int .i64 (((nth items k).node).T))], [(.int .i64 (((nth items k).node).R))], [(.int .i64 (((nth items k).tm).T))], [(.int .i64 (((nth items k).tm).R))], [(.string ((nth items k).name))], (idCells ((nth items k).sub)), [(slV ((nth items k).hh) ((nth items k).heads))]]) [[(.int .i64 (((nth items k).node).T))], [(.int .i64 (((nth items k).node).R))], [(.int .i64 (((nth items k).tm).T))], [(.int .i64 (((nth items k).tm).R))], [(.string ((nth items k).name))], (idCells ((nth items k).sub)), [(slV ((nth items k).hh) ((nth items k).heads))]] Try.sizeOf48 rfl rfl rfl rfl ⟨[[(.int .i64 0)], [(.int .i64 0)], [(.int .i64 0)], [(.int .i64 0)], [(.string ByteArray.empty)], (idCells zeroId), [(.slice none 0 0)]], [], rfl, rfl, rfl⟩ rfl ?_)
   intro w30 hg31 H32
   refine O_nil (Then_n (W_seq ?_))
   refine W_rgdM TryMixed (fun _ => True) (fun i => i == 17) [(0, .q true), (1, .q true), (2, .q false), (4, .q true), (5, .q false), (7, .q true), (8, .q false), (10, .q true), (11, .q false), (13, .q true), (14, .q false), (15, .q true), (3, .c false), (6, .c false), (9, .c false), (12, .c false), (16, .c false), (17, .c true), (18, .q true)] (by kernel_rfl) ?_
   refine Lx_q (i := 0) rfl rfl _ (fun v33 hv34 => R_move (v := (slV h18 acc)) rfl ⟨rfl, Gr.refl _ _⟩) ?_
   refine Lx_q (i := 1) rfl rfl _ (fun v35 hv36 => R_fieldAddr (off := 0) (oo := 0) Try.underlying48 rfl rfl Try.sizeOf24 rfl rfl ⟨rfl, Gr.refl _ _⟩) ?_
   refine Lx_q (i := 2) rfl rfl _ (fun v37 hv38 => R_loadA (cs := [[(.int .i64 (((nth items k).node).T))], [(.int .i64 (((nth items k).node).R))]]) Try.isAgg24 Try.sizeOf24 rfl rfl ((boxR_at ((H32.ext hv38).getOwn 0 rfl)).chunks 0 2 0 0 _ rfl rfl rfl) ⟨rfl, Gr.refl _ _⟩) ?_
   refine Lx_q (i := 4) rfl rfl _ (fun v39 hv40 => R_fieldAddr (off := 2) (oo := 2) Try.underlying48 rfl rfl Try.sizeOf24 rfl rfl ⟨rfl, Gr.refl _ _⟩) ?_
   refine Lx_q (i := 5) rfl rfl _ (fun v41 hv42 => R_loadA (cs := [[(.int .i64 (((nth items k).tm).T))], [(.int .i64 (((nth items k).tm).R))]]) Try.isAgg24 Try.sizeOf24 rfl rfl ((boxR_at ((H32.ext hv42).getOwn 0 rfl)).chunks 2 2 2 2 _ rfl rfl rfl) ⟨rfl, Gr.refl _ _⟩) ?_
   refine Lx_q (i := 7) rfl rfl _ (fun v43 hv44 => R_fieldAddr (off := 4) (oo := 4) Try.underlying48 rfl rfl Try.sizeOf9 rfl rfl ⟨rfl, Gr.refl _ _⟩) ?_
   refine Lx_q (i := 8) rfl rfl _ (fun v45 hv46 => R_load1 (v := (.string ((nth items k).name))) Try.isAgg9 rfl ((boxR_at ((H32.ext hv46).getOwn 0 rfl)).chunks 4 1 4 4 _ rfl rfl rfl) ⟨rfl, Gr.refl _ _⟩) ?_
   refine Lx_q (i := 10) rfl rfl _ (fun v47 hv48 => R_fieldAddr (off := 5) (oo := 5) Try.underlying48 rfl rfl Try.sizeOf36 rfl rfl ⟨rfl, Gr.refl _ _⟩) ?_
   refine Lx_q (i := 11) rfl rfl _ (fun v49 hv50 => R_loadA (cs := [(idCells ((nth items k).sub))]) Try.isAgg36 Try.sizeOf36 rfl rfl ((boxR_at ((H32.ext hv50).getOwn 0 rfl)).chunks 5 1 5 5 _ rfl rfl rfl) ⟨rfl, Gr.refl _ _⟩) ?_
   refine Lx_q (i := 13) rfl rfl _ (fun v51 hv52 => R_fieldAddr (off := 37) (oo := 37) Try.underlying48 rfl rfl Try.sizeOf42 rfl rfl ⟨rfl, Gr.refl _ _⟩) ?_
   refine Lx_q (i := 14) rfl rfl _ (fun v53 hv54 => R_load1 (v := (slV ((nth items k).hh) ((nth items k).heads))) Try.isAgg42 rfl ((boxR_at ((H32.ext hv54).getOwn 0 rfl)).chunks 6 1 37 37 _ rfl rfl rfl) ⟨rfl, Gr.refl _ _⟩) ?_
   refine Lx_q (i := 15) rfl rfl _ (fun v55 hv56 => R_len_slice (a := ((nth items k).hh).a) (n := ((nth items k).heads).length) (c := ((nth items k).hh).c) Try.underlying42 rfl ⟨rfl, Gr.refl _ _⟩) ?_
   refine Lx_c (i := 3) rfl rfl (fun w57 hw58 => ?_)
   have H59 := H32.ext hw58
   refine (R_callL (vs := [(.slice none 0 0), (aggOf (stampCh ((nth items k).node)))]) obj_PutDir_c71 rfl rfl ((obj_at nilH [] ((nth items k).node) w57 (Sl.nil _ _ _ _) (by decide)).ret ?_))
   rintro _ w61 ⟨h60, rfl, hx62, ho63⟩
   have H64 := H59.addRow hx62 ho63
   refine ⟨GrF.ofExt hx62, ?_⟩
   refine Lx_c (i := 6) rfl rfl (fun w65 hw66 => ?_)
   have H67 := H64.ext hw66
   refine (R_callL (vs := [(slV h60 ([] ++ atB ((nth items k).node))), (aggOf (stampCh ((nth items k).tm)))]) obj_PutDir_c71 rfl rfl ((obj_at h60 ([] ++ atB ((nth items k).node)) ((nth items k).tm) w65 (H67.rowSl 0 rfl (fun _ => rfl)) (by have h1 := atB_len (nth items k).node; have h2 := atB_len (nth items k).tm; have h3 := (dirOk_lens hD (show k < items.length by omega)); have h4 := textB_len (nth items k).name; have h5 := numB_len ((nth items k).heads.length : Nat); simp only [List.length_append, List.length_nil, idList_len]; omega)).ret ?_))
   rintro _ w69 ⟨h68, rfl, hx70, ho71⟩
   have H72 := H67.addRow hx70 ho71
   refine ⟨GrF.ofExt hx70, ?_⟩
   refine Lx_c (i := 9) rfl rfl (fun w73 hw74 => ?_)
   have H75 := H72.ext hw74
   refine (R_callL (vs := [(slV h68 (([] ++ atB ((nth items k).node)) ++ atB ((nth items k).tm))), (.string ((nth items k).name))]) obj_PutDir_c70 rfl rfl ((enc_Text h68 (([] ++ atB ((nth items k).node)) ++ atB ((nth items k).tm)) ((nth items k).name) w73 (H75.rowSl 0 rfl (fun _ => rfl)) (by have h1 := atB_len (nth items k).node; have h2 := atB_len (nth items k).tm; have h3 := (dirOk_lens hD (show k < items.length by omega)); have h4 := textB_len (nth items k).name; have h5 := numB_len ((nth items k).heads.length : Nat); simp only [List.length_append, List.length_nil, idList_len]; omega)).ret ?_))
   rintro _ w77 ⟨h76, rfl, hx78, ho79⟩
   have H80 := H75.addRow hx78 ho79
   refine ⟨GrF.ofExt hx78, ?_⟩
   refine Lx_c (i := 12) rfl rfl (fun w81 hw82 => ?_)
   have H83 := H80.ext hw82
   refine (R_callL (vs := [(slV h76 ((([] ++ atB ((nth items k).node)) ++ atB ((nth items k).tm)) ++ textB ((nth items k).name))), (aggOf (idCh ((nth items k).sub)))]) obj_PutDir_c69 rfl rfl ((enc_Id h76 ((([] ++ atB ((nth items k).node)) ++ atB ((nth items k).tm)) ++ textB ((nth items k).name)) ((nth items k).sub) w81 (H83.rowSl 0 rfl (fun _ => rfl)) (by have h1 := atB_len (nth items k).node; have h2 := atB_len (nth items k).tm; have h3 := (dirOk_lens hD (show k < items.length by omega)); have h4 := textB_len (nth items k).name; have h5 := numB_len ((nth items k).heads.length : Nat); simp only [List.length_append, List.length_nil, idList_len]; omega)).ret ?_))
   rintro _ w85 ⟨h84, rfl, hx86, ho87⟩
   have H88 := H83.addRow hx86 ho87
   refine ⟨GrF.ofExt hx86, ?_⟩
   refine Lx_c (i := 16) rfl rfl (fun w89 hw90 => ?_)
   have H91 := H88.ext hw90
   refine (R_callL (vs := [(slV h84 (((([] ++ atB ((nth items k).node)) ++ atB ((nth items k).tm)) ++ textB ((nth items k).name)) ++ idList ((nth items k).sub))), (.int .i64 ((((nth items k).heads).length : Nat) : Int))]) obj_PutDir_c68 rfl rfl ((enc_Num h84 (((([] ++ atB ((nth items k).node)) ++ atB ((nth items k).tm)) ++ textB ((nth items k).name)) ++ idList ((nth items k).sub)) ((((nth items k).heads).length : Nat) : Int) w89 (H91.rowSl 0 rfl (fun _ => rfl)) (by have h1 := atB_len (nth items k).node; have h2 := atB_len (nth items k).tm; have h3 := (dirOk_lens hD (show k < items.length by omega)); have h4 := textB_len (nth items k).name; have h5 := numB_len ((nth items k).heads.length : Nat); simp only [List.length_append, List.length_nil, idList_len]; omega)).ret ?_))
   rintro _ w93 ⟨h92, rfl, hx94, ho95⟩
   have H96 := H91.addRow hx94 ho95
   refine ⟨GrF.ofExt hx94, ?_⟩
   refine Lx_c (i := 17) rfl rfl (fun w97 hw98 => ?_)
   have H99 := H96.ext hw98
   refine (C_append H99 6 rfl (bytes := 1) (l := acc) (ys := ((((([] ++ atB ((nth items k).node)) ++ atB ((nth items k).tm)) ++ textB ((nth items k).name)) ++ idList ((nth items k).sub)) ++ numB ((((nth items k).heads).length : Nat) : Int))) Try.underlying79 rfl rfl rfl rfl rfl (by decide) rfl rfl (OwnS.sl (H99.getOwn 0 rfl) (fun _ => rfl)) (fun _ => rfl) (fun _ => rfl) (by have h1 := atB_len (nth items k).node; have h2 := atB_len (nth items k).tm; have h3 := (dirOk_lens hD (show k < items.length by omega)); have h4 := textB_len (nth items k).name; have h5 := numB_len ((nth items k).heads.length : Nat); simp only [List.length_append, List.length_nil, idList_len]; omega) (by decide) ?_)
   intro h100 w101 hg102 H103
   refine ⟨Gr.mono (M' := fun _ => True) hg102 (fun _ _ => trivial), ?_⟩
   refine Lx_q (i := 18) rfl rfl _ (fun v104 hv105 => R_assign (v := (slV h100 (acc ++ ((((([] ++ atB ((nth items k).node)) ++ atB ((nth items k).tm)) ++ textB ((nth items k).name)) ++ idList ((nth items k).sub)) ++ numB ((((nth items k).heads).length : Nat) : Int))))) rfl ⟨rfl, Gr.refl _ _⟩) ?_
   refine Lx_nil (fun w106 hw107 => ?_)
   have H108 := H103.ext hw107
   refine Then_n (W_seq (W_reg ?_))
   refine O_v rfl (R_fieldAddr (off := 37) (oo := 37) Try.underlying48 rfl rfl Try.sizeOf42 rfl rfl ?_)
   refine O_v rfl (R_load1 (v := (slV ((nth items k).hh) ((nth items k).heads))) Try.isAgg42 rfl ((boxR_at (H108.getOwn 5 rfl)).chunks 6 1 37 37 _ rfl rfl rfl) ?_)
   refine O_v rfl (R_len_slice (a := ((nth items k).hh).a) (n := ((nth items k).heads).length) (c := ((nth items k).hh).c) Try.underlying42 rfl ?_)
   refine O_v rfl (R_move (v := (.int .i64 0)) rfl ?_)
   refine O_nil (Then_n (W_block ?_))
   refine W_loop (fun m110 e111 w112 => ∃ (j : Nat), ∃ (acc2 : List UInt8), ∃ (h109 : SlH), m110 = (nth items k).heads.length - j ∧ (j ≤ (nth items k).heads.length) ∧ (acc2 = acc ++ itemTo (nth items k) j) ∧ (acc2.length ≤ 10 + k * 51000 + 200 + j * 50) ∧ ((nth items k).heads.length ≤ 1000) ∧ (items.length ≤ 1000) ∧ ∃ eb113, e111 = envL [(2, (.slice none 0 0)), (3, (.int .i64 0)), (4, (slV h109 acc2)), (6, (.pointer (some ⟨b25, 0, none⟩))), (16, (slV hitems items)), (17, (.int .i64 ((items.length : Nat) : Int))), (18, (.int .i64 ((k : Nat) : Int))), (19, (.bool (decide (((k : Nat) : Int) < ((items.length : Nat) : Int))))), (20, (.pointer (some ⟨hitems.b, (hitems.o + k * 38), none⟩))), (21, (aggOf (itemCh (nth items k)))), (22, (slV h18 acc)), (23, (.pointer (some ⟨b25, 0, none⟩))), (24, (aggOf (stampCh ((nth items k).node)))), (25, (slV h60 ([] ++ atB ((nth items k).node)))), (26, (.pointer (some ⟨b25, 2, none⟩))), (27, (aggOf (stampCh ((nth items k).tm)))), (28, (slV h68 (([] ++ atB ((nth items k).node)) ++ atB ((nth items k).tm)))), (29, (.pointer (some ⟨b25, 4, none⟩))), (30, (.string ((nth items k).name))), (31, (slV h76 ((([] ++ atB ((nth items k).node)) ++ atB ((nth items k).tm)) ++ textB ((nth items k).name)))), (32, (.pointer (some ⟨b25, 5, none⟩))), (33, (aggOf (idCh ((nth items k).sub)))), (34, (slV h84 (((([] ++ atB ((nth items k).node)) ++ atB ((nth items k).tm)) ++ textB ((nth items k).name)) ++ idList ((nth items k).sub)))), (35, (.pointer (some ⟨b25, 37, none⟩))), (36, (slV ((nth items k).hh) ((nth items k).heads))), (37, (.int .i64 ((((nth items k).heads).length : Nat) : Int))), (38, (slV h92 ((((([] ++ atB ((nth items k).node)) ++ atB ((nth items k).tm)) ++ textB ((nth items k).name)) ++ idList ((nth items k).sub)) ++ numB ((((nth items k).heads).length : Nat) : Int)))), (39, (slV h100 (acc ++ ((((([] ++ atB ((nth items k).node)) ++ atB ((nth items k).tm)) ++ textB ((nth items k).name)) ++ idList ((nth items k).sub)) ++ numB ((((nth items k).heads).length : Nat) : Int))))), (40, (.pointer (some ⟨b25, 37, none⟩))), (41, (slV ((nth items k).hh) ((nth items k).heads))), (42, (.int .i64 ((((nth items k).heads).length : Nat) : Int))), (43, (.int .i64 ((j : Nat) : Int)))] eb113 ∧ Ctx w nob w112 [rowR 5 1 encB h92 ((((([] ++ atB ((nth items k).node)) ++ atB ((nth items k).tm)) ++ textB ((nth items k).name)) ++ idList ((nth items k).sub)) ++ numB ((((nth items k).heads).length : Nat) : Int)), rowR 5 1 encB h84 (((([] ++ atB ((nth items k).node)) ++ atB ((nth items k).tm)) ++ textB ((nth items k).name)) ++ idList ((nth items k).sub)), rowR 5 1 encB h76 ((([] ++ atB ((nth items k).node)) ++ atB ((nth items k).tm)) ++ textB ((nth items k).name)), rowR 5 1 encB h68 (([] ++ atB ((nth items k).node)) ++ atB ((nth items k).tm)), rowR 5 1 encB h60 ([] ++ atB ((nth items k).node)), boxR b25 48 [[(.int .i64 (((nth items k).node).T))], [(.int .i64 (((nth items k).node).R))], [(.int .i64 (((nth items k).tm).T))], [(.int .i64 (((nth items k).tm).R))], [(.string ((nth items k).name))], (idCells ((nth items k).sub)), [(slV ((nth items k).hh) ((nth items k).heads))]], rowR 5 1 encB h109 acc2, rowR 5 1 encB ⟨some ⟨b8, 0, none⟩, b8, 0, 1⟩ ([2] : List UInt8)] [deepI (Old w) headCh 34 (fun x : ItemS => x.hh) (fun x : ItemS => x.heads) items, slI (Old w) itemCh 38 hitems items]) _ ⟨0, (acc ++ ((((([] ++ atB ((nth items k).node)) ++ atB ((nth items k).tm)) ++ textB ((nth items k).name)) ++ idList ((nth items k).sub)) ++ numB ((((nth items k).heads).length : Nat) : Int))), h100, rfl, (by omega), (item_start acc (nth items k)), (by have h1 := atB_len (nth items k).node; have h2 := atB_len (nth items k).tm; have h3 := (dirOk_lens hD (show k < items.length by omega)); have h4 := textB_len (nth items k).name; have h5 := numB_len ((nth items k).heads.length : Nat); simp only [List.length_append, List.length_nil, idList_len]; omega), (dirOk_lens hD (show k < items.length by omega)).2.1, (dirOk_lens hD (show k < items.length by omega)).2.2, _, envL_self ⟨rfl, rfl, rfl, rfl, rfl, rfl, rfl, rfl, rfl, rfl, rfl, rfl, rfl, rfl, rfl, rfl, rfl, rfl, rfl, rfl, rfl, rfl, rfl, rfl, rfl, rfl, rfl, rfl, rfl, rfl, rfl, rfl, trivial⟩, H108⟩ ?_
   rintro m110 _ w112 ⟨j, acc2, h109, rfl, hj, ha2, hal2, hx, hki, eb113, rfl, H114⟩
   refine W_seq (W_reg ?_)
   refine O_v rfl (R_cmp (a := ((j : Nat) : Int)) (b := ((((nth items k).heads).length : Nat) : Int)) (r := (decide (((j : Nat) : Int) < ((((nth items k).heads).length : Nat) : Int)))) rfl rfl rfl ?_)
   refine O_nil (Then_n (W_seq ?_))
   refine W_cond (t := (decide (((j : Nat) : Int) < ((((nth items k).heads).length : Nat) : Int)))) rfl (fun hc115 => ?_) (fun hc115 => ?_)
   ·have hc115 : (((j : Nat) : Int) < ((((nth items k).heads).length : Nat) : Int)) := (of_decide_eq_true hc115)
    refine W_skip (Then_n (W_seq (W_block (W_seq (W_reg ?_)))))
    refine O_v rfl (R_index_pure (Sl.as ((nth items k).hh) ((nth items k).heads) ((H114.getImm 0 rfl) _ (nth_mem (by omega)))) (n := ((nth items k).heads).length) rfl (j := ((j : Nat) : Int)) (oo := (((nth items k).hh).o + j * 34)) Try.underlying42 Try.sizeOf62 rfl rfl (by omega) (by omega) rfl ?_)
    refine O_v rfl (R_loadA (cs := [[(.int .i64 (((nth ((nth items k).heads) j).tm).T))], [(.int .i64 (((nth ((nth items k).heads) j).tm).R))], (idCells ((nth ((nth items k).heads) j).data))]) Try.isAgg62 Try.sizeOf62 rfl rfl ((Sl.elem (Sl.as ((nth items k).hh) ((nth items k).heads) ((H114.getImm 0 rfl) _ (nth_mem (by omega)))) (i := j) (by omega) rfl).chunks 0 3 0 (((nth items k).hh).o + j * 34) _ rfl rfl rfl) ?_)
    refine O_v rfl (C_alloc H114 [[(.int .i64 0)], [(.int .i64 0)], (idCells zeroId)] Try.zeroValue62 ?_)
    intro b116 w117 hb118 hx119 H120
    refine O_u (C_storeA H120 0 rfl 0 (sub := [[(.int .i64 (((nth ((nth items k).heads) j).tm).T))], [(.int .i64 (((nth ((nth items k).heads) j).tm).R))], (idCells ((nth ((nth items k).heads) j).data))]) [[(.int .i64 (((nth ((nth items k).heads) j).tm).T))], [(.int .i64 (((nth ((nth items k).heads) j).tm).R))], (idCells ((nth ((nth items k).heads) j).data))] Try.sizeOf62 rfl rfl rfl rfl ⟨[[(.int .i64 0)], [(.int .i64 0)], (idCells zeroId)], [], rfl, rfl, rfl⟩ rfl ?_)
    intro w121 hg122 H123
    refine O_nil (Then_n ?_)
    refine W_rgdM TryMixed (fun _ => True) (fun i => i == 7) [(0, .q true), (1, .q true), (2, .q false), (4, .q true), (5, .q false), (3, .c false), (6, .c false), (7, .c true), (8, .q true)] (by kernel_rfl) ?_
    refine Lx_q (i := 0) rfl rfl _ (fun v124 hv125 => R_move (v := (slV h109 acc2)) rfl ⟨rfl, Gr.refl _ _⟩) ?_
    refine Lx_q (i := 1) rfl rfl _ (fun v126 hv127 => R_fieldAddr (off := 0) (oo := 0) Try.underlying62 rfl rfl Try.sizeOf24 rfl rfl ⟨rfl, Gr.refl _ _⟩) ?_
    refine Lx_q (i := 2) rfl rfl _ (fun v128 hv129 => R_loadA (cs := [[(.int .i64 (((nth ((nth items k).heads) j).tm).T))], [(.int .i64 (((nth ((nth items k).heads) j).tm).R))]]) Try.isAgg24 Try.sizeOf24 rfl rfl ((boxR_at ((H123.ext hv129).getOwn 0 rfl)).chunks 0 2 0 0 _ rfl rfl rfl) ⟨rfl, Gr.refl _ _⟩) ?_
    refine Lx_q (i := 4) rfl rfl _ (fun v130 hv131 => R_fieldAddr (off := 2) (oo := 2) Try.underlying62 rfl rfl Try.sizeOf36 rfl rfl ⟨rfl, Gr.refl _ _⟩) ?_
    refine Lx_q (i := 5) rfl rfl _ (fun v132 hv133 => R_loadA (cs := [(idCells ((nth ((nth items k).heads) j).data))]) Try.isAgg36 Try.sizeOf36 rfl rfl ((boxR_at ((H123.ext hv133).getOwn 0 rfl)).chunks 2 1 2 2 _ rfl rfl rfl) ⟨rfl, Gr.refl _ _⟩) ?_
    refine Lx_c (i := 3) rfl rfl (fun w134 hw135 => ?_)
    have H136 := H123.ext hw135
    refine (R_callL (vs := [(.slice none 0 0), (aggOf (stampCh ((nth ((nth items k).heads) j).tm)))]) obj_PutDir_c71 rfl rfl ((obj_at nilH [] ((nth ((nth items k).heads) j).tm) w134 (Sl.nil _ _ _ _) (by decide)).ret ?_))
    rintro _ w138 ⟨h137, rfl, hx139, ho140⟩
    have H141 := H136.addRow hx139 ho140
    refine ⟨GrF.ofExt hx139, ?_⟩
    refine Lx_c (i := 6) rfl rfl (fun w142 hw143 => ?_)
    have H144 := H141.ext hw143
    refine (R_callL (vs := [(slV h137 ([] ++ atB ((nth ((nth items k).heads) j).tm))), (aggOf (idCh ((nth ((nth items k).heads) j).data)))]) obj_PutDir_c69 rfl rfl ((enc_Id h137 ([] ++ atB ((nth ((nth items k).heads) j).tm)) ((nth ((nth items k).heads) j).data) w142 (H144.rowSl 0 rfl (fun _ => rfl)) (by have h1 := atB_len (nth (nth items k).heads j).tm; have h3 := (dirOk_lens hD (show k < items.length by omega)); simp only [List.length_append, List.length_nil, List.length_cons, idList_len]; omega)).ret ?_))
    rintro _ w146 ⟨h145, rfl, hx147, ho148⟩
    have H149 := H144.addRow hx147 ho148
    refine ⟨GrF.ofExt hx147, ?_⟩
    refine Lx_c (i := 7) rfl rfl (fun w150 hw151 => ?_)
    have H152 := H149.ext hw151
    refine (C_append H152 9 rfl (bytes := 1) (l := acc2) (ys := (([] ++ atB ((nth ((nth items k).heads) j).tm)) ++ idList ((nth ((nth items k).heads) j).data))) Try.underlying79 rfl rfl rfl rfl rfl (by decide) rfl rfl (OwnS.sl (H152.getOwn 0 rfl) (fun _ => rfl)) (fun _ => rfl) (fun _ => rfl) (by have h1 := atB_len (nth (nth items k).heads j).tm; have h3 := (dirOk_lens hD (show k < items.length by omega)); simp only [List.length_append, List.length_nil, List.length_cons, idList_len]; omega) (by decide) ?_)
    intro h153 w154 hg155 H156
    refine ⟨Gr.mono (M' := fun _ => True) hg155 (fun _ _ => trivial), ?_⟩
    refine Lx_q (i := 8) rfl rfl _ (fun v157 hv158 => R_assign (v := (slV h153 (acc2 ++ (([] ++ atB ((nth ((nth items k).heads) j).tm)) ++ idList ((nth ((nth items k).heads) j).data))))) rfl ⟨rfl, Gr.refl _ _⟩) ?_
    refine Lx_nil (fun w159 hw160 => ?_)
    have H161 := H156.ext hw160
    refine Blk_n (Then_n (W_reg ?_))
    refine O_v rfl (R_arith (a := ((j : Nat) : Int)) (b := 1) (r0 := ((j : Nat) : Int) + 1) (r := ((j + 1 : Nat) : Int)) rfl rfl rfl (wrapN _ (by omega)) ?_)
    refine O_v rfl (R_move (v := (.int .i64 ((j + 1 : Nat) : Int))) rfl ?_)
    refine O_nil (Then_n ?_)
    have H162 := H161.sub (B' := [rowR 5 1 encB h92 ((((([] ++ atB ((nth items k).node)) ++ atB ((nth items k).tm)) ++ textB ((nth items k).name)) ++ idList ((nth items k).sub)) ++ numB ((((nth items k).heads).length : Nat) : Int)), rowR 5 1 encB h84 (((([] ++ atB ((nth items k).node)) ++ atB ((nth items k).tm)) ++ textB ((nth items k).name)) ++ idList ((nth items k).sub)), rowR 5 1 encB h76 ((([] ++ atB ((nth items k).node)) ++ atB ((nth items k).tm)) ++ textB ((nth items k).name)), rowR 5 1 encB h68 (([] ++ atB ((nth items k).node)) ++ atB ((nth items k).tm)), rowR 5 1 encB h60 ([] ++ atB ((nth items k).node)), boxR b25 48 [[(.int .i64 (((nth items k).node).T))], [(.int .i64 (((nth items k).node).R))], [(.int .i64 (((nth items k).tm).T))], [(.int .i64 (((nth items k).tm).R))], [(.string ((nth items k).name))], (idCells ((nth items k).sub)), [(slV ((nth items k).hh) ((nth items k).heads))]], rowR 5 1 encB h153 (acc2 ++ (([] ++ atB ((nth ((nth items k).heads) j).tm)) ++ idList ((nth ((nth items k).heads) j).data))), rowR 5 1 encB ⟨some ⟨b8, 0, none⟩, b8, 0, 1⟩ ([2] : List UInt8)]) (I' := [deepI (Old w) headCh 34 (fun x : ItemS => x.hh) (fun x : ItemS => x.heads) items, slI (Old w) itemCh 38 hitems items]) (List.Sublist.cons _ (List.Sublist.cons _ (List.Sublist.cons _ (List.Sublist.cons_cons _ (List.Sublist.cons_cons _ (List.Sublist.cons_cons _ (List.Sublist.cons_cons _ (List.Sublist.cons_cons _ (List.Sublist.cons_cons _ (List.Sublist.cons_cons _ (List.Sublist.cons_cons _ List.Sublist.slnil))))))))))) (List.forall_mem_cons.2 ⟨List.mem_of_getElem? (i := 0) rfl, List.forall_mem_cons.2 ⟨List.mem_of_getElem? (i := 1) rfl, fun _ h => (nomatch h)⟩⟩)
    refine ⟨_, ?_, (j + 1), (acc2 ++ (([] ++ atB ((nth ((nth items k).heads) j).tm)) ++ idList ((nth ((nth items k).heads) j).data))), h153, rfl, (by omega), (head_step ha2 (by omega)), (by have h1 := atB_len (nth (nth items k).heads j).tm; have h3 := (dirOk_lens hD (show k < items.length by omega)); simp only [List.length_append, List.length_nil, List.length_cons, idList_len]; omega), (by omega), (by omega), _, envL_self ⟨rfl, rfl, rfl, rfl, rfl, rfl, rfl, rfl, rfl, rfl, rfl, rfl, rfl, rfl, rfl, rfl, rfl, rfl, rfl, rfl, rfl, rfl, rfl, rfl, rfl, rfl, rfl, rfl, rfl, rfl, rfl, rfl, trivial⟩, H162⟩
    omega
   ·have hc115 : ¬ (((j : Nat) : Int) < ((((nth items k).heads).length : Nat) : Int)) := (of_decide_eq_false hc115)
    refine W_exit (Then_x (Then_x (Blk_x (Blk_n (Then_n (W_reg ?_))))))
    refine O_v rfl (R_arith (a := ((k : Nat) : Int)) (b := 1) (r0 := ((k : Nat) : Int) + 1) (r := ((k + 1 : Nat) : Int)) rfl rfl rfl (wrapN _ (by omega)) ?_)
    refine O_v rfl (R_move (v := (.int .i64 ((k + 1 : Nat) : Int))) rfl ?_)
    refine O_nil (Then_n ?_)
    have H163 := H114.sub (B' := [rowR 5 1 encB h109 acc2, rowR 5 1 encB ⟨some ⟨b8, 0, none⟩, b8, 0, 1⟩ ([2] : List UInt8)]) (I' := [deepI (Old w) headCh 34 (fun x : ItemS => x.hh) (fun x : ItemS => x.heads) items, slI (Old w) itemCh 38 hitems items]) (List.Sublist.cons _ (List.Sublist.cons _ (List.Sublist.cons _ (List.Sublist.cons _ (List.Sublist.cons _ (List.Sublist.cons _ (List.Sublist.cons_cons _ (List.Sublist.cons_cons _ List.Sublist.slnil)))))))) (List.forall_mem_cons.2 ⟨List.mem_of_getElem? (i := 0) rfl, List.forall_mem_cons.2 ⟨List.mem_of_getElem? (i := 1) rfl, fun _ h => (nomatch h)⟩⟩)
    refine ⟨_, ?_, (k + 1), acc2, h109, rfl, (by omega), (item_end ha ha2 (by omega) (by omega)), (by have := dirOk_lens hD (show k < items.length by omega); omega), hD, _, envL_self ⟨rfl, rfl, rfl, rfl, rfl, rfl, trivial⟩, H163⟩
    omega
  ·have hc24 : ¬ (((k : Nat) : Int) < ((items.length : Nat) : Int)) := (of_decide_eq_false hc24)
   refine W_exit (Then_x (Then_x (Blk_x (Then_n (W_seq (W_reg ?_))))))
   refine O_v rfl (R_move (v := (slV h18 acc)) rfl ?_)
   refine O_v rfl (R_assign (v := (slV h18 acc)) rfl ?_)
   refine O_v rfl (R_assign (v := (.int .i64 0)) rfl ?_)
   refine O_nil (Then_n (W_ret ?_))
   refine ret_2 (v := (slV h18 acc)) (v' := (.int .i64 0)) Try.results57 rfl rfl ?_
   have hE : acc = putDirB items := (dir_end ha hD (by omega)).1
   have hV : 0 = putDirE items := (dir_end ha hD (by omega)).2
   refine ⟨h18, ?_, H23.gr, ?_⟩
   · exact two_eq (fun l n => Value.tuple #[slV h18 l, Value.int .i64 n]) hE hV
   · have hO := H23.retRow 0 rfl
     exact hE ▸ hO

end Go.Proofs.Ytiknfldhommmpaa
namespace Go.Proofs.Ytiknfldhommmpaa
open Go
set_option maxRecDepth 100000
set_option linter.unusedVariables false
set_option linter.unusedSimpArgs false
set_option maxHeartbeats 1000000 in
theorem Clone_Head (hs : SlH) (s : List Head) (w : World) (Ss : Sl (Old w) headCh 34 hs s w) (hl : s.length * 48 ≤ 140737488355328) :
    Calls Try.prog 27 #[(slV hs s)] w (Ret fun v w' => ∃ h, v = slV h (s) ∧ Ext w w' ∧ OwnS w.heap.size 62 34 headCh h (s) w') := by
 refine calls_W Try.func27 rfl Try.ntmps27 rfl ?_
 have H0 := Ctx.start w nob
 have H1 := H0.addSl _ Ss (fun b hb => ⟨hb, fun _ ho => (nomatch ho)⟩)
 have LSs := Ss.len
 refine W_seq (W_reg ?_)
 refine O_v rfl (R_assign (v := (.slice none 0 0)) rfl ?_)
 refine O_nil (Then_n (W_seq (W_seq (W_reg ?_))))
 refine O_v rfl (R_move (v := (slV hs s)) rfl ?_)
 refine O_v rfl (R_slice_nil (a := hs.a) Try.underlying42 rfl rfl ?_)
 refine O_nil (Then_n ?_)
 refine W_cond (t := hs.a.isNone) rfl (fun hc2 => ?_) (fun hc2 => ?_)
 ·have hc2 : hs.a.isNone = true := hc2
  refine W_seq (W_reg ?_)
  refine O_v rfl (R_assign (v := (.slice none 0 0)) rfl ?_)
  refine O_nil (Then_n (W_ret (Then_r ?_)))
  refine ret_1 (v := (.slice none 0 0)) Try.results27 rfl ?_
  have H3 := H1.addNil 62 34 headCh
  have hE : [] = s := (Sl.isNil Ss (by assumption)).symm
  refine ⟨nilH, ?_, H3.gr, ?_⟩
  · exact congrArg (fun l => slV nilH l) hE
  · have hO := H3.retRow 0 rfl
    exact hE ▸ hO
 ·have hc2 : hs.a.isNone = false := hc2
  refine W_skip (Then_n (W_seq (W_reg ?_)))
  refine O_v rfl (C_buildSliceL H1 (enc := headCh) (val := headV) ([] : List Head) Try.underlying42 Try.sizeOf62 Try.zeroValue62 rfl (by decide) (fun _ => rfl) (fun _ => rfl) rfl rfl (by decide) ?_)
  intro b4 w5 hb6 hx7 H8
  refine O_v rfl (R_move (v := (slV hs s)) rfl ?_)
  refine O_v rfl (C_append H8 0 rfl (bytes := 48) (l := ([] : List Head)) (ys := s) Try.underlying42 rfl rfl rfl rfl rfl (by decide) rfl rfl (H8.sl 0 rfl) (fun _ => rfl) (fun _ => rfl) (by simpa using hl) (by decide) ?_)
  intro h9 w10 hg11 H12
  refine O_v rfl (R_assign (v := (slV h9 (([] : List Head) ++ s))) rfl ?_)
  refine O_nil (Then_n (W_ret ?_))
  refine ret_1 (v := (slV h9 (([] : List Head) ++ s))) Try.results27 rfl ?_
  have hE : ([] : List Head) ++ s = s := List.nil_append _
  refine ⟨h9, ?_, H12.gr, ?_⟩
  · exact congrArg (fun l => slV h9 l) hE
  · have hO := H12.retRow 0 rfl
    exact hE ▸ hO

end Go.Proofs.Ytiknfldhommmpaa
namespace Go.Proofs.Ytiknfldhommmpaa
open Go
set_option maxRecDepth 100000
set_option linter.unusedVariables false
set_option linter.unusedSimpArgs false
theorem snap_item_c27 : callable Try.prog 27 = true := by kernel_rfl
set_option maxHeartbeats 1000000 in
theorem snap_item (r : RowS) (sb : ID) (w : World) (Sr_heads : Sl (Old w) headCh 34 r.hh r.heads w) (hh : r.heads.length * 48 ≤ 140737488355328) :
    Calls Try.prog 58 #[(aggOf (rowCh r)), (aggOf (idCh sb))] w (Ret fun v w' => ∃ h, v = itemV ({ node := r.node, tm := r.tm, name := r.name, sub := sb, heads := r.heads, hh := h } : ItemS) ∧ Ext w w' ∧ OwnS w.heap.size 62 34 headCh h (r.heads) w') := by
 refine calls_W Try.func58 rfl Try.ntmps58 rfl ?_
 have H0 := Ctx.start w nob
 have H1 := H0.addSl _ Sr_heads (fun b hb => ⟨hb, fun _ ho => (nomatch ho)⟩)
 have LSr_heads := Sr_heads.len
 refine W_seq (W_reg ?_)
 refine O_v rfl (C_box H1 [[(.int .i64 r.node.T)], [(.int .i64 r.node.R)], [(.int .i64 r.par.T)], [(.int .i64 r.par.R)], [(.int .i64 r.tm.T)], [(.int .i64 r.tm.R)], [(.string r.name)], [(slV r.hh r.heads)]] rfl ?_)
 intro b2 w3 hb4 hx5 H6
 refine O_v rfl (C_box H6 [(idCells sb)] rfl ?_)
 intro b7 w8 hb9 hx10 H11
 refine O_v rfl (C_alloc H11 [[(.int .i64 0)], [(.int .i64 0)], [(.int .i64 0)], [(.int .i64 0)], [(.string ByteArray.empty)], (idCells zeroId), [(.slice none 0 0)]] Try.zeroValue48 ?_)
 intro b12 w13 hb14 hx15 H16
 refine O_nil (Then_n (W_seq ?_))
 refine W_rgdM TryMixed (fun _ => True) (fun i => i == 11) [(0, .q true), (1, .q false), (2, .q true), (3, .q false), (4, .q true), (5, .q false), (6, .q false), (7, .q true), (8, .q false), (9, .c false), (10, .q true), (11, .c true)] (by kernel_rfl) ?_
 refine Lx_q (i := 0) rfl rfl _ (fun v17 hv18 => R_fieldAddr (off := 0) (oo := 0) Try.underlying44 rfl rfl Try.sizeOf24 rfl rfl ⟨rfl, Gr.refl _ _⟩) ?_
 refine Lx_q (i := 1) rfl rfl _ (fun v19 hv20 => R_loadA (cs := [[(.int .i64 r.node.T)], [(.int .i64 r.node.R)]]) Try.isAgg24 Try.sizeOf24 rfl rfl ((boxR_at ((H16.ext hv20).getOwn 2 rfl)).chunks 0 2 0 0 _ rfl rfl rfl) ⟨rfl, Gr.refl _ _⟩) ?_
 refine Lx_q (i := 2) rfl rfl _ (fun v21 hv22 => R_fieldAddr (off := 4) (oo := 4) Try.underlying44 rfl rfl Try.sizeOf24 rfl rfl ⟨rfl, Gr.refl _ _⟩) ?_
 refine Lx_q (i := 3) rfl rfl _ (fun v23 hv24 => R_loadA (cs := [[(.int .i64 r.tm.T)], [(.int .i64 r.tm.R)]]) Try.isAgg24 Try.sizeOf24 rfl rfl ((boxR_at ((H16.ext hv24).getOwn 2 rfl)).chunks 4 2 4 4 _ rfl rfl rfl) ⟨rfl, Gr.refl _ _⟩) ?_
 refine Lx_q (i := 4) rfl rfl _ (fun v25 hv26 => R_fieldAddr (off := 6) (oo := 6) Try.underlying44 rfl rfl Try.sizeOf9 rfl rfl ⟨rfl, Gr.refl _ _⟩) ?_
 refine Lx_q (i := 5) rfl rfl _ (fun v27 hv28 => R_load1 (v := (.string r.name)) Try.isAgg9 rfl ((boxR_at ((H16.ext hv28).getOwn 2 rfl)).chunks 6 1 6 6 _ rfl rfl rfl) ⟨rfl, Gr.refl _ _⟩) ?_
 refine Lx_q (i := 6) rfl rfl _ (fun v29 hv30 => R_loadA (cs := [(idCells sb)]) Try.isAgg36 Try.sizeOf36 rfl rfl ((boxR_at ((H16.ext hv30).getOwn 1 rfl)).chunks 0 1 0 0 _ rfl rfl rfl) ⟨rfl, Gr.refl _ _⟩) ?_
 refine Lx_q (i := 7) rfl rfl _ (fun v31 hv32 => R_fieldAddr (off := 7) (oo := 7) Try.underlying44 rfl rfl Try.sizeOf42 rfl rfl ⟨rfl, Gr.refl _ _⟩) ?_
 refine Lx_q (i := 8) rfl rfl _ (fun v33 hv34 => R_load1 (v := (slV r.hh r.heads)) Try.isAgg42 rfl ((boxR_at ((H16.ext hv34).getOwn 2 rfl)).chunks 7 1 7 7 _ rfl rfl rfl) ⟨rfl, Gr.refl _ _⟩) ?_
 refine Lx_c (i := 9) rfl rfl (fun w35 hw36 => ?_)
 have H37 := H16.ext hw36
 refine (R_callL (vs := [(slV r.hh r.heads)]) snap_item_c27 rfl rfl ((Clone_Head r.hh r.heads w35 (H37.slOld 0 rfl) hh).ret ?_))
 rintro _ w39 ⟨h38, rfl, hx40, ho41⟩
 have H42 := H37.addRow hx40 ho41
 refine ⟨GrF.ofExt hx40, ?_⟩
 refine Lx_q (i := 10) rfl rfl _ (fun v43 hv44 => R_buildL (vs := [(0, (aggOf (stampCh r.node))), (1, (aggOf (stampCh r.tm))), (2, (.string r.name)), (3, (aggOf (idCh sb))), (4, (slV h38 r.heads))]) (v := aggOf [[(.int .i64 r.node.T)], [(.int .i64 r.node.R)], [(.int .i64 r.tm.T)], [(.int .i64 r.tm.R)], [(.string r.name)], (idCells sb), [(slV h38 r.heads)]]) rfl (fun _ => by kernel_rfl) ⟨rfl, Gr.refl _ _⟩) ?_
 refine Lx_cu (i := 11) rfl (fun w45 hw46 => ?_)
 have H47 := H42.ext hw46
 refine (C_storeA H47 1 rfl 0 (sub := [[(.int .i64 r.node.T)], [(.int .i64 r.node.R)], [(.int .i64 r.tm.T)], [(.int .i64 r.tm.R)], [(.string r.name)], (idCells sb), [(slV h38 r.heads)]]) [[(.int .i64 r.node.T)], [(.int .i64 r.node.R)], [(.int .i64 r.tm.T)], [(.int .i64 r.tm.R)], [(.string r.name)], (idCells sb), [(slV h38 r.heads)]] Try.sizeOf48 rfl rfl rfl rfl ⟨[[(.int .i64 0)], [(.int .i64 0)], [(.int .i64 0)], [(.int .i64 0)], [(.string ByteArray.empty)], (idCells zeroId), [(.slice none 0 0)]], [], rfl, rfl, rfl⟩ rfl ?_)
 intro w48 hg49 H50
 refine ⟨Gr.mono (M' := fun _ => True) hg49 (fun _ _ => trivial), ?_⟩
 refine Lx_nil (fun w51 hw52 => ?_)
 have H53 := H50.ext hw52
 refine Then_n (W_ret ?_)
 refine ret_c Try.results58 (inMem (cs := [[(.int .i64 r.node.T)], [(.int .i64 r.node.R)], [(.int .i64 r.tm.T)], [(.int .i64 r.tm.R)], [(.string r.name)], (idCells sb), [(slV h38 r.heads)]]) rfl Try.isAgg48 Try.sizeOf48 rfl (boxR_at (H53.getOwn 1 rfl))) ?_
 exact ⟨h38, rfl, H53.gr, H53.retRow 0 rfl⟩

end Go.Proofs.Ytiknfldhommmpaa
namespace Go.Proofs.Ytiknfldhommmpaa
open Go
set_option maxRecDepth 100000
set_option linter.unusedVariables false
set_option linter.unusedSimpArgs false
set_option maxHeartbeats 1000000 in
theorem snap_last  (w : World) :
    Calls Try.prog 59 #[] w (Ret fun v w' => v = (aggOf (stampCh lastSt)) ∧ Ext w w') := by
 refine calls_W Try.func59 rfl Try.ntmps59 rfl ?_
 have H0 := Ctx.start w nob
 refine W_seq (W_reg ?_)
 refine O_v rfl (C_alloc H0 [[(.int .i64 0)], [(.int .i64 0)]] Try.zeroValue24 ?_)
 intro b1 w2 hb3 hx4 H5
 refine O_nil (Then_n (W_seq (W_reg ?_)))
 refine O_v rfl (R_buildL (vs := [(0, (.int .i64 1099511627776)), (1, (.int .i64 65536))]) (v := aggOf [[(.int .i64 1099511627776)], [(.int .i64 65536)]]) rfl (fun _ => by kernel_rfl) ?_)
 refine O_u (C_storeA H5 0 rfl 0 (sub := [[(.int .i64 1099511627776)], [(.int .i64 65536)]]) [[(.int .i64 1099511627776)], [(.int .i64 65536)]] Try.sizeOf24 rfl rfl rfl rfl ⟨[[(.int .i64 0)], [(.int .i64 0)]], [], rfl, rfl, rfl⟩ rfl ?_)
 intro w6 hg7 H8
 refine O_nil (Then_n (W_ret ?_))
 refine ret_c Try.results59 (inMem (cs := [[(.int .i64 1099511627776)], [(.int .i64 65536)]]) rfl Try.isAgg24 Try.sizeOf24 rfl (boxR_at (H8.getOwn 0 rfl))) ?_
 exact ⟨rfl, H8.gr⟩

end Go.Proofs.Ytiknfldhommmpaa
namespace Go.Proofs.Ytiknfldhommmpaa
open Go
set_option maxRecDepth 100000
set_option linter.unusedVariables false
set_option linter.unusedSimpArgs false
theorem snap_right_c57 : callable Try.prog 57 = true := by kernel_rfl
theorem snap_right_c58 : callable Try.prog 58 = true := by kernel_rfl
theorem snap_right_c59 : callable Try.prog 59 = true := by kernel_rfl
set_option maxHeartbeats 1000000 in
theorem snap_right (r : RowS) (w : World) (Sr_heads : Sl (Old w) headCh 34 r.hh r.heads w) (hh : r.heads.length * 48 ≤ 140737488355328) :
    Calls Try.prog 46 #[(aggOf (rowCh r))] w (Ret fun v w' => v = (.bool (rightRow r)) ∧ Ext w w') := by
 refine calls_W Try.func46 rfl Try.ntmps46 rfl ?_
 have H0 := Ctx.start w nob
 have H1 := H0.addSl _ Sr_heads (fun b hb => ⟨hb, fun _ ho => (nomatch ho)⟩)
 have LSr_heads := Sr_heads.len
 refine W_seq (W_reg ?_)
 refine O_v rfl (C_box H1 [[(.int .i64 r.node.T)], [(.int .i64 r.node.R)], [(.int .i64 r.par.T)], [(.int .i64 r.par.R)], [(.int .i64 r.tm.T)], [(.int .i64 r.tm.R)], [(.string r.name)], [(slV r.hh r.heads)]] rfl ?_)
 intro b2 w3 hb4 hx5 H6
 refine O_v rfl (R_assign (v := (.bool false)) rfl ?_)
 refine O_nil (Then_n (W_seq (W_reg ?_)))
 refine O_v rfl (R_loadA (cs := [[(.int .i64 r.node.T)], [(.int .i64 r.node.R)], [(.int .i64 r.par.T)], [(.int .i64 r.par.R)], [(.int .i64 r.tm.T)], [(.int .i64 r.tm.R)], [(.string r.name)], [(slV r.hh r.heads)]]) Try.isAgg44 Try.sizeOf44 rfl rfl ((boxR_at (H6.getOwn 0 rfl)).chunks 0 8 0 0 _ rfl rfl rfl) ?_)
 refine O_v rfl (R_buildL (vs := []) (v := aggOf [(idCells zeroId)]) rfl (fun _ => by kernel_rfl) ?_)
 refine O_v rfl (R_callL (vs := [(aggOf (rowCh r)), (aggOf (idCh zeroId))]) snap_right_c58 rfl rfl ((snap_item r zeroId w3 (H6.slOld 0 rfl) hh).ret ?_))
 rintro _ w8 ⟨h7, rfl, hx9, ho10⟩
 have H11 := H6.addRow hx9 ho10
 refine O_v rfl (C_buildSliceL H11 (enc := itemCh) (val := itemV) ([({ node := r.node, tm := r.tm, name := r.name, sub := zeroId, heads := r.heads, hh := h7 } : ItemS)] : List ItemS) Try.underlying50 Try.sizeOf48 Try.zeroValue48 rfl (by decide) (fun _ => rfl) (fun _ => rfl) rfl rfl (by decide) ?_)
 intro b12 w13 hb14 hx15 H16
 refine O_v rfl (R_callL (vs := [(slV ⟨some ⟨b12, 0, none⟩, b12, 0, 1⟩ ([({ node := r.node, tm := r.tm, name := r.name, sub := zeroId, heads := r.heads, hh := h7 } : ItemS)] : List ItemS))]) snap_right_c57 rfl rfl ((obj_PutDir ⟨some ⟨b12, 0, none⟩, b12, 0, 1⟩ ([({ node := r.node, tm := r.tm, name := r.name, sub := zeroId, heads := r.heads, hh := h7 } : ItemS)] : List ItemS) w13 (H16.rowSl 0 rfl (fun _ => rfl)) (deep1 (H16.rowSl 1 rfl (fun _ => rfl)))).ret ?_))
 rintro _ w18 ⟨h17, rfl, hx19, ho20⟩
 have H21 := H16.addRow hx19 ho20
 refine O_v rfl (R_move (v := (.tuple #[(slV h17 (putDirB ([({ node := r.node, tm := r.tm, name := r.name, sub := zeroId, heads := r.heads, hh := h7 } : ItemS)] : List ItemS))), (.int .i64 (putDirE ([({ node := r.node, tm := r.tm, name := r.name, sub := zeroId, heads := r.heads, hh := h7 } : ItemS)] : List ItemS)))])) rfl ?_)
 refine O_v rfl (R_extract (v := (slV h17 (putDirB ([({ node := r.node, tm := r.tm, name := r.name, sub := zeroId, heads := r.heads, hh := h7 } : ItemS)] : List ItemS)))) rfl rfl ?_)
 refine O_v rfl (R_extract (v := (.int .i64 (putDirE ([({ node := r.node, tm := r.tm, name := r.name, sub := zeroId, heads := r.heads, hh := h7 } : ItemS)] : List ItemS)))) rfl rfl ?_)
 refine O_v rfl (R_assign (v := (slV h17 (putDirB ([({ node := r.node, tm := r.tm, name := r.name, sub := zeroId, heads := r.heads, hh := h7 } : ItemS)] : List ItemS)))) rfl ?_)
 refine O_v rfl (R_assign (v := (.int .i64 (putDirE ([({ node := r.node, tm := r.tm, name := r.name, sub := zeroId, heads := r.heads, hh := h7 } : ItemS)] : List ItemS)))) rfl ?_)
 refine O_nil (Then_n (W_seq ?_))
 refine W_rgd TryMixed [(0, .q false), (1, .q false), (2, .q false), (3, .q false), (4, .q false), (5, .q false), (6, .q false), (7, .q false), (8, .q false)] (by kernel_rfl) ?_
 refine Lx_q (i := 0) rfl rfl _ (fun v22 hv23 => R_move (v := (.int .i64 (putDirE ([({ node := r.node, tm := r.tm, name := r.name, sub := zeroId, heads := r.heads, hh := h7 } : ItemS)] : List ItemS)))) rfl ⟨rfl, Gr.refl _ _⟩) ?_
 refine Lx_q (i := 1) rfl rfl _ (fun v24 hv25 => R_cmp (a := putDirE ([({ node := r.node, tm := r.tm, name := r.name, sub := zeroId, heads := r.heads, hh := h7 } : ItemS)] : List ItemS)) (b := 0) (r := (decide (putDirE ([({ node := r.node, tm := r.tm, name := r.name, sub := zeroId, heads := r.heads, hh := h7 } : ItemS)] : List ItemS) = 0))) rfl rfl rfl ⟨rfl, Gr.refl _ _⟩) ?_
 refine Lx_q (i := 2) rfl rfl _ (fun v26 hv27 => R_move (v := (.bool (decide (putDirE ([({ node := r.node, tm := r.tm, name := r.name, sub := zeroId, heads := r.heads, hh := h7 } : ItemS)] : List ItemS) = 0)))) rfl ⟨rfl, Gr.refl _ _⟩) ?_
 refine Lx_qg (i := 3) true (decide (putDirE ([({ node := r.node, tm := r.tm, name := r.name, sub := zeroId, heads := r.heads, hh := h7 } : ItemS)] : List ItemS) = 0)) rfl rfl rfl rfl rfl (decide (putDirE ([({ node := r.node, tm := r.tm, name := r.name, sub := zeroId, heads := r.heads, hh := h7 } : ItemS)] : List ItemS) = 0)) ga_t _ (fun hA v28 hv29 => R_fieldAddr (off := 0) (oo := 0) Try.underlying44 rfl rfl Try.sizeOf24 rfl rfl ⟨rfl, Gr.refl _ _⟩) ?_
 refine Lx_qg (i := 4) true (decide (putDirE ([({ node := r.node, tm := r.tm, name := r.name, sub := zeroId, heads := r.heads, hh := h7 } : ItemS)] : List ItemS) = 0)) rfl rfl rfl rfl rfl (decide (putDirE ([({ node := r.node, tm := r.tm, name := r.name, sub := zeroId, heads := r.heads, hh := h7 } : ItemS)] : List ItemS) = 0)) ga_t _ (fun hA v30 hv31 => R_loadA (cs := [[(.int .i64 r.node.T)], [(.int .i64 r.node.R)]]) Try.isAgg24 Try.sizeOf24 rfl (gv_t hA) ((boxR_at ((H21.ext hv31).getOwn 3 rfl)).chunks 0 2 0 0 _ rfl rfl rfl) ⟨rfl, Gr.refl _ _⟩) ?_
 refine Lx_qg (i := 5) true (decide (putDirE ([({ node := r.node, tm := r.tm, name := r.name, sub := zeroId, heads := r.heads, hh := h7 } : ItemS)] : List ItemS) = 0)) rfl rfl rfl rfl rfl (decide (putDirE ([({ node := r.node, tm := r.tm, name := r.name, sub := zeroId, heads := r.heads, hh := h7 } : ItemS)] : List ItemS) = 0)) ga_t (aggOf (stampCh lastSt)) (fun hA v32 hv33 => R_callL (vs := []) snap_right_c59 rfl rfl (snap_last  v32 )) ?_
 refine Lx_qg (i := 6) true (decide (putDirE ([({ node := r.node, tm := r.tm, name := r.name, sub := zeroId, heads := r.heads, hh := h7 } : ItemS)] : List ItemS) = 0)) rfl rfl rfl rfl rfl (decide (putDirE ([({ node := r.node, tm := r.tm, name := r.name, sub := zeroId, heads := r.heads, hh := h7 } : ItemS)] : List ItemS) = 0)) ga_t _ (fun hA v34 hv35 => R_nev (a := r.node) (b := lastSt) eqv_Stamp24 rfl Try.eqGuardType24 (gv_t hA) (gv_t hA) ⟨rfl, Gr.refl _ _⟩) ?_
 refine Lx_q (i := 7) rfl rfl _ (fun v36 hv37 => R_pick (t := (decide (putDirE ([({ node := r.node, tm := r.tm, name := r.name, sub := zeroId, heads := r.heads, hh := h7 } : ItemS)] : List ItemS) = 0))) (v := (.bool ((decide (putDirE ([({ node := r.node, tm := r.tm, name := r.name, sub := zeroId, heads := r.heads, hh := h7 } : ItemS)] : List ItemS) = 0)) && (!(decide (r.node = lastSt)))))) rfl pk_and ⟨rfl, Gr.refl _ _⟩) ?_
 refine Lx_q (i := 8) rfl rfl _ (fun v38 hv39 => R_assign (v := (.bool ((decide (putDirE ([({ node := r.node, tm := r.tm, name := r.name, sub := zeroId, heads := r.heads, hh := h7 } : ItemS)] : List ItemS) = 0)) && (!(decide (r.node = lastSt)))))) rfl ⟨rfl, Gr.refl _ _⟩) ?_
 refine Lx_nil (fun w40 hw41 => ?_)
 have H42 := H21.ext hw41
 refine Then_n (W_ret ?_)
 refine ret_1 (v := (.bool ((decide (putDirE ([({ node := r.node, tm := r.tm, name := r.name, sub := zeroId, heads := r.heads, hh := h7 } : ItemS)] : List ItemS) = 0)) && (!(decide (r.node = lastSt)))))) Try.results46 rfl ?_
 exact ⟨(rightRow_e rfl), H42.gr⟩

end Go.Proofs.Ytiknfldhommmpaa
namespace Go.Proofs.Ytiknfldhommmpaa
open Go
set_option maxRecDepth 100000
set_option linter.unusedVariables false
set_option linter.unusedSimpArgs false
theorem snap_Right_c46 : callable Try.prog 46 = true := by kernel_rfl
theorem snap_Right_c47 : callable Try.prog 47 = true := by kernel_rfl
theorem snap_Right_c48 : callable Try.prog 48 = true := by kernel_rfl
set_option maxHeartbeats 1000000 in
theorem snap_Right (hrows : SlH) (rows : List RowS) (w : World) (Srows : Sl (Old w) rowCh 8 hrows rows w) (Drows_heads : ∀ x ∈ rows, Sl (Old w) headCh 34 x.hh x.heads w) (hh : ∀ x ∈ rows, x.heads.length * 48 ≤ 140737488355328) :
    Calls Try.prog 34 #[(slV hrows rows)] w (Ret fun v w' => v = (.bool (snapOk rows)) ∧ Ext w w') := by
 refine calls_W Try.func34 rfl Try.ntmps34 rfl ?_
 have H0 := Ctx.start w nob
 have H1 := H0.addSl _ Srows (fun b hb => ⟨hb, fun _ ho => (nomatch ho)⟩)
 have LSrows := Srows.len
 have H2 := H1.addImm' (deepI (Old w) headCh 34 (fun x : RowS => x.hh) (fun x : RowS => x.heads) rows) Drows_heads (fun b hb => ⟨hb, fun _ ho => (nomatch ho)⟩)
 refine W_seq (W_reg ?_)
 refine O_v rfl (R_assign (v := (.bool false)) rfl ?_)
 refine O_nil (Then_n (W_seq (W_seq (W_reg ?_))))
 refine O_v rfl (R_move (v := (slV hrows rows)) rfl ?_)
 refine O_v rfl (R_len_slice (a := hrows.a) (n := rows.length) (c := hrows.c) Try.underlying22 rfl ?_)
 refine O_v rfl (R_cmp (a := ((rows.length : Nat) : Int)) (b := 5000) (r := (decide (5000 < ((rows.length : Nat) : Int)))) rfl rfl rfl ?_)
 refine O_nil (Then_n ?_)
 refine W_cond (t := (decide (5000 < ((rows.length : Nat) : Int)))) rfl (fun hc3 => ?_) (fun hc3 => ?_)
 ·have hc3 : (5000 < ((rows.length : Nat) : Int)) := (of_decide_eq_true hc3)
  refine W_seq (W_reg ?_)
  refine O_v rfl (R_assign (v := (.bool false)) rfl ?_)
  refine O_nil (Then_n (W_ret (Then_r ?_)))
  refine ret_1 (v := (.bool false)) Try.results34 rfl ?_
  exact ⟨(snapF (fun h => by omega)), H2.gr⟩
 ·have hc3 : ¬ (5000 < ((rows.length : Nat) : Int)) := (of_decide_eq_false hc3)
  refine W_skip (Then_n (W_seq (W_reg ?_)))
  refine O_v rfl (C_makeMap H2 (fun x : Stamp => stampV x) stampV ?_)
  intro r4 w5 hr6 hx7 H8
  refine O_v rfl (R_assign (v := (.map (some r4))) rfl ?_)
  refine O_nil (Then_n (W_seq (W_seq (W_reg ?_))))
  refine O_v rfl (R_move (v := (slV hrows rows)) rfl ?_)
  refine O_v rfl (R_len_slice (a := hrows.a) (n := rows.length) (c := hrows.c) Try.underlying22 rfl ?_)
  refine O_v rfl (R_move (v := (.int .i64 0)) rfl ?_)
  refine O_nil (Then_n (W_block ?_))
  refine W_loop (fun m9 e10 w11 => ∃ (k : Nat), ∃ (kvp : List (Stamp × Stamp)), m9 = rows.length - k ∧ (k ≤ rows.length) ∧ (kvp = parentsTo rows k) ∧ (∀ i, i < k → rightRow (nth rows i) = true ∧ (i = 0 ∨ cmpSt (nth rows (i - 1)).node (nth rows i).node < 0)) ∧ ∃ eb12, e10 = envL [(0, (slV hrows rows)), (3, (.map (some r4))), (19, (slV hrows rows)), (20, (.int .i64 ((rows.length : Nat) : Int))), (21, (.int .i64 ((k : Nat) : Int)))] eb12 ∧ Ctx w nob w11 [mapO r4 (fun x : Stamp => stampV x) stampV kvp] [deepI (Old w) headCh 34 (fun x : RowS => x.hh) (fun x : RowS => x.heads) rows, slI (Old w) rowCh 8 hrows rows]) _ ⟨0, [], rfl, (by omega), rfl, (all_zero _), _, envL_self ⟨rfl, rfl, rfl, rfl, rfl, trivial⟩, H8⟩ ?_
  rintro m9 _ w11 ⟨k, kvp, rfl, hk, hkp, hn, eb12, rfl, H13⟩
  refine W_seq (W_reg ?_)
  refine O_v rfl (R_cmp (a := ((k : Nat) : Int)) (b := ((rows.length : Nat) : Int)) (r := (decide (((k : Nat) : Int) < ((rows.length : Nat) : Int)))) rfl rfl rfl ?_)
  refine O_nil (Then_n (W_seq ?_))
  refine W_cond (t := (decide (((k : Nat) : Int) < ((rows.length : Nat) : Int)))) rfl (fun hc14 => ?_) (fun hc14 => ?_)
  ·have hc14 : (((k : Nat) : Int) < ((rows.length : Nat) : Int)) := (of_decide_eq_true hc14)
   refine W_skip (Then_n (W_seq (W_block (W_seq (W_reg ?_)))))
   refine O_v rfl (R_move (v := (.int .i64 ((k : Nat) : Int))) rfl ?_)
   refine O_v rfl (R_index_pure (H13.sl 1 rfl) (n := rows.length) rfl (j := ((k : Nat) : Int)) (oo := (hrows.o + k * 8)) Try.underlying22 Try.sizeOf44 rfl rfl (by omega) (by omega) rfl ?_)
   refine O_v rfl (R_loadA (cs := [[(.int .i64 (((nth rows k).node).T))], [(.int .i64 (((nth rows k).node).R))], [(.int .i64 (((nth rows k).par).T))], [(.int .i64 (((nth rows k).par).R))], [(.int .i64 (((nth rows k).tm).T))], [(.int .i64 (((nth rows k).tm).R))], [(.string ((nth rows k).name))], [(slV ((nth rows k).hh) ((nth rows k).heads))]]) Try.isAgg44 Try.sizeOf44 rfl rfl ((Sl.elem (H13.sl 1 rfl) (i := k) (by omega) rfl).chunks 0 8 0 (hrows.o + k * 8) _ rfl rfl rfl) ?_)
   refine O_v rfl (C_alloc H13 [[(.int .i64 0)], [(.int .i64 0)], [(.int .i64 0)], [(.int .i64 0)], [(.int .i64 0)], [(.int .i64 0)], [(.string ByteArray.empty)], [(.slice none 0 0)]] Try.zeroValue44 ?_)
   intro b15 w16 hb17 hx18 H19
   refine O_v rfl (R_assign (v := (.int .i64 ((k : Nat) : Int))) rfl ?_)
   refine O_u (C_storeA H19 0 rfl 0 (sub := [[(.int .i64 (((nth rows k).node).T))], [(.int .i64 (((nth rows k).node).R))], [(.int .i64 (((nth rows k).par).T))], [(.int .i64 (((nth rows k).par).R))], [(.int .i64 (((nth rows k).tm).T))], [(.int .i64 (((nth rows k).tm).R))], [(.string ((nth rows k).name))], [(slV ((nth rows k).hh) ((nth rows k).heads))]]) [[(.int .i64 (((nth rows k).node).T))], [(.int .i64 (((nth rows k).node).R))], [(.int .i64 (((nth rows k).par).T))], [(.int .i64 (((nth rows k).par).R))], [(.int .i64 (((nth rows k).tm).T))], [(.int .i64 (((nth rows k).tm).R))], [(.string ((nth rows k).name))], [(slV ((nth rows k).hh) ((nth rows k).heads))]] Try.sizeOf44 rfl rfl rfl rfl ⟨[[(.int .i64 0)], [(.int .i64 0)], [(.int .i64 0)], [(.int .i64 0)], [(.int .i64 0)], [(.int .i64 0)], [(.string ByteArray.empty)], [(.slice none 0 0)]], [], rfl, rfl, rfl⟩ rfl ?_)
   intro w20 hg21 H22
   refine O_nil (Then_n (W_seq (W_seq ?_)))
   refine W_rgd TryMixed [(0, .q false), (1, .q false), (2, .q false), (3, .q false), (4, .q false), (5, .q false), (6, .q false), (7, .q false), (8, .q false), (9, .q false), (10, .q false), (11, .q false), (12, .q false), (13, .q false), (14, .q false), (15, .q false), (16, .q false), (17, .q false), (18, .q false)] (by kernel_rfl) ?_
   refine Lx_q (i := 0) rfl rfl _ (fun v23 hv24 => R_loadA (cs := [[(.int .i64 (((nth rows k).node).T))], [(.int .i64 (((nth rows k).node).R))], [(.int .i64 (((nth rows k).par).T))], [(.int .i64 (((nth rows k).par).R))], [(.int .i64 (((nth rows k).tm).T))], [(.int .i64 (((nth rows k).tm).R))], [(.string ((nth rows k).name))], [(slV ((nth rows k).hh) ((nth rows k).heads))]]) Try.isAgg44 Try.sizeOf44 rfl rfl ((boxR_at ((H22.ext hv24).getOwn 0 rfl)).chunks 0 8 0 0 _ rfl rfl rfl) ⟨rfl, Gr.refl _ _⟩) ?_
   refine Lx_q (i := 1) rfl rfl (.bool (rightRow (nth rows k))) (fun v25 hv26 => R_callL (vs := [(aggOf (rowCh (nth rows k)))]) snap_Right_c46 rfl rfl (snap_right (nth rows k) v25 ((H22.ext hv26).deepOld 0 rfl _ (nth_mem (by omega))) (hh _ (nth_mem (by omega))))) ?_
   refine Lx_q (i := 2) rfl rfl _ (fun v27 hv28 => R_not rfl ⟨rfl, Gr.refl _ _⟩) ?_
   refine Lx_q (i := 3) rfl rfl _ (fun v29 hv30 => R_move (v := (.bool (!(rightRow (nth rows k))))) rfl ⟨rfl, Gr.refl _ _⟩) ?_
   refine Lx_qg (i := 4) true (!(rightRow (nth rows k))) rfl rfl rfl rfl rfl (!(!(rightRow (nth rows k)))) ga_f _ (fun hA v31 hv32 => R_move (v := (.int .i64 ((k : Nat) : Int))) rfl ⟨rfl, Gr.refl _ _⟩) ?_
   refine Lx_qg (i := 5) true (!(rightRow (nth rows k))) rfl rfl rfl rfl rfl (!(!(rightRow (nth rows k)))) ga_f _ (fun hA v33 hv34 => R_cmp (a := ((k : Nat) : Int)) (b := 0) (r := (decide (0 < ((k : Nat) : Int)))) (gv_t hA) rfl rfl ⟨rfl, Gr.refl _ _⟩) ?_
   refine Lx_qg (i := 6) true (!(rightRow (nth rows k))) rfl rfl rfl rfl rfl (!(!(rightRow (nth rows k)))) ga_f _ (fun hA v35 hv36 => R_move (v := (.bool (decide (0 < ((k : Nat) : Int))))) (gv_t hA) ⟨rfl, Gr.refl _ _⟩) ?_
   refine Lx_qg (i := 7) (!(!(rightRow (nth rows k)))) (decide (0 < ((k : Nat) : Int))) rfl rfl rfl rfl rfl ((!(!(rightRow (nth rows k)))) && (decide (0 < ((k : Nat) : Int)))) gb_t _ (fun hA v37 hv38 => R_move (v := (slV hrows rows)) rfl ⟨rfl, Gr.refl _ _⟩) ?_
   refine Lx_qg (i := 8) (!(!(rightRow (nth rows k)))) (decide (0 < ((k : Nat) : Int))) rfl rfl rfl rfl rfl ((!(!(rightRow (nth rows k)))) && (decide (0 < ((k : Nat) : Int)))) gb_t _ (fun hA v39 hv40 => R_move (v := (.int .i64 ((k : Nat) : Int))) rfl ⟨rfl, Gr.refl _ _⟩) ?_
   refine Lx_qg (i := 9) (!(!(rightRow (nth rows k)))) (decide (0 < ((k : Nat) : Int))) rfl rfl rfl rfl rfl ((!(!(rightRow (nth rows k)))) && (decide (0 < ((k : Nat) : Int)))) gb_t _ (fun hA v41 hv42 => by
          have hP : ((rightRow (nth rows k)) = true ∧ (0 < ((k : Nat) : Int))) := (And.imp (fun h => (notF (notT h))) (fun h => (of_decide_eq_true h)) (andT hA))
          exact R_arith (a := ((k : Nat) : Int)) (b := 1) (r0 := ((k : Nat) : Int) - 1) (r := ((k - 1 : Nat) : Int)) (gv_t hA) rfl rfl (wrapP _ (by omega) (by omega)) ⟨rfl, Gr.refl _ _⟩) ?_
   refine Lx_qg (i := 10) (!(!(rightRow (nth rows k)))) (decide (0 < ((k : Nat) : Int))) rfl rfl rfl rfl rfl ((!(!(rightRow (nth rows k)))) && (decide (0 < ((k : Nat) : Int)))) gb_t _ (fun hA v43 hv44 => by
          have hP : ((rightRow (nth rows k)) = true ∧ (0 < ((k : Nat) : Int))) := (And.imp (fun h => (notF (notT h))) (fun h => (of_decide_eq_true h)) (andT hA))
          exact R_index_pure (H22.sl 1 rfl) (n := rows.length) rfl (j := ((k - 1 : Nat) : Int)) (oo := (hrows.o + (k - 1) * 8)) Try.underlying22 Try.sizeOf44 (gv_t hA) (gv_t hA) (by omega) (by omega) rfl ⟨rfl, Gr.refl _ _⟩) ?_
   refine Lx_qg (i := 11) (!(!(rightRow (nth rows k)))) (decide (0 < ((k : Nat) : Int))) rfl rfl rfl rfl rfl ((!(!(rightRow (nth rows k)))) && (decide (0 < ((k : Nat) : Int)))) gb_t _ (fun hA v45 hv46 => R_fieldAddr (off := 0) (oo := (hrows.o + (k - 1) * 8)) Try.underlying44 rfl rfl Try.sizeOf24 (gv_t hA) rfl ⟨rfl, Gr.refl _ _⟩) ?_
   refine Lx_qg (i := 12) (!(!(rightRow (nth rows k)))) (decide (0 < ((k : Nat) : Int))) rfl rfl rfl rfl rfl ((!(!(rightRow (nth rows k)))) && (decide (0 < ((k : Nat) : Int)))) gb_t _ (fun hA v47 hv48 => by
          have hP : ((rightRow (nth rows k)) = true ∧ (0 < ((k : Nat) : Int))) := (And.imp (fun h => (notF (notT h))) (fun h => (of_decide_eq_true h)) (andT hA))
          exact R_loadA (cs := [[(.int .i64 (((nth rows (k - 1)).node).T))], [(.int .i64 (((nth rows (k - 1)).node).R))]]) Try.isAgg24 Try.sizeOf24 rfl (gv_t hA) ((Sl.elem ((H22.ext hv48).sl 1 rfl) (i := (k - 1)) (by omega) rfl).chunks 0 2 0 (hrows.o + (k - 1) * 8) _ rfl rfl rfl) ⟨rfl, Gr.refl _ _⟩) ?_
   refine Lx_qg (i := 13) (!(!(rightRow (nth rows k)))) (decide (0 < ((k : Nat) : Int))) rfl rfl rfl rfl rfl ((!(!(rightRow (nth rows k)))) && (decide (0 < ((k : Nat) : Int)))) gb_t _ (fun hA v49 hv50 => R_fieldAddr (off := 0) (oo := 0) Try.underlying44 rfl rfl Try.sizeOf24 rfl rfl ⟨rfl, Gr.refl _ _⟩) ?_
   refine Lx_qg (i := 14) (!(!(rightRow (nth rows k)))) (decide (0 < ((k : Nat) : Int))) rfl rfl rfl rfl rfl ((!(!(rightRow (nth rows k)))) && (decide (0 < ((k : Nat) : Int)))) gb_t _ (fun hA v51 hv52 => R_loadA (cs := [[(.int .i64 (((nth rows k).node).T))], [(.int .i64 (((nth rows k).node).R))]]) Try.isAgg24 Try.sizeOf24 rfl (gv_t hA) ((boxR_at ((H22.ext hv52).getOwn 0 rfl)).chunks 0 2 0 0 _ rfl rfl rfl) ⟨rfl, Gr.refl _ _⟩) ?_
   refine Lx_qg (i := 15) (!(!(rightRow (nth rows k)))) (decide (0 < ((k : Nat) : Int))) rfl rfl rfl rfl rfl ((!(!(rightRow (nth rows k)))) && (decide (0 < ((k : Nat) : Int)))) gb_t (.int .i64 (cmpSt ((nth rows (k - 1)).node) ((nth rows k).node))) (fun hA v53 hv54 => R_callL (vs := [(aggOf (stampCh ((nth rows (k - 1)).node))), (aggOf (stampCh ((nth rows k).node)))]) snap_Right_c47 rfl (lst2 (gv_t hA) (gv_t hA)) (stamp_Cmp ((nth rows (k - 1)).node) ((nth rows k).node) v53 )) ?_
   refine Lx_qg (i := 16) (!(!(rightRow (nth rows k)))) (decide (0 < ((k : Nat) : Int))) rfl rfl rfl rfl rfl ((!(!(rightRow (nth rows k)))) && (decide (0 < ((k : Nat) : Int)))) gb_t _ (fun hA v55 hv56 => R_cmp (a := cmpSt ((nth rows (k - 1)).node) ((nth rows k).node)) (b := 0) (r := (decide (0 ≤ cmpSt ((nth rows (k - 1)).node) ((nth rows k).node)))) (gv_t hA) rfl rfl ⟨rfl, Gr.refl _ _⟩) ?_
   refine Lx_qg (i := 17) true (!(rightRow (nth rows k))) rfl rfl rfl rfl rfl (!(!(rightRow (nth rows k)))) ga_f _ (fun hA v57 hv58 => R_pick (t := (decide (0 < ((k : Nat) : Int)))) (v := (.bool ((decide (0 < ((k : Nat) : Int))) && (decide (0 ≤ cmpSt ((nth rows (k - 1)).node) ((nth rows k).node)))))) (gv_t hA) (pk_andA hA) ⟨rfl, Gr.refl _ _⟩) ?_
   refine Lx_q (i := 18) rfl rfl _ (fun v59 hv60 => R_pick (t := (!(rightRow (nth rows k)))) (v := (.bool ((!(rightRow (nth rows k))) || ((decide (0 < ((k : Nat) : Int))) && (decide (0 ≤ cmpSt ((nth rows (k - 1)).node) ((nth rows k).node))))))) rfl pk_or ⟨rfl, Gr.refl _ _⟩) ?_
   refine Lx_nil (fun w61 hw62 => ?_)
   have H63 := H22.ext hw62
   refine Then_n ?_
   refine W_cond (t := ((!(rightRow (nth rows k))) || ((decide (0 < ((k : Nat) : Int))) && (decide (0 ≤ cmpSt ((nth rows (k - 1)).node) ((nth rows k).node)))))) rfl (fun hc64 => ?_) (fun hc64 => ?_)
   ·have hc64 : ((rightRow (nth rows k)) = false ∨ ((0 < ((k : Nat) : Int)) ∧ (0 ≤ cmpSt ((nth rows (k - 1)).node) ((nth rows k).node)))) := (Or.imp (fun h => (notT h)) (fun h => (And.imp (fun h => (of_decide_eq_true h)) (fun h => (of_decide_eq_true h)) (andT h))) (orT hc64))
    refine W_seq (W_reg ?_)
    refine O_v rfl (R_assign (v := (.bool false)) rfl ?_)
    refine O_nil (Then_n (W_ret (Then_r (Blk_r (Then_r (Then_r (Blk_r (Then_r ?_))))))))
    refine ret_1 (v := (.bool false)) Try.results34 rfl ?_
    exact ⟨(snapF (fun h => right_bad (h.2.1 k (by omega)) (by assumption))), H63.gr⟩
   ·have hc64 : ((rightRow (nth rows k)) = true ∧ (¬ (0 < ((k : Nat) : Int)) ∨ ¬ (0 ≤ cmpSt ((nth rows (k - 1)).node) ((nth rows k).node)))) := (And.imp (fun h => (notF h)) (fun h => (Or.imp (fun h => (of_decide_eq_false h)) (fun h => (of_decide_eq_false h)) (andF h))) (orF hc64))
    refine W_skip (Then_n (W_reg ?_))
    refine O_v rfl (R_move (v := (.map (some r4))) rfl ?_)
    refine O_v rfl (R_fieldAddr (off := 0) (oo := 0) Try.underlying44 rfl rfl Try.sizeOf24 rfl rfl ?_)
    refine O_v rfl (R_loadA (cs := [[(.int .i64 (((nth rows k).node).T))], [(.int .i64 (((nth rows k).node).R))]]) Try.isAgg24 Try.sizeOf24 rfl rfl ((boxR_at (H63.getOwn 0 rfl)).chunks 0 2 0 0 _ rfl rfl rfl) ?_)
    refine O_v rfl (R_fieldAddr (off := 2) (oo := 2) Try.underlying44 rfl rfl Try.sizeOf24 rfl rfl ?_)
    refine O_v rfl (R_loadA (cs := [[(.int .i64 (((nth rows k).par).T))], [(.int .i64 (((nth rows k).par).R))]]) Try.isAgg24 Try.sizeOf24 rfl rfl ((boxR_at (H63.getOwn 0 rfl)).chunks 2 2 2 2 _ rfl rfl rfl) ?_)
    refine O_u (C_mapUpdate H63 1 rfl (kk := ((nth rows k).node)) (v := ((nth rows k).par)) keyT_Stamp24 Try.underlying88 rfl rfl rfl ?_)
    intro w65 hg66 H67
    refine O_nil (Blk_n (Then_n (W_reg ?_)))
    refine O_v rfl (R_arith (a := ((k : Nat) : Int)) (b := 1) (r0 := ((k : Nat) : Int) + 1) (r := ((k + 1 : Nat) : Int)) rfl rfl rfl (wrapN _ (by omega)) ?_)
    refine O_v rfl (R_move (v := (.int .i64 ((k + 1 : Nat) : Int))) rfl ?_)
    refine O_nil (Then_n ?_)
    have H68 := H67.sub (B' := [mapO r4 (fun x : Stamp => stampV x) stampV (kvPut ((nth rows k).node) ((nth rows k).par) kvp)]) (I' := [deepI (Old w) headCh 34 (fun x : RowS => x.hh) (fun x : RowS => x.heads) rows, slI (Old w) rowCh 8 hrows rows]) (List.Sublist.cons _ (List.Sublist.cons_cons _ List.Sublist.slnil)) (List.forall_mem_cons.2 ⟨List.mem_of_getElem? (i := 0) rfl, List.forall_mem_cons.2 ⟨List.mem_of_getElem? (i := 1) rfl, fun _ h => (nomatch h)⟩⟩)
    refine ⟨_, ?_, (k + 1), (kvPut ((nth rows k).node) ((nth rows k).par) kvp), rfl, (by omega), (by rw [hkp]; exact parentsTo_succ (by omega)), (all_succ hn (right_at (by assumption))), _, envL_self ⟨rfl, rfl, rfl, rfl, rfl, trivial⟩, H68⟩
    omega
  ·have hc14 : ¬ (((k : Nat) : Int) < ((rows.length : Nat) : Int)) := (of_decide_eq_false hc14)
   refine W_exit (Then_x (Then_x (Blk_x (Then_n (W_seq (W_reg ?_))))))
   refine O_v rfl (C_makeMap H13 (fun x : Stamp => stampV x) boolV ?_)
   intro r69 w70 hr71 hx72 H73
   refine O_v rfl (R_assign (v := (.map (some r69))) rfl ?_)
   refine O_nil (Then_n (W_seq (W_seq (W_reg ?_))))
   refine O_v rfl (R_move (v := (slV hrows rows)) rfl ?_)
   refine O_v rfl (R_len_slice (a := hrows.a) (n := rows.length) (c := hrows.c) Try.underlying22 rfl ?_)
   refine O_v rfl (R_move (v := (.int .i64 0)) rfl ?_)
   refine O_nil (Then_n (W_block ?_))
   refine W_loop (fun m74 e75 w76 => ∃ (m : Nat), ∃ (kvg : List (Stamp × Bool)), m74 = rows.length - m ∧ (m ≤ rows.length) ∧ (∀ s, (kvGet kvg s).getD false = true → reach (parentsAll rows) s) ∧ (∀ i, i < m → reach (parentsAll rows) (nth rows i).node) ∧ (kvp = parentsAll rows) ∧ (∀ i, i < rows.length → rightRow (nth rows i) = true ∧ (i = 0 ∨ cmpSt (nth rows (i - 1)).node (nth rows i).node < 0)) ∧ (¬ (5000 : Int) < ((rows.length : Nat) : Int)) ∧ ∃ eb77, e75 = envL [(0, (slV hrows rows)), (3, (.map (some r4))), (6, (.map (some r69))), (52, (slV hrows rows)), (53, (.int .i64 ((rows.length : Nat) : Int))), (54, (.int .i64 ((m : Nat) : Int)))] eb77 ∧ Ctx w nob w76 [mapO r69 (fun x : Stamp => stampV x) boolV kvg, mapO r4 (fun x : Stamp => stampV x) stampV kvp] [deepI (Old w) headCh 34 (fun x : RowS => x.hh) (fun x : RowS => x.heads) rows, slI (Old w) rowCh 8 hrows rows]) _ ⟨0, [], rfl, (by omega), (fun s h => by simp [kvGet_nil] at h), (all_zero _), (by rw [hkp, show k = rows.length from by omega]; rfl), (by rwa [show rows.length = k from by omega]), (by assumption), _, envL_self ⟨rfl, rfl, rfl, rfl, rfl, rfl, trivial⟩, H73⟩ ?_
   rintro m74 _ w76 ⟨m, kvg, rfl, hm, hg, hr, hpa, hn2, h5, eb77, rfl, H78⟩
   refine W_seq (W_reg ?_)
   refine O_v rfl (R_cmp (a := ((m : Nat) : Int)) (b := ((rows.length : Nat) : Int)) (r := (decide (((m : Nat) : Int) < ((rows.length : Nat) : Int)))) rfl rfl rfl ?_)
   refine O_nil (Then_n (W_seq ?_))
   refine W_cond (t := (decide (((m : Nat) : Int) < ((rows.length : Nat) : Int)))) rfl (fun hc79 => ?_) (fun hc79 => ?_)
   ·have hc79 : (((m : Nat) : Int) < ((rows.length : Nat) : Int)) := (of_decide_eq_true hc79)
    refine W_skip (Then_n (W_seq (W_block (W_seq (W_reg ?_)))))
    refine O_v rfl (R_index_pure (H78.sl 1 rfl) (n := rows.length) rfl (j := ((m : Nat) : Int)) (oo := (hrows.o + m * 8)) Try.underlying22 Try.sizeOf44 rfl rfl (by omega) (by omega) rfl ?_)
    refine O_v rfl (R_loadA (cs := [[(.int .i64 (((nth rows m).node).T))], [(.int .i64 (((nth rows m).node).R))], [(.int .i64 (((nth rows m).par).T))], [(.int .i64 (((nth rows m).par).R))], [(.int .i64 (((nth rows m).tm).T))], [(.int .i64 (((nth rows m).tm).R))], [(.string ((nth rows m).name))], [(slV ((nth rows m).hh) ((nth rows m).heads))]]) Try.isAgg44 Try.sizeOf44 rfl rfl ((Sl.elem (H78.sl 1 rfl) (i := m) (by omega) rfl).chunks 0 8 0 (hrows.o + m * 8) _ rfl rfl rfl) ?_)
    refine O_v rfl (C_alloc H78 [[(.int .i64 0)], [(.int .i64 0)], [(.int .i64 0)], [(.int .i64 0)], [(.int .i64 0)], [(.int .i64 0)], [(.string ByteArray.empty)], [(.slice none 0 0)]] Try.zeroValue44 ?_)
    intro b80 w81 hb82 hx83 H84
    refine O_u (C_storeA H84 0 rfl 0 (sub := [[(.int .i64 (((nth rows m).node).T))], [(.int .i64 (((nth rows m).node).R))], [(.int .i64 (((nth rows m).par).T))], [(.int .i64 (((nth rows m).par).R))], [(.int .i64 (((nth rows m).tm).T))], [(.int .i64 (((nth rows m).tm).R))], [(.string ((nth rows m).name))], [(slV ((nth rows m).hh) ((nth rows m).heads))]]) [[(.int .i64 (((nth rows m).node).T))], [(.int .i64 (((nth rows m).node).R))], [(.int .i64 (((nth rows m).par).T))], [(.int .i64 (((nth rows m).par).R))], [(.int .i64 (((nth rows m).tm).T))], [(.int .i64 (((nth rows m).tm).R))], [(.string ((nth rows m).name))], [(slV ((nth rows m).hh) ((nth rows m).heads))]] Try.sizeOf44 rfl rfl rfl rfl ⟨[[(.int .i64 0)], [(.int .i64 0)], [(.int .i64 0)], [(.int .i64 0)], [(.int .i64 0)], [(.int .i64 0)], [(.string ByteArray.empty)], [(.slice none 0 0)]], [], rfl, rfl, rfl⟩ rfl ?_)
    intro w85 hg86 H87
    refine O_nil (Then_n (W_seq (W_reg ?_)))
    refine O_v rfl (R_assign (v := (.slice none 0 0)) rfl ?_)
    refine O_nil (Then_n (W_seq (W_seq (W_reg ?_))))
    refine O_v rfl (R_fieldAddr (off := 0) (oo := 0) Try.underlying44 rfl rfl Try.sizeOf24 rfl rfl ?_)
    refine O_v rfl (R_loadA (cs := [[(.int .i64 (((nth rows m).node).T))], [(.int .i64 (((nth rows m).node).R))]]) Try.isAgg24 Try.sizeOf24 rfl rfl ((boxR_at (H87.getOwn 0 rfl)).chunks 0 2 0 0 _ rfl rfl rfl) ?_)
    refine O_v rfl (C_alloc H87 [[(.int .i64 0)], [(.int .i64 0)]] Try.zeroValue24 ?_)
    intro b88 w89 hb90 hx91 H92
    refine O_u (C_storeA H92 0 rfl 0 (sub := [[(.int .i64 (((nth rows m).node).T))], [(.int .i64 (((nth rows m).node).R))]]) [[(.int .i64 (((nth rows m).node).T))], [(.int .i64 (((nth rows m).node).R))]] Try.sizeOf24 rfl rfl rfl rfl ⟨[[(.int .i64 0)], [(.int .i64 0)]], [], rfl, rfl, rfl⟩ rfl ?_)
    intro w93 hg94 H95
    refine O_nil (Then_n (W_block ?_))
    have H96 := H95.addNil 24 2 stampCh
    refine W_loop (fun m99 e100 w101 => ∃ (at_ : Stamp), ∃ (way : List Stamp), ∃ (h97 : SlH), ∃ (bg98 : Nat), m99 = rows.length + 2 - way.length ∧ (onWay (parentsAll rows) (nth rows m).node way at_) ∧ (way.length ≤ rows.length + 1) ∧ ∃ eb102, e100 = envL [(0, (slV hrows rows)), (3, (.map (some r4))), (6, (.map (some r69))), (8, (.pointer (some ⟨b80, 0, none⟩))), (9, (slV h97 way)), (10, (.pointer (some ⟨bg98, 0, none⟩))), (52, (slV hrows rows)), (53, (.int .i64 ((rows.length : Nat) : Int))), (54, (.int .i64 ((m : Nat) : Int))), (55, (.bool (decide (((m : Nat) : Int) < ((rows.length : Nat) : Int))))), (56, (.pointer (some ⟨hrows.b, (hrows.o + m * 8), none⟩))), (57, (aggOf (rowCh (nth rows m)))), (58, (.pointer (some ⟨b80, 0, none⟩))), (59, (aggOf (stampCh ((nth rows m).node))))] eb102 ∧ Ctx w nob w101 [rowR 24 2 stampCh h97 way, boxR bg98 24 [[(.int .i64 at_.T)], [(.int .i64 at_.R)]], boxR b80 44 [[(.int .i64 (((nth rows m).node).T))], [(.int .i64 (((nth rows m).node).R))], [(.int .i64 (((nth rows m).par).T))], [(.int .i64 (((nth rows m).par).R))], [(.int .i64 (((nth rows m).tm).T))], [(.int .i64 (((nth rows m).tm).R))], [(.string ((nth rows m).name))], [(slV ((nth rows m).hh) ((nth rows m).heads))]], mapO r69 (fun x : Stamp => stampV x) boolV kvg, mapO r4 (fun x : Stamp => stampV x) stampV kvp] [deepI (Old w) headCh 34 (fun x : RowS => x.hh) (fun x : RowS => x.heads) rows, slI (Old w) rowCh 8 hrows rows]) _ ⟨((nth rows m).node), [], nilH, b88, rfl, (onWay_zero _ _), (by simp), _, envL_self ⟨rfl, rfl, rfl, rfl, rfl, rfl, rfl, rfl, rfl, rfl, rfl, rfl, rfl, rfl, trivial⟩, H96⟩ ?_
    rintro m99 _ w101 ⟨at_, way, h97, bg98, rfl, hw, hwl, eb102, rfl, H103⟩
    refine W_seq (W_seq ?_)
    refine W_rg [(0, .q false), (1, .q false), (2, .q false), (3, .q false), (4, .q false), (5, .q false), (6, .q false), (7, .q false), (8, .q false)] (by kernel_rfl) ?_
    refine Lx_q (i := 0) rfl rfl _ (fun v104 hv105 => R_loadA (cs := [[(.int .i64 at_.T)], [(.int .i64 at_.R)]]) Try.isAgg24 Try.sizeOf24 rfl rfl ((boxR_at ((H103.ext hv105).getOwn 1 rfl)).chunks 0 2 0 0 _ rfl rfl rfl) ⟨rfl, Gr.refl _ _⟩) ?_
    refine Lx_q (i := 1) rfl rfl (.bool (fixedSt at_)) (fun v106 hv107 => R_callL (vs := [(aggOf (stampCh at_))]) snap_Right_c48 rfl rfl (snap_fixed at_ v106 )) ?_
    refine Lx_q (i := 2) rfl rfl _ (fun v108 hv109 => R_not rfl ⟨rfl, Gr.refl _ _⟩) ?_
    refine Lx_q (i := 3) rfl rfl _ (fun v110 hv111 => R_move (v := (.bool (!(fixedSt at_)))) rfl ⟨rfl, Gr.refl _ _⟩) ?_
    refine Lx_qg (i := 4) true (!(fixedSt at_)) rfl rfl rfl rfl rfl (!(fixedSt at_)) ga_t _ (fun hA v112 hv113 => R_move (v := (.map (some r69))) rfl ⟨rfl, Gr.refl _ _⟩) ?_
    refine Lx_qg (i := 5) true (!(fixedSt at_)) rfl rfl rfl rfl rfl (!(fixedSt at_)) ga_t _ (fun hA v114 hv115 => R_loadA (cs := [[(.int .i64 at_.T)], [(.int .i64 at_.R)]]) Try.isAgg24 Try.sizeOf24 rfl rfl ((boxR_at ((H103.ext hv115).getOwn 1 rfl)).chunks 0 2 0 0 _ rfl rfl rfl) ⟨rfl, Gr.refl _ _⟩) ?_
    refine Lx_qg (i := 6) true (!(fixedSt at_)) rfl rfl rfl rfl rfl (!(fixedSt at_)) ga_t _ (fun hA v116 hv117 => R_lookup (kk := at_) (z := false) keyT_Stamp24 Try.underlying90 Try.zeroValue4 ((H103.ext hv117).getOwn 3 rfl) (gv_t hA) (gv_t hA) ⟨rfl, Gr.refl _ _⟩) ?_
    refine Lx_qg (i := 7) true (!(fixedSt at_)) rfl rfl rfl rfl rfl (!(fixedSt at_)) ga_t _ (fun hA v118 hv119 => R_not (gv_t hA) ⟨rfl, Gr.refl _ _⟩) ?_
    refine Lx_q (i := 8) rfl rfl _ (fun v120 hv121 => R_pick (t := (!(fixedSt at_))) (v := (.bool ((!(fixedSt at_)) && (!(((kvGet kvg at_).getD false)))))) rfl pk_and ⟨rfl, Gr.refl _ _⟩) ?_
    refine Lx_nil (fun w122 hw123 => ?_)
    have H124 := H103.ext hw123
    refine Then_n ?_
    refine W_cond (t := ((!(fixedSt at_)) && (!(((kvGet kvg at_).getD false))))) rfl (fun hc125 => ?_) (fun hc125 => ?_)
    ·have hc125 : ((fixedSt at_) = false ∧ (((kvGet kvg at_).getD false)) = false) := (And.imp (fun h => (notT h)) (fun h => (notT h)) (andT hc125))
     refine W_skip (Then_n (W_seq (W_block (W_seq (W_reg ?_)))))
     refine O_v rfl (R_move (v := (.map (some r4))) rfl ?_)
     refine O_v rfl (R_loadA (cs := [[(.int .i64 at_.T)], [(.int .i64 at_.R)]]) Try.isAgg24 Try.sizeOf24 rfl rfl ((boxR_at (H124.getOwn 1 rfl)).chunks 0 2 0 0 _ rfl rfl rfl) ?_)
     refine O_v rfl (R_lookupOk (kk := at_) (z := (⟨0, 0⟩ : Stamp)) keyT_Stamp24 Try.underlying88 Try.zeroValue24 (H124.getOwn 4 rfl) rfl rfl ?_)
     refine O_v rfl (R_move (v := (.tuple #[(aggOf (stampCh ((kvGet kvp at_).getD (⟨0, 0⟩ : Stamp)))), (.bool ((kvGet kvp at_).isSome))])) rfl ?_)
     refine O_v rfl (R_extract (v := (aggOf (stampCh ((kvGet kvp at_).getD (⟨0, 0⟩ : Stamp))))) rfl rfl ?_)
     refine O_v rfl (R_extract (v := (.bool ((kvGet kvp at_).isSome))) rfl rfl ?_)
     refine O_v rfl (C_alloc H124 [[(.int .i64 0)], [(.int .i64 0)]] Try.zeroValue24 ?_)
     intro b126 w127 hb128 hx129 H130
     refine O_u (C_storeA H130 0 rfl 0 (sub := [[(.int .i64 (((kvGet kvp at_).getD (⟨0, 0⟩ : Stamp)).T))], [(.int .i64 (((kvGet kvp at_).getD (⟨0, 0⟩ : Stamp)).R))]]) [[(.int .i64 (((kvGet kvp at_).getD (⟨0, 0⟩ : Stamp)).T))], [(.int .i64 (((kvGet kvp at_).getD (⟨0, 0⟩ : Stamp)).R))]] Try.sizeOf24 rfl rfl rfl rfl ⟨[[(.int .i64 0)], [(.int .i64 0)]], [], rfl, rfl, rfl⟩ rfl ?_)
     intro w131 hg132 H133
     refine O_v rfl (R_assign (v := (.bool ((kvGet kvp at_).isSome))) rfl ?_)
     refine O_nil (Then_n (W_seq (W_seq ?_)))
     refine W_rg [(0, .q false), (1, .q false), (2, .q false), (3, .q false), (4, .q false), (5, .q false), (6, .q false), (7, .q false), (8, .q false)] (by kernel_rfl) ?_
     refine Lx_q (i := 0) rfl rfl _ (fun v134 hv135 => R_move (v := (.bool ((kvGet kvp at_).isSome))) rfl ⟨rfl, Gr.refl _ _⟩) ?_
     refine Lx_q (i := 1) rfl rfl _ (fun v136 hv137 => R_not rfl ⟨rfl, Gr.refl _ _⟩) ?_
     refine Lx_q (i := 2) rfl rfl _ (fun v138 hv139 => R_move (v := (.bool (!((kvGet kvp at_).isSome)))) rfl ⟨rfl, Gr.refl _ _⟩) ?_
     refine Lx_qg (i := 3) true (!((kvGet kvp at_).isSome)) rfl rfl rfl rfl rfl (!(!((kvGet kvp at_).isSome))) ga_f _ (fun hA v140 hv141 => R_move (v := (slV h97 way)) rfl ⟨rfl, Gr.refl _ _⟩) ?_
     refine Lx_qg (i := 4) true (!((kvGet kvp at_).isSome)) rfl rfl rfl rfl rfl (!(!((kvGet kvp at_).isSome))) ga_f _ (fun hA v142 hv143 => R_len_slice (a := h97.a) (n := way.length) (c := h97.c) Try.underlying37 (gv_t hA) ⟨rfl, Gr.refl _ _⟩) ?_
     refine Lx_qg (i := 5) true (!((kvGet kvp at_).isSome)) rfl rfl rfl rfl rfl (!(!((kvGet kvp at_).isSome))) ga_f _ (fun hA v144 hv145 => R_move (v := (slV hrows rows)) rfl ⟨rfl, Gr.refl _ _⟩) ?_
     refine Lx_qg (i := 6) true (!((kvGet kvp at_).isSome)) rfl rfl rfl rfl rfl (!(!((kvGet kvp at_).isSome))) ga_f _ (fun hA v146 hv147 => R_len_slice (a := hrows.a) (n := rows.length) (c := hrows.c) Try.underlying22 (gv_t hA) ⟨rfl, Gr.refl _ _⟩) ?_
     refine Lx_qg (i := 7) true (!((kvGet kvp at_).isSome)) rfl rfl rfl rfl rfl (!(!((kvGet kvp at_).isSome))) ga_f _ (fun hA v148 hv149 => R_cmp (a := ((way.length : Nat) : Int)) (b := ((rows.length : Nat) : Int)) (r := (decide (((rows.length : Nat) : Int) < ((way.length : Nat) : Int)))) (gv_t hA) (gv_t hA) rfl ⟨rfl, Gr.refl _ _⟩) ?_
     refine Lx_q (i := 8) rfl rfl _ (fun v150 hv151 => R_pick (t := (!((kvGet kvp at_).isSome))) (v := (.bool ((!((kvGet kvp at_).isSome)) || (decide (((rows.length : Nat) : Int) < ((way.length : Nat) : Int)))))) rfl pk_or ⟨rfl, Gr.refl _ _⟩) ?_
     refine Lx_nil (fun w152 hw153 => ?_)
     have H154 := H133.ext hw153
     refine Then_n ?_
     refine W_cond (t := ((!((kvGet kvp at_).isSome)) || (decide (((rows.length : Nat) : Int) < ((way.length : Nat) : Int))))) rfl (fun hc155 => ?_) (fun hc155 => ?_)
     ·have hc155 : (((kvGet kvp at_).isSome) = false ∨ (((rows.length : Nat) : Int) < ((way.length : Nat) : Int))) := (Or.imp (fun h => (notT h)) (fun h => (of_decide_eq_true h)) (orT hc155))
      refine W_seq (W_reg ?_)
      refine O_v rfl (R_assign (v := (.bool false)) rfl ?_)
      refine O_nil (Then_n (W_ret (Then_r (Blk_r (Then_r (Then_r (Blk_r (Then_r (Blk_r (Then_r (Then_r (Blk_r (Then_r ?_)))))))))))))
      refine ret_1 (v := (.bool false)) Try.results34 rfl ?_
      exact ⟨(snapF (fun h => way_bad' hpa hw hwl (by have := parentsTo_len rows rows.length; exact this.2) (by assumption) (by assumption) (h.2.2 m (by omega)))), H154.gr⟩
     ·have hc155 : (((kvGet kvp at_).isSome) = true ∧ ¬ (((rows.length : Nat) : Int) < ((way.length : Nat) : Int))) := (And.imp (fun h => (notF h)) (fun h => (of_decide_eq_false h)) (orF hc155))
      refine W_skip (Then_n (W_seq (W_reg ?_)))
      refine O_v rfl (R_move (v := (slV h97 way)) rfl ?_)
      refine O_v rfl (R_loadA (cs := [[(.int .i64 at_.T)], [(.int .i64 at_.R)]]) Try.isAgg24 Try.sizeOf24 rfl rfl ((boxR_at (H154.getOwn 2 rfl)).chunks 0 2 0 0 _ rfl rfl rfl) ?_)
      refine O_v rfl (C_buildSliceL H154 (enc := stampCh) (val := stampV) ([at_] : List Stamp) Try.underlying37 Try.sizeOf24 Try.zeroValue24 rfl (by decide) (fun _ => rfl) (fun _ => rfl) rfl rfl (by decide) ?_)
      intro b156 w157 hb158 hx159 H160
      refine O_v rfl (C_append H160 2 rfl (bytes := 16) (l := way) (ys := ([at_] : List Stamp)) Try.underlying37 rfl rfl rfl rfl rfl (by decide) rfl rfl (OwnS.sl (H160.getOwn 0 rfl) (fun _ => rfl)) (fun _ => rfl) (fun _ => rfl) (by simp only [List.length_append, List.length_cons, List.length_nil]; omega) (by decide) ?_)
      intro h161 w162 hg163 H164
      refine O_v rfl (R_assign (v := (slV h161 (way ++ ([at_] : List Stamp)))) rfl ?_)
      refine O_nil (Then_n (W_reg ?_))
      refine O_v rfl (R_loadA (cs := [[(.int .i64 (((kvGet kvp at_).getD (⟨0, 0⟩ : Stamp)).T))], [(.int .i64 (((kvGet kvp at_).getD (⟨0, 0⟩ : Stamp)).R))]]) Try.isAgg24 Try.sizeOf24 rfl rfl ((boxR_at (H164.getOwn 1 rfl)).chunks 0 2 0 0 _ rfl rfl rfl) ?_)
      refine O_u (C_storeA H164 3 rfl 0 (sub := [[(.int .i64 (((kvGet kvp at_).getD (⟨0, 0⟩ : Stamp)).T))], [(.int .i64 (((kvGet kvp at_).getD (⟨0, 0⟩ : Stamp)).R))]]) [[(.int .i64 (((kvGet kvp at_).getD (⟨0, 0⟩ : Stamp)).T))], [(.int .i64 (((kvGet kvp at_).getD (⟨0, 0⟩ : Stamp)).R))]] Try.sizeOf24 rfl rfl rfl rfl ⟨[[(.int .i64 at_.T)], [(.int .i64 at_.R)]], [], rfl, rfl, rfl⟩ rfl ?_)
      intro w165 hg166 H167
      refine O_nil (Blk_n (Then_n (W_seq (W_reg ?_))))
      refine O_v rfl (R_loadA (cs := [[(.int .i64 (((kvGet kvp at_).getD (⟨0, 0⟩ : Stamp)).T))], [(.int .i64 (((kvGet kvp at_).getD (⟨0, 0⟩ : Stamp)).R))]]) Try.isAgg24 Try.sizeOf24 rfl rfl ((boxR_at (H167.getOwn 3 rfl)).chunks 0 2 0 0 _ rfl rfl rfl) ?_)
      refine O_nil (Then_n (W_reg ?_))
      refine O_v rfl (C_alloc H167 [[(.int .i64 0)], [(.int .i64 0)]] Try.zeroValue24 ?_)
      intro b168 w169 hb170 hx171 H172
      refine O_u (C_storeA H172 0 rfl 0 (sub := [[(.int .i64 (((kvGet kvp at_).getD (⟨0, 0⟩ : Stamp)).T))], [(.int .i64 (((kvGet kvp at_).getD (⟨0, 0⟩ : Stamp)).R))]]) [[(.int .i64 (((kvGet kvp at_).getD (⟨0, 0⟩ : Stamp)).T))], [(.int .i64 (((kvGet kvp at_).getD (⟨0, 0⟩ : Stamp)).R))]] Try.sizeOf24 rfl rfl rfl rfl ⟨[[(.int .i64 0)], [(.int .i64 0)]], [], rfl, rfl, rfl⟩ rfl ?_)
      intro w173 hg174 H175
      refine O_nil (Then_n ?_)
      have H176 := H175.pick (B' := [rowR 24 2 stampCh h161 (way ++ ([at_] : List Stamp)), boxR b168 24 [[(.int .i64 (((kvGet kvp at_).getD (⟨0, 0⟩ : Stamp)).T))], [(.int .i64 (((kvGet kvp at_).getD (⟨0, 0⟩ : Stamp)).R))]], boxR b80 44 [[(.int .i64 (((nth rows m).node).T))], [(.int .i64 (((nth rows m).node).R))], [(.int .i64 (((nth rows m).par).T))], [(.int .i64 (((nth rows m).par).R))], [(.int .i64 (((nth rows m).tm).T))], [(.int .i64 (((nth rows m).tm).R))], [(.string ((nth rows m).name))], [(slV ((nth rows m).hh) ((nth rows m).heads))]], mapO r69 (fun x : Stamp => stampV x) boolV kvg, mapO r4 (fun x : Stamp => stampV x) stampV kvp]) (I' := [deepI (Old w) headCh 34 (fun x : RowS => x.hh) (fun x : RowS => x.heads) rows, slI (Old w) rowCh 8 hrows rows]) [3, 0, 5, 6, 7] (by decide) rfl (List.forall_mem_cons.2 ⟨List.mem_of_getElem? (i := 0) rfl, List.forall_mem_cons.2 ⟨List.mem_of_getElem? (i := 1) rfl, fun _ h => (nomatch h)⟩⟩)
      refine ⟨_, ?_, ((kvGet kvp at_).getD ⟨0, 0⟩), (way ++ ([at_] : List Stamp)), h161, b168, rfl, (way_step' hpa hw (by assumption) (by assumption)), (by simp only [List.length_append, List.length_cons, List.length_nil]; omega), _, envL_self ⟨rfl, rfl, rfl, rfl, rfl, rfl, rfl, rfl, rfl, rfl, rfl, rfl, rfl, rfl, trivial⟩, H176⟩
      simp only [List.length_append, List.length_cons, List.length_nil]; omega
    ·have hc125 : ((fixedSt at_) = true ∨ (((kvGet kvg at_).getD false)) = true) := (Or.imp (fun h => (notF h)) (fun h => (notF h)) (andF hc125))
     refine W_exit (Then_x (Then_x (Blk_x (Then_n (W_seq (W_reg ?_))))))
     refine O_v rfl (R_move (v := (slV h97 way)) rfl ?_)
     refine O_v rfl (R_len_slice (a := h97.a) (n := way.length) (c := h97.c) Try.underlying37 rfl ?_)
     refine O_v rfl (R_move (v := (.int .i64 0)) rfl ?_)
     refine O_nil (Then_n (W_block ?_))
     refine W_loop (fun m177 e178 w179 => ∃ (j : Nat), ∃ (kvg2 : List (Stamp × Bool)), m177 = way.length - j ∧ (j ≤ way.length) ∧ (∀ s, (kvGet kvg2 s).getD false = true → reach (parentsAll rows) s) ∧ (∀ i, i < way.length → reach (parentsAll rows) (nth way i)) ∧ (reach (parentsAll rows) (nth rows m).node) ∧ ∃ eb180, e178 = envL [(0, (slV hrows rows)), (3, (.map (some r4))), (6, (.map (some r69))), (8, (.pointer (some ⟨b80, 0, none⟩))), (9, (slV h97 way)), (10, (.pointer (some ⟨bg98, 0, none⟩))), (52, (slV hrows rows)), (53, (.int .i64 ((rows.length : Nat) : Int))), (54, (.int .i64 ((m : Nat) : Int))), (55, (.bool (decide (((m : Nat) : Int) < ((rows.length : Nat) : Int))))), (56, (.pointer (some ⟨hrows.b, (hrows.o + m * 8), none⟩))), (57, (aggOf (rowCh (nth rows m)))), (58, (.pointer (some ⟨b80, 0, none⟩))), (59, (aggOf (stampCh ((nth rows m).node)))), (60, (aggOf (stampCh at_))), (61, (.bool (fixedSt at_))), (62, (.bool (!(fixedSt at_)))), (63, (.bool (!(fixedSt at_)))), (64, (gv (!(fixedSt at_)) (.map (some r69)))), (65, (gv (!(fixedSt at_)) (aggOf (stampCh at_)))), (66, (gv (!(fixedSt at_)) (.bool (((kvGet kvg at_).getD false))))), (67, (gv (!(fixedSt at_)) (.bool (!(((kvGet kvg at_).getD false)))))), (68, (.bool ((!(fixedSt at_)) && (!(((kvGet kvg at_).getD false)))))), (90, (slV h97 way)), (91, (.int .i64 ((way.length : Nat) : Int))), (92, (.int .i64 ((j : Nat) : Int)))] eb180 ∧ Ctx w nob w179 [rowR 24 2 stampCh h97 way, boxR bg98 24 [[(.int .i64 at_.T)], [(.int .i64 at_.R)]], boxR b80 44 [[(.int .i64 (((nth rows m).node).T))], [(.int .i64 (((nth rows m).node).R))], [(.int .i64 (((nth rows m).par).T))], [(.int .i64 (((nth rows m).par).R))], [(.int .i64 (((nth rows m).tm).T))], [(.int .i64 (((nth rows m).tm).R))], [(.string ((nth rows m).name))], [(slV ((nth rows m).hh) ((nth rows m).heads))]], mapO r69 (fun x : Stamp => stampV x) boolV kvg2, mapO r4 (fun x : Stamp => stampV x) stampV kvp] [deepI (Old w) headCh 34 (fun x : RowS => x.hh) (fun x : RowS => x.heads) rows, slI (Old w) rowCh 8 hrows rows]) _ ⟨0, kvg, rfl, (by omega), hg, (way_all hw (way_stop hg (by assumption))), ((onWay_reach hw 0 (Nat.zero_le _)).2 (way_stop hg (by assumption))), _, envL_self ⟨rfl, rfl, rfl, rfl, rfl, rfl, rfl, rfl, rfl, rfl, rfl, rfl, rfl, rfl, rfl, rfl, rfl, rfl, rfl, rfl, rfl, rfl, rfl, rfl, rfl, rfl, trivial⟩, H124⟩ ?_
     rintro m177 _ w179 ⟨j, kvg2, rfl, hj, hg2, hall, hrn, eb180, rfl, H181⟩
     refine W_seq (W_reg ?_)
     refine O_v rfl (R_cmp (a := ((j : Nat) : Int)) (b := ((way.length : Nat) : Int)) (r := (decide (((j : Nat) : Int) < ((way.length : Nat) : Int)))) rfl rfl rfl ?_)
     refine O_nil (Then_n (W_seq ?_))
     refine W_cond (t := (decide (((j : Nat) : Int) < ((way.length : Nat) : Int)))) rfl (fun hc182 => ?_) (fun hc182 => ?_)
     ·have hc182 : (((j : Nat) : Int) < ((way.length : Nat) : Int)) := (of_decide_eq_true hc182)
      refine W_skip (Then_n (W_seq (W_block (W_seq (W_reg ?_)))))
      refine O_v rfl (R_index_pure (OwnS.sl (H181.getOwn 0 rfl) (fun _ => rfl)) (n := way.length) rfl (j := ((j : Nat) : Int)) (oo := (h97.o + j * 2)) Try.underlying37 Try.sizeOf24 rfl rfl (by omega) (by omega) rfl ?_)
      refine O_v rfl (R_loadA (cs := [[(.int .i64 ((nth way j).T))], [(.int .i64 ((nth way j).R))]]) Try.isAgg24 Try.sizeOf24 rfl rfl ((Sl.elem (OwnS.sl (H181.getOwn 0 rfl) (fun _ => rfl)) (i := j) (by omega) rfl).chunks 0 2 0 (h97.o + j * 2) _ rfl rfl rfl) ?_)
      refine O_v rfl (C_alloc H181 [[(.int .i64 0)], [(.int .i64 0)]] Try.zeroValue24 ?_)
      intro b183 w184 hb185 hx186 H187
      refine O_u (C_storeA H187 0 rfl 0 (sub := [[(.int .i64 ((nth way j).T))], [(.int .i64 ((nth way j).R))]]) [[(.int .i64 ((nth way j).T))], [(.int .i64 ((nth way j).R))]] Try.sizeOf24 rfl rfl rfl rfl ⟨[[(.int .i64 0)], [(.int .i64 0)]], [], rfl, rfl, rfl⟩ rfl ?_)
      intro w188 hg189 H190
      refine O_nil (Then_n (W_reg ?_))
      refine O_v rfl (R_move (v := (.map (some r69))) rfl ?_)
      refine O_v rfl (R_loadA (cs := [[(.int .i64 ((nth way j).T))], [(.int .i64 ((nth way j).R))]]) Try.isAgg24 Try.sizeOf24 rfl rfl ((boxR_at (H190.getOwn 0 rfl)).chunks 0 2 0 0 _ rfl rfl rfl) ?_)
      refine O_u (C_mapUpdate H190 4 rfl (kk := (nth way j)) (v := true) keyT_Stamp24 Try.underlying90 rfl rfl rfl ?_)
      intro w191 hg192 H193
      refine O_nil (Blk_n (Then_n (W_reg ?_)))
      refine O_v rfl (R_arith (a := ((j : Nat) : Int)) (b := 1) (r0 := ((j : Nat) : Int) + 1) (r := ((j + 1 : Nat) : Int)) rfl rfl rfl (wrapN _ (by omega)) ?_)
      refine O_v rfl (R_move (v := (.int .i64 ((j + 1 : Nat) : Int))) rfl ?_)
      refine O_nil (Then_n ?_)
      have H194 := H193.sub (B' := [rowR 24 2 stampCh h97 way, boxR bg98 24 [[(.int .i64 at_.T)], [(.int .i64 at_.R)]], boxR b80 44 [[(.int .i64 (((nth rows m).node).T))], [(.int .i64 (((nth rows m).node).R))], [(.int .i64 (((nth rows m).par).T))], [(.int .i64 (((nth rows m).par).R))], [(.int .i64 (((nth rows m).tm).T))], [(.int .i64 (((nth rows m).tm).R))], [(.string ((nth rows m).name))], [(slV ((nth rows m).hh) ((nth rows m).heads))]], mapO r69 (fun x : Stamp => stampV x) boolV (kvPut (nth way j) true kvg2), mapO r4 (fun x : Stamp => stampV x) stampV kvp]) (I' := [deepI (Old w) headCh 34 (fun x : RowS => x.hh) (fun x : RowS => x.heads) rows, slI (Old w) rowCh 8 hrows rows]) (List.Sublist.cons _ (List.Sublist.cons_cons _ (List.Sublist.cons_cons _ (List.Sublist.cons_cons _ (List.Sublist.cons_cons _ (List.Sublist.cons_cons _ List.Sublist.slnil)))))) (List.forall_mem_cons.2 ⟨List.mem_of_getElem? (i := 0) rfl, List.forall_mem_cons.2 ⟨List.mem_of_getElem? (i := 1) rfl, fun _ h => (nomatch h)⟩⟩)
      refine ⟨_, ?_, (j + 1), (kvPut (nth way j) true kvg2), rfl, (by omega), (mark_good hg2 (hall j (by omega))), hall, hrn, _, envL_self ⟨rfl, rfl, rfl, rfl, rfl, rfl, rfl, rfl, rfl, rfl, rfl, rfl, rfl, rfl, rfl, rfl, rfl, rfl, rfl, rfl, rfl, rfl, rfl, rfl, rfl, rfl, trivial⟩, H194⟩
      omega
     ·have hc182 : ¬ (((j : Nat) : Int) < ((way.length : Nat) : Int)) := (of_decide_eq_false hc182)
      refine W_exit (Then_x (Then_x (Blk_x (Blk_n (Then_n (W_reg ?_))))))
      refine O_v rfl (R_arith (a := ((m : Nat) : Int)) (b := 1) (r0 := ((m : Nat) : Int) + 1) (r := ((m + 1 : Nat) : Int)) rfl rfl rfl (wrapN _ (by omega)) ?_)
      refine O_v rfl (R_move (v := (.int .i64 ((m + 1 : Nat) : Int))) rfl ?_)
      refine O_nil (Then_n ?_)
      have H195 := H181.sub (B' := [mapO r69 (fun x : Stamp => stampV x) boolV kvg2, mapO r4 (fun x : Stamp => stampV x) stampV kvp]) (I' := [deepI (Old w) headCh 34 (fun x : RowS => x.hh) (fun x : RowS => x.heads) rows, slI (Old w) rowCh 8 hrows rows]) (List.Sublist.cons _ (List.Sublist.cons _ (List.Sublist.cons _ (List.Sublist.cons_cons _ (List.Sublist.cons_cons _ List.Sublist.slnil))))) (List.forall_mem_cons.2 ⟨List.mem_of_getElem? (i := 0) rfl, List.forall_mem_cons.2 ⟨List.mem_of_getElem? (i := 1) rfl, fun _ h => (nomatch h)⟩⟩)
      refine ⟨_, ?_, (m + 1), kvg2, rfl, (by omega), hg2, (all_succ hr hrn), hpa, hn2, h5, _, envL_self ⟨rfl, rfl, rfl, rfl, rfl, rfl, trivial⟩, H195⟩
      omega
   ·have hc79 : ¬ (((m : Nat) : Int) < ((rows.length : Nat) : Int)) := (of_decide_eq_false hc79)
    refine W_exit (Then_x (Then_x (Blk_x (Then_n (W_seq (W_reg ?_))))))
    refine O_v rfl (R_assign (v := (.bool true)) rfl ?_)
    refine O_nil (Then_n (W_ret ?_))
    refine ret_1 (v := (.bool true)) Try.results34 rfl ?_
    exact ⟨(snapT h5 hn2 (by rwa [show rows.length = m from by omega])), H78.gr⟩

end Go.Proofs.Ytiknfldhommmpaa
/- The plain side of strings.Join. -/
namespace Go.Proofs.Ytiknfldhommmpaa
open Go
set_option linter.unusedVariables false
set_option linter.unusedSimpArgs false
set_option linter.unusedSectionVars false
def joinTo (xs : List ByteArray) (sep : ByteArray) (j : Nat) : List UInt8 := Lib.join ((xs.take j).map (·.data.toList)) sep.data.toList
def joinB (xs : List ByteArray) (sep : ByteArray) : ByteArray := ⟨(joinTo xs sep xs.length).toArray⟩
def lensTo (xs : List ByteArray) (k : Nat) : Nat := ((xs.take k).map (·.size)).sum
theorem ba_toArray (s : ByteArray) : (⟨s.data.toList.toArray⟩ : ByteArray) = s := by cases s; simp
theorem size_data (s : ByteArray) : s.data.toList.length = s.size := by rw [Array.length_toList]; rfl
theorem joinTo_zero {xs : List ByteArray} {sep : ByteArray} (h : ((xs.length : Nat) : Int) = 0) : joinB xs sep = ByteArray.empty := by
  have : xs = [] := List.eq_nil_of_length_eq_zero (by omega)
  subst this; rfl
theorem joinTo_one {xs : List ByteArray} {sep : ByteArray} (h : 1 ≤ xs.length) : joinTo xs sep 1 = (nth xs 0).data.toList := by
  cases xs with
  | nil => simp at h
  | cons x r => simp [joinTo, Lib.join_one, nth]
theorem joinB_one {xs : List ByteArray} {sep : ByteArray} (h : ((xs.length : Nat) : Int) = 1) : joinB xs sep = nth xs 0 := by
  have h1 : xs.length = 1 := by omega
  unfold joinB
  rw [h1, joinTo_one (by omega), ba_toArray]
theorem joinTo_succ {xs : List ByteArray} {sep : ByteArray} {j : Nat} (h1 : 1 ≤ j) (hj : j < xs.length) : joinTo xs sep (j + 1) = (joinTo xs sep j ++ sep.data.toList) ++ (nth xs j).data.toList := by
  unfold joinTo
  rw [List.take_succ_eq_append_getElem hj, nth_eq hj]
  cases xs with
  | nil => simp at hj
  | cons x r =>
    obtain ⟨j, rfl⟩ : ∃ i, j = i + 1 := ⟨j - 1, by omega⟩
    simp only [List.take_succ_cons, List.map_cons, List.cons_append, List.map_append, List.getElem_cons_succ, List.map_nil, Lib.join_cons, Lib.joinTail, List.flatten_append, List.flatten_cons, List.flatten_nil, List.append_nil, List.append_assoc]
theorem joinTo_len {xs : List ByteArray} {sep : ByteArray} : ∀ {j : Nat}, 1 ≤ j → j ≤ xs.length → (joinTo xs sep j).length = sep.size * (j - 1) + lensTo xs j := by
  intro j
  induction j with
  | zero => intro h; omega
  | succ j ih =>
    intro h1 h2
    by_cases h0 : j = 0
    · subst h0
      rw [joinTo_one (by omega)]
      cases xs with
      | nil => simp at h2
      | cons x r => show x.data.toList.length = _; rw [size_data]; show x.size = sep.size * 0 + (x.size + 0); omega
    · rw [joinTo_succ (by omega) (by omega), List.length_append, List.length_append, ih (by omega) (by omega), size_data, size_data]
      unfold lensTo
      rw [List.take_succ_eq_append_getElem (by omega), List.map_append, List.sum_append, nth_eq (by omega)]
      simp only [List.map_cons, List.map_nil, List.sum_cons, List.sum_nil, Nat.add_sub_cancel]
      have : sep.size * j = sep.size * (j - 1) + sep.size := by
        conv => lhs; rw [show j = (j - 1) + 1 from by omega, Nat.mul_add, Nat.mul_one]
      omega
theorem lensTo_succ {xs : List ByteArray} {k : Nat} (h : k < xs.length) : lensTo xs (k + 1) = lensTo xs k + (nth xs k).size := by
  unfold lensTo
  rw [List.take_succ_eq_append_getElem h, List.map_append, List.sum_append, nth_eq h]
  simp
theorem lensTo_le {xs : List ByteArray} : ∀ {j k : Nat}, j ≤ k → k ≤ xs.length → lensTo xs j ≤ lensTo xs k := by
  intro j k h
  induction h with
  | refl => intro; omega
  | step h ih =>
    intro h2
    have := ih (by omega)
    rw [lensTo_succ (by omega)]
    omega
theorem joinTo_le {xs : List ByteArray} {sep : ByteArray} {j : Nat} (h1 : 1 ≤ j) (h2 : j ≤ xs.length) : (joinTo xs sep j).length ≤ (joinTo xs sep xs.length).length := by
  rw [joinTo_len h1 h2, joinTo_len (by omega) (Nat.le_refl _)]
  have := lensTo_le (xs := xs) h2 (Nat.le_refl _)
  have : sep.size * (j - 1) ≤ sep.size * (xs.length - 1) := Nat.mul_le_mul_left _ (by omega)
  omega
theorem byteCells_app (l : List UInt8) (s : ByteArray) : Lib.byteCells l ++ Lib.strCells s = Lib.byteCells (l ++ s.data.toList) := by simp [Lib.byteCells, Lib.strCells]
theorem byteCells_len (l : List UInt8) : (Lib.byteCells l).length = l.length := by simp [Lib.byteCells]
theorem joinDead {n s : Nat} (h : (9223372036854775807 : Int).tdiv (((n - 1 : Nat)) : Int) ≤ ((s : Nat) : Int)) (h1 : 2 ≤ n) (h2 : s * (n - 1) ≤ 140737488355328) (h3 : n ≤ 140737488355328) : False := by
  have h4 : ((s : Nat) + 1) * (n - 1) ≤ 9223372036854775807 := by rw [Nat.add_mul]; omega
  have h5 : s + 1 ≤ 9223372036854775807 / (n - 1) := (Nat.le_div_iff_mul_le (by omega)).2 h4
  have h6 : (9223372036854775807 : Int).tdiv (((n - 1 : Nat)) : Int) = ((9223372036854775807 / (n - 1) : Nat) : Int) := by
    rw [Int.tdiv_eq_ediv_of_nonneg (by omega)]; rfl
  omega
theorem mulw {a b : Nat} (h : a * b ≤ 9223372036854775807) : IntKind.i64.wrap (((a : Nat) : Int) * ((b : Nat) : Int)) = ((a * b : Nat) : Int) := by
  have e : ((a : Nat) : Int) * ((b : Nat) : Int) = ((a * b : Nat) : Int) := by simp
  rw [e]; exact w64 _ (by omega)
theorem tdivw {b : Nat} (h : 1 ≤ b) : IntKind.i64.wrap ((9223372036854775807 : Int).tdiv ((b : Nat) : Int)) = (9223372036854775807 : Int).tdiv ((b : Nat) : Int) := by
  have h6 : (9223372036854775807 : Int).tdiv ((b : Nat) : Int) = ((9223372036854775807 / b : Nat) : Int) := by
    rw [Int.tdiv_eq_ediv_of_nonneg (by omega)]; rfl
  have h7 := Nat.div_le_self 9223372036854775807 b
  rw [h6]
  generalize 9223372036854775807 / b = q at h7
  exact w64 _ (by omega)
theorem nth_drop1 {xs : List ByteArray} {j : Nat} : nth (xs.drop 1) j = nth xs (j + 1) := by
  unfold nth; simp [List.getD_eq_getElem?_getD, List.getElem?_drop, Nat.add_comm]
theorem joinRoom {elems : List ByteArray} {sep : ByteArray} {j : Nat} (htot : (joinTo elems sep elems.length).length ≤ 140737488355328) (hj : j + 1 < elems.length) : (joinTo elems sep (j + 1)).length + sep.size + (nth elems (j + 1)).size ≤ 140737488355328 := by
  have h1 := joinTo_le (xs := elems) (sep := sep) (j := j + 1 + 1) (by omega) (by omega)
  rw [joinTo_succ (by omega) hj, List.length_append, List.length_append, size_data, size_data] at h1
  omega
theorem joinRoom1 {elems : List ByteArray} {sep : ByteArray} {j : Nat} (htot : (joinTo elems sep elems.length).length ≤ 140737488355328) (hj : j + 1 < elems.length) : (Lib.byteCells (joinTo elems sep (j + 1))).length + sep.size ≤ 140737488355328 := by
  have := joinRoom htot hj
  rw [byteCells_len]; omega
theorem joinRoom2 {elems : List ByteArray} {sep : ByteArray} {j : Nat} (htot : (joinTo elems sep elems.length).length ≤ 140737488355328) (hj : j + 1 < elems.length) : (Lib.byteCells (joinTo elems sep (j + 1) ++ sep.data.toList)).length + (nth (elems.drop 1) j).size ≤ 140737488355328 := by
  have := joinRoom htot hj
  rw [byteCells_len, List.length_append, size_data, nth_drop1]; omega
theorem joinB_of {elems : List ByteArray} {sep : ByteArray} {j : Nat} (h : j + 1 = elems.length) : joinB elems sep = ⟨(joinTo elems sep (j + 1)).toArray⟩ := by unfold joinB; rw [h]
def namesGo (kv : List (Stamp × RowS)) : Nat → Stamp → List ByteArray
  | 0, _ => []
  | n + 1, s => if s.T = 0 then [] else ((kvGet kv s).getD zeroRow).name :: namesGo kv n ((kvGet kv s).getD zeroRow).par
def slash : ByteArray := ⟨#[47]⟩
def pathOf (rows : List RowS) (node : Stamp) : ByteArray := if placeOf (tableOf rows) node = (⟨0, 0⟩, true) then joinB (namesGo (tableOf rows) ((tableOf rows).length + 1) node).reverse slash else ByteArray.empty
theorem place_step {kv : List (Stamp × RowS)} {n : Nat} {nd : Stamp} (h : placeGo kv n nd = (⟨0, 0⟩, true)) (h0 : ¬ nd.T = 0) : 1 ≤ n ∧ placeGo kv (n - 1) ((kvGet kv nd).getD zeroRow).par = (⟨0, 0⟩, true) := by
  cases n with
  | zero => simp [placeGo] at h
  | succ n =>
    unfold placeGo at h
    rw [if_neg h0] at h
    cases hk : kvGet kv nd with
    | none => rw [hk] at h; simp at h
    | some r =>
      rw [hk] at h
      exact ⟨by omega, h⟩
theorem names_step {kv : List (Stamp × RowS)} {n : Nat} {nd : Stamp} {acc : List ByteArray} {z : List ByteArray} (h : placeGo kv n nd = (⟨0, 0⟩, true)) (h0 : ¬ nd.T = 0) (ha : acc ++ namesGo kv n nd = z) :
    (acc ++ [((kvGet kv nd).getD zeroRow).name]) ++ namesGo kv (n - 1) ((kvGet kv nd).getD zeroRow).par = z := by
  cases n with
  | zero => simp [placeGo] at h
  | succ n =>
    rw [← ha]
    conv => rhs; unfold namesGo
    rw [if_neg h0, List.append_assoc]; rfl
theorem tableOf_mem {rows : List RowS} {s : Stamp} {r : RowS} (h : kvGet (tableOf rows) s = some r) : r ∈ rows ∧ r.node = s := by
  have key : ∀ (l : List RowS) (kv : List (Stamp × RowS)) (p : Stamp × RowS), p ∈ l.foldl (fun kv r => kvPut r.node r kv) kv → p ∈ kv ∨ (p.2 ∈ l ∧ p.2.node = p.1) := by
    intro l
    induction l with
    | nil => intro kv p hp; exact .inl hp
    | cons x l ih =>
      intro kv p hp
      rcases ih _ p hp with h | h
      · rcases kvPut_mem h with h | h
        · subst h; exact .inr ⟨by simp, rfl⟩
        · exact .inl h
      · exact .inr ⟨List.mem_cons_of_mem _ h.1, h.2⟩
  rcases key rows [] (s, r) (kvGet_mem h) with h | h
  · cases h
  · exact h
theorem table_name {rows : List RowS} (h : ∀ x ∈ rows, x.name.size ≤ 60) (nd : Stamp) : ((kvGet (tableOf rows) nd).getD zeroRow).name.size ≤ 60 := by
  cases hk : kvGet (tableOf rows) nd with
  | none => exact Nat.zero_le _
  | some r => exact h r (tableOf_mem hk).1
theorem lens_small {xs : List ByteArray} (h : ∀ x ∈ xs, x.size ≤ 60) : lensTo xs xs.length ≤ 60 * xs.length := by
  unfold lensTo
  rw [List.take_length]
  induction xs with
  | nil => simp
  | cons x xs ih =>
    have h1 := ih fun y hy => h y (List.mem_cons_of_mem _ hy)
    have h2 := h x (by simp)
    simp only [List.map_cons, List.sum_cons, List.length_cons]
    omega
theorem names_small {xs : List ByteArray} {n : Nat} (h : ∀ x ∈ xs, x.size ≤ 60) (hl : xs.length ≤ n) (hn : n ≤ 1048577) : (joinTo xs slash xs.length).length ≤ 140737488355328 := by
  by_cases h0 : xs.length = 0
  · have : xs = [] := List.eq_nil_of_length_eq_zero h0
    subst this; simp [joinTo, Lib.join_nil]
  · rw [joinTo_len (by omega) (Nat.le_refl _)]
    have := lens_small h
    have e : slash.size = 1 := rfl
    rw [e]; omega
theorem pathOf_none {rows : List RowS} {node : Stamp} (h : (placeOf (tableOf rows) node).2 = false ∨ ¬ (placeOf (tableOf rows) node).1 = ⟨0, 0⟩) : pathOf rows node = ByteArray.empty := by
  unfold pathOf
  rw [if_neg]
  intro e
  rw [e] at h
  simp at h
theorem pathOf_some {rows : List RowS} {node nd : Stamp} {n : Nat} {acc : List ByteArray} (hp : placeGo (tableOf rows) n nd = (⟨0, 0⟩, true)) (ha : acc ++ namesGo (tableOf rows) n nd = namesGo (tableOf rows) ((tableOf rows).length + 1) node) (h0 : nd.T = 0) (hq : placeOf (tableOf rows) node = (⟨0, 0⟩, true)) : pathOf rows node = joinB acc.reverse (⟨#[47]⟩ : ByteArray) := by
  unfold pathOf
  rw [if_pos hq, ← ha]
  have : namesGo (tableOf rows) n nd = [] := by
    cases n with
    | zero => rfl
    | succ n => unfold namesGo; rw [if_pos h0]
  rw [this, List.append_nil]; rfl
theorem place_conj {p : Stamp × Bool} {z : Stamp} (h : p.2 = true ∧ p.1 = z) : p = (z, true) := Prod.ext h.2 h.1
end Go.Proofs.Ytiknfldhommmpaa
/- The plain law of DifferRows: the program's look-ups and the document's answer, of rows that are a tree. -/
namespace Go.Proofs.Ytiknfldhommmpaa
open Go
set_option linter.unusedVariables false
set_option linter.unusedSimpArgs false
set_option linter.unusedSectionVars false
def stLt (a b : Stamp) : Prop := a.T < b.T ∨ a.T = b.T ∧ a.R < b.R
theorem cmpSt_neg {a b : Stamp} : cmpSt a b < 0 ↔ stLt a b := by
  unfold cmpSt stLt
  split
  · rename_i h; simp [h]
  · rename_i h
    split
    · simp [h]
    · simp [h]
theorem cmpSt_m1 {a b : Stamp} : cmpSt a b = -1 ↔ stLt a b := by
  rw [← cmpSt_neg]
  unfold cmpSt
  split
  · simp
  · split <;> simp
theorem stLt_trans {a b c : Stamp} (h : stLt a b) (k : stLt b c) : stLt a c := by unfold stLt at *; omega
theorem stLt_ne {a b : Stamp} (h : stLt a b) : a ≠ b := by rintro rfl; unfold stLt at h; omega
/-- Step by step, so each ahead of each. -/
theorem rise_pairwise {α : Type} [Inhabited α] {l : List α} {f : α → Stamp} (h : ∀ i, i < l.length → i = 0 ∨ stLt (f (nth l (i - 1))) (f (nth l i))) : l.Pairwise fun x y => stLt (f x) (f y) := by
  have key : ∀ d i, i + d + 1 < l.length → stLt (f (nth l i)) (f (nth l (i + d + 1))) := by
    intro d
    induction d with
    | zero =>
      intro i hi
      rcases h (i + 0 + 1) hi with h0 | h0
      · omega
      · exact h0
    | succ d ih =>
      intro i hi
      refine stLt_trans (ih i (by omega)) ?_
      rcases h (i + (d + 1) + 1) hi with h0 | h0
      · omega
      · exact h0
  rw [List.pairwise_iff_getElem]
  intro i j hi hj hij
  have := key (j - i - 1) i (by omega)
  rw [show i + (j - i - 1) + 1 = j from by omega, nth_eq hi, nth_eq hj] at this
  exact this
theorem pw_ne {rows : List RowS} (h : rows.Pairwise fun x y => stLt x.node y.node) : rows.Pairwise fun x y => x.node ≠ y.node := h.imp fun h => stLt_ne h
theorem table_find {rows : List RowS} (h : rows.Pairwise fun x y => x.node ≠ y.node) (s : Stamp) : kvGet (tableOf rows) s = rows.find? fun x => decide (x.node = s) := by
  have key : ∀ (l : List RowS) (kv : List (Stamp × RowS)), l.Pairwise (fun x y => x.node ≠ y.node) → kvGet (l.foldl (fun kv r => kvPut r.node r kv) kv) s = (l.find? fun x => decide (x.node = s)).or (kvGet kv s) := by
    intro l
    induction l with
    | nil => intro kv _; simp
    | cons r l ih =>
      intro kv hp
      have hp := List.pairwise_cons.1 hp
      rw [List.foldl_cons, ih _ hp.2, kvGet_put, List.find?_cons]
      by_cases hr : r.node = s
      · have : (l.find? fun x => decide (x.node = s)) = none := by
          rw [List.find?_eq_none]
          intro x hx
          have := hp.1 x hx
          simp only [decide_eq_true_eq]
          intro e; exact this (by rw [hr, e])
        rw [this, if_pos hr.symm]
        simp [hr]
      · rw [if_neg (Ne.symm hr)]
        simp [hr]
  have := key rows [] h
  rw [kvGet_nil, Option.or_none] at this
  exact this
theorem findRow_find (rows : List RowS) (s : Stamp) : (findRow rows s < 0 ∧ (rows.find? fun x => decide (x.node = s)) = none) ∨
    ∃ r, 0 ≤ findRow rows s ∧ (findRow rows s).toNat < rows.length ∧ nth rows (findRow rows s).toNat = r ∧ (rows.find? fun x => decide (x.node = s)) = some r ∧ r ∈ rows ∧ r.node = s := by
  unfold findRow
  cases hf : rows.findIdx? fun x => decide (x.node = s) with
  | none =>
    left
    refine ⟨by simp, ?_⟩
    rw [List.findIdx?_eq_none_iff] at hf
    rw [List.find?_eq_none]
    intro x hx
    have := hf x hx
    simpa using this
  | some i =>
    right
    obtain ⟨hi, h1, h2⟩ := List.findIdx?_eq_some_iff_getElem.1 hf
    refine ⟨rows[i], by simp, by simpa using hi, ?_, ?_, List.getElem_mem hi, by simpa using h1⟩
    · simp only [Int.toNat_natCast]; rw [nth_eq hi]
    · rw [List.find?_eq_some_iff_getElem]
      refine ⟨h1, i, hi, rfl, fun j hj => ?_⟩
      have := h2 j hj
      simpa using this
/-- A look-up, both ways. -/
theorem look {rows : List RowS} (h : rows.Pairwise fun x y => x.node ≠ y.node) (s : Stamp) : (findRow rows s < 0 ∧ kvGet (tableOf rows) s = none) ∨
    ∃ r, 0 ≤ findRow rows s ∧ (findRow rows s).toNat < rows.length ∧ nth rows (findRow rows s).toNat = r ∧ kvGet (tableOf rows) s = some r ∧ r ∈ rows ∧ r.node = s := by
  rw [table_find h]; exact findRow_find rows s
theorem kvPut_new {α β : Type} [DecidableEq α] {kv : List (α × β)} {k : α} (v : β) (h : kvGet kv k = none) : (kvPut k v kv).length = kv.length + 1 := by
  induction kv with
  | nil => rfl
  | cons p r ih =>
    rw [kvGet_cons] at h
    unfold kvPut
    by_cases hk : k = p.1
    · rw [if_pos hk] at h; cases h
    · rw [if_neg hk] at h ⊢
      simp only [List.length_cons, ih h]
theorem table_len {rows : List RowS} (h : rows.Pairwise fun x y => x.node ≠ y.node) : (tableOf rows).length = rows.length := by
  have key : ∀ (l : List RowS) (kv : List (Stamp × RowS)), l.Pairwise (fun x y => x.node ≠ y.node) → (∀ x ∈ l, kvGet kv x.node = none) → (l.foldl (fun kv r => kvPut r.node r kv) kv).length = kv.length + l.length := by
    intro l
    induction l with
    | nil => intro kv _ _; simp
    | cons r l ih =>
      intro kv hp hn
      have hp := List.pairwise_cons.1 hp
      rw [List.foldl_cons, ih _ hp.2, kvPut_new _ (hn r (by simp)), List.length_cons]
      · omega
      · intro x hx
        rw [kvGet_put, if_neg (fun e => hp.1 x hx e.symm)]
        exact hn x (List.mem_cons_of_mem _ hx)
  have := key rows [] h (fun _ _ => kvGet_nil _)
  simpa [tableOf] using this

section
variable {rows : List RowS} (hp : rows.Pairwise fun x y => x.node ≠ y.node) (hT : ∀ x ∈ rows, ¬ x.node.T = 0)
include hp hT
theorem lies_place {over : Stamp} (ho : over.T = 0) : ∀ (n : Nat) (s : Stamp), liesGo rows over n s = true → placeGo (tableOf rows) (n + 1) s = (over, true)
  | 0, s, h => by cases h
  | n + 1, s, h => by
    unfold liesGo at h
    split at h
    · cases h
    · rename_i h1
      rcases look hp s with ⟨h2, _⟩ | ⟨r, h2, h3, h4, h5, h6, h7⟩
      · omega
      · rw [h4] at h
        have hsT : ¬ s.T = 0 := h7 ▸ hT r h6
        unfold placeGo
        rw [if_neg hsT, h5]
        by_cases hpar : r.par = over
        · show placeGo (tableOf rows) (n + 1) r.par = _
          unfold placeGo
          rw [hpar, if_pos ho]
        · rw [if_neg hpar] at h
          exact lies_place ho n r.par h
theorem place_lies {over : Stamp} : ∀ (n : Nat) (s : Stamp), placeGo (tableOf rows) (n + 1) s = (over, true) → ¬ s.T = 0 → liesGo rows over n s = true
  | 0, s, h, h0 => by
    unfold placeGo at h
    rw [if_neg h0] at h
    cases hk : kvGet (tableOf rows) s with
    | none => rw [hk] at h; simp at h
    | some r => rw [hk] at h; simp [placeGo] at h
  | n + 1, s, h, h0 => by
    unfold placeGo at h
    rw [if_neg h0] at h
    rcases look hp s with ⟨h2, hk⟩ | ⟨r, h2, h3, h4, h5, h6, h7⟩
    · rw [hk] at h; simp at h
    · rw [h5] at h
      have h : placeGo (tableOf rows) (n + 1) r.par = (over, true) := h
      unfold liesGo
      rw [if_neg (by omega), h4]
      by_cases hpar : r.par = over
      · rw [if_pos hpar]
      · rw [if_neg hpar]
        refine place_lies n r.par h fun e => hpar ?_
        unfold placeGo at h
        rw [if_pos e] at h
        exact (Prod.ext_iff.1 h).1
theorem dead_lies {r : RowS} (hr : r ∈ rows) : deadOf rows r = liesOf rows r.node ⟨0, 1⟩ := by
  unfold deadOf placeOf liesOf
  rw [table_len hp]
  cases hl : liesGo rows ⟨0, 1⟩ rows.length r.node with
  | true => rw [lies_place hp hT rfl _ _ hl]; simp
  | false =>
    cases hd : (placeGo (tableOf rows) (rows.length + 1) r.node).2 with
    | false => simp
    | true =>
      rw [Bool.true_and, decide_eq_false_iff_not]
      intro e
      have := place_lies hp hT (over := ⟨0, 1⟩) rows.length r.node (Prod.ext e hd) (hT r hr)
      rw [hl] at this; cases this
theorem alive_law : aliveOf rows = aliveRef rows := by
  unfold aliveOf aliveRef
  refine List.filter_congr fun r hr => ?_
  rw [dead_lies hp hT hr]
end
theorem ba_append_toList (a b : ByteArray) : (a ++ b).data.toList = a.data.toList ++ b.data.toList := by
  rw [ByteArray.data_append, Array.toList_append]
theorem ba_ext {a b : ByteArray} (h : a.data.toList = b.data.toList) : a = b := by
  cases a; cases b
  simp only [ByteArray.mk.injEq]
  exact Array.ext' h
theorem joinB_toList (xs : List ByteArray) (sep : ByteArray) : (joinB xs sep).data.toList = joinTo xs sep xs.length := by unfold joinB; simp
theorem joinB_snoc {xs : List ByteArray} {sep x : ByteArray} (h : xs ≠ []) : joinB (xs ++ [x]) sep = joinB xs sep ++ (sep ++ x) := by
  have h1 : 1 ≤ xs.length := by cases xs with
    | nil => exact absurd rfl h
    | cons _ _ => simp
  apply ba_ext
  rw [ba_append_toList, ba_append_toList, joinB_toList, joinB_toList, List.length_append, List.length_singleton, joinTo_succ h1 (by simp), List.append_assoc]
  congr 1
  · unfold joinTo; rw [List.take_left', List.take_length]; rfl
  · congr 2
    unfold nth; simp [List.getD_eq_getElem?_getD]
theorem joinB_single (x sep : ByteArray) : joinB [x] sep = x := joinB_one rfl
section
variable {rows : List RowS} (hp : rows.Pairwise fun x y => x.node ≠ y.node) (hT : ∀ x ∈ rows, ¬ x.node.T = 0)
include hp hT
theorem names_ne {n : Nat} {s : Stamp} {over : Stamp} (h : liesGo rows over n s = true) : namesGo (tableOf rows) (n + 1) s ≠ [] := by
  have hsT : ¬ s.T = 0 := by
    have := lies_at h
    rcases look hp s with ⟨h2, hk⟩ | ⟨r, h2, h3, h4, h5, h6, h7⟩
    · omega
    · exact h7 ▸ hT r h6
  unfold namesGo
  rw [if_neg hsT]
  exact List.cons_ne_nil _ _
theorem path_names : ∀ (n : Nat) (s : Stamp) (out : ByteArray), liesGo rows ⟨0, 0⟩ n s = true → pathGo rows n s out = joinB (namesGo (tableOf rows) (n + 1) s).reverse slash ++ out
  | 0, s, out, h => by cases h
  | n + 1, s, out, h => by
    have hat := lies_at h
    rcases look hp s with ⟨h2, hk⟩ | ⟨r, h2, h3, h4, h5, h6, h7⟩
    · omega
    · have hsT : ¬ s.T = 0 := h7 ▸ hT r h6
      have hnm : namesGo (tableOf rows) (n + 1 + 1) s = r.name :: namesGo (tableOf rows) (n + 1) r.par := by
        conv => lhs; unfold namesGo
        rw [if_neg hsT, h5]; rfl
      rw [hnm, List.reverse_cons]
      by_cases hpar : r.par = ⟨0, 0⟩
      · rw [pathGo_end h (by rw [h4]; exact hpar), h4, hpar]
        have : namesGo (tableOf rows) (n + 1) ⟨0, 0⟩ = [] := by unfold namesGo; rw [if_pos rfl]
        rw [this, List.reverse_nil, List.nil_append, joinB_single]
      · have hst := lies_step h (by rw [h4]; exact hpar)
        rw [h4] at hst
        rw [pathGo_step h (by rw [h4]; exact hpar), h4, Nat.add_sub_cancel]
        rw [Nat.add_sub_cancel] at hst
        rw [path_names n r.par _ hst, joinB_snoc (by simpa using names_ne hp hT hst)]
        apply ba_ext
        simp only [ba_append_toList, List.append_assoc]; rfl
theorem path_law (node : Stamp) : pathOf rows node = pathRef rows node := by
  unfold pathOf pathRef
  by_cases h0 : node.T = 0
  · have hl : liesOf rows node ⟨0, 0⟩ = false := by
      cases hl : liesOf rows node ⟨0, 0⟩ with
      | false => rfl
      | true =>
        have hat := lies_at hl
        rcases look hp node with ⟨h2, hk⟩ | ⟨r, h2, h3, h4, h5, h6, h7⟩
        · omega
        · exact absurd h0 (h7 ▸ hT r h6)
    rw [hl, if_neg (show ¬ (false = true) by simp)]
    have hn : namesGo (tableOf rows) ((tableOf rows).length + 1) node = [] := by unfold namesGo; rw [if_pos h0]
    rw [hn]
    split
    · rfl
    · rfl
  · unfold placeOf liesOf
    rw [table_len hp]
    cases hl : liesGo rows ⟨0, 0⟩ rows.length node with
    | true =>
      rw [if_pos (lies_place hp hT rfl _ _ hl), if_pos rfl, path_names hp hT _ _ _ hl]
      apply ba_ext
      simp [ba_append_toList]
    | false =>
      rw [if_neg (show ¬ (false = true) by simp), if_neg]
      intro e
      have := place_lies hp hT _ _ e h0
      rw [hl] at this; cases this
end
theorem itemOk_node {node tm : Stamp} {name : ByteArray} {hs : List Head} (h : itemOk node tm name hs = true) : 1 ≤ node.T := by
  unfold itemOk at h
  simp only [decide_eq_true_eq, stRight] at h
  omega
theorem tree_pw {rows : List RowS} (h : treeOk rows = true) : rows.Pairwise fun x y => x.node ≠ y.node := by
  have h := of_decide_eq_true h
  refine pw_ne (rise_pairwise (f := RowS.node) fun i hi => ?_)
  rcases (h.2 i hi).2.2.1 with h1 | h1
  · exact .inl h1
  · exact .inr (cmpSt_m1.1 h1)
theorem tree_T {rows : List RowS} (h : treeOk rows = true) : ∀ x ∈ rows, ¬ x.node.T = 0 := by
  have h := of_decide_eq_true h
  intro x hx
  obtain ⟨i, hi, rfl⟩ := List.getElem_of_mem hx
  have := itemOk_node (h.2 i hi).1
  rw [nth_eq hi] at this
  omega
theorem rows_law {a b : List RowS} (ha : treeOk a = true) (hb : treeOk b = true) (node : Stamp) : aliveOf a = aliveRef a ∧ alikeOf a b = alikeRef a b ∧ pathOf a node = pathRef a node := by
  refine ⟨alive_law (tree_pw ha) (tree_T ha), ?_, path_law (tree_pw ha) (tree_T ha) node⟩
  unfold alikeOf alikeRef
  rw [alive_law (tree_pw ha) (tree_T ha), alive_law (tree_pw hb) (tree_T hb)]
end Go.Proofs.Ytiknfldhommmpaa
/- The plain side of Diff. -/
namespace Go.Proofs.Ytiknfldhommmpaa
open Go
set_option linter.unusedVariables false
set_option linter.unusedSimpArgs false
set_option linter.unusedSectionVars false
theorem parents_table (rows : List RowS) (s : Stamp) : kvGet (parentsAll rows) s = (kvGet (tableOf rows) s).map (·.par) := by
  have key : ∀ (l : List RowS) (kv : List (Stamp × Stamp)) (kt : List (Stamp × RowS)), (∀ s, kvGet kv s = (kvGet kt s).map (·.par)) →
      ∀ s, kvGet (l.foldl (fun kv r => kvPut r.node r.par kv) kv) s = (kvGet (l.foldl (fun kv r => kvPut r.node r kv) kt) s).map (·.par) := by
    intro l
    induction l with
    | nil => intro kv kt h; exact h
    | cons r l ih =>
      intro kv kt h
      refine ih _ _ fun s => ?_
      rw [kvGet_put, kvGet_put]
      split
      · rfl
      · exact h s
  have := key rows [] [] (fun _ => rfl) s
  unfold parentsAll parentsTo tableOf
  rw [List.take_length]
  exact this
theorem up_dep {rows : List RowS} (hT : ∀ x ∈ rows, ¬ x.node.T = 0) : ∀ {n : Nat} {s : Stamp}, upOk (parentsAll rows) n s → depN (tableOf rows) n s
  | 0, s, h => by
    have h : fixedSt s = true := h
    exact (of_decide_eq_true h).1
  | n + 1, s, h => by
    obtain ⟨h1, h2, h3⟩ := h
    rw [parents_table] at h2 h3
    cases hk : kvGet (tableOf rows) s with
    | none => rw [hk] at h2; simp at h2
    | some r =>
      rw [hk] at h3
      obtain ⟨hr, hn⟩ := kvGet_table hk
      refine ⟨hn ▸ hT r hr, ?_⟩
      rw [hk]
      exact up_dep hT h3
theorem up_way {kv : List (Stamp × Stamp)} : ∀ {n : Nat} {s : Stamp}, upOk kv n s → ∀ i, i ≤ n → ∃ way, way.length = i ∧ onWay kv s way (upN kv i s) ∧ upOk kv (n - i) (upN kv i s) := by
  intro n s h i
  induction i with
  | zero => intro _; exact ⟨[], rfl, onWay_zero _ _, h⟩
  | succ i ih =>
    intro hi
    obtain ⟨way, h1, h2, h3⟩ := ih (by omega)
    rw [show n - i = (n - (i + 1)) + 1 from by omega] at h3
    obtain ⟨h4, h5, h6⟩ := h3
    refine ⟨way ++ [upN kv i s], by simp [h1], ?_, ?_⟩
    · rw [upN_succ]; exact onWay_succ h2 h4 h5
    · rw [upN_succ]; exact h6
theorem up_bound {kv : List (Stamp × Stamp)} {n : Nat} {s : Stamp} (h : upOk kv n s) : n ≤ kv.length := by
  obtain ⟨way, h1, h2, _⟩ := up_way h n (Nat.le_refl _)
  rcases Nat.lt_or_ge kv.length n with hlt | hge
  · exact absurd ⟨n, h⟩ (way_long h2 (by omega))
  · exact hge
theorem rightRow_T {r : RowS} (h : rightRow r = true) : 1 ≤ r.node.T := by
  unfold rightRow at h
  rw [Bool.and_eq_true] at h
  exact itemOk_node h.1
theorem snap_T {rows : List RowS} (h : snapOk rows = true) : ∀ x ∈ rows, ¬ x.node.T = 0 := by
  have h := snapOk_iff.1 h
  intro x hx
  obtain ⟨i, hi, rfl⟩ := List.getElem_of_mem hx
  have := rightRow_T (h.2.1 i hi).1
  rw [nth_eq hi] at this
  omega
theorem snap_pw {rows : List RowS} (h : snapOk rows = true) : rows.Pairwise fun x y => x.node ≠ y.node := by
  have h := snapOk_iff.1 h
  refine pw_ne (rise_pairwise (f := RowS.node) fun i hi => ?_)
  rcases (h.2.1 i hi).2 with h1 | h1
  · exact .inl h1
  · exact .inr (cmpSt_neg.1 h1)
theorem snap_dep {b : List RowS} (h : snapOk b = true) : ∀ x ∈ b, depN (tableOf b) (depOf (tableOf b) x.node) x.node ∧ depOf (tableOf b) x.node ≤ 9223372036854775806 := by
  intro x hx
  obtain ⟨h1, h2, h3⟩ := snapOk_iff.1 h
  obtain ⟨i, hi, rfl⟩ := List.getElem_of_mem hx
  have hr := h3 i hi
  rw [nth_eq hi] at hr
  obtain ⟨n, hn⟩ := hr
  have hd := up_dep (snap_T h) hn
  rw [depOf_eq hd]
  refine ⟨hd, ?_⟩
  have h4 := up_bound hn
  have h5 := (parentsTo_len b b.length).2
  unfold parentsAll at h4
  omega
theorem snap_len {a b : List RowS} (h : snapOk a = true ∧ snapOk b = true) : a.length ≤ 5000 ∧ b.length ≤ 5000 := ⟨(snapOk_iff.1 h.1).1, (snapOk_iff.1 h.2).1⟩
theorem st_T {s : Stamp} (h : stRight s = true) : 0 ≤ s.T ∧ s.T ≤ 2199023255552 := by
  have := of_decide_eq_true h; omega
/-- What the maker holds at the end. -/
def diffSt (a b : List RowS) (tm : Stamp) (L : List RowS) : MakerC := (editsOf a b).foldl putC ((L.map mvOp ++ (a.filter (gone b)).map trOp).foldl putC ⟨tm, [], false⟩)
/-- What Diff answers: L: the rows that move, in some order. -/
def DiffRel (a b : List RowS) (tm : Stamp) (ops : List OpC) (e : Int) : Prop :=
  (¬ (snapOk a = true ∧ snapOk b = true) → ops = [] ∧ e = 130) ∧
  (snapOk a = true ∧ snapOk b = true → stRight tm = false → ops = [] ∧ e = 1) ∧
  (snapOk a = true ∧ snapOk b = true → stRight tm = true → ∃ L : List RowS, L.Perm (b.filter (needs a)) ∧
    ((diffSt a b tm L).bad = true → ops = [] ∧ e = 1) ∧
    ((diffSt a b tm L).bad = false → editsOne a b = false ∨ 64 < (diffSt a b tm L).ops.length → ops = [] ∧ e = 3) ∧
    ((diffSt a b tm L).bad = false → editsOne a b = true ∧ (diffSt a b tm L).ops.length ≤ 64 → ops = (diffSt a b tm L).ops ∧ e = 0))
theorem diff_tree {a b : List RowS} {tm : Stamp} (h : snapOk a = false ∨ snapOk b = false) : DiffRel a b tm [] 130 := by
  have hn : ¬ (snapOk a = true ∧ snapOk b = true) := by rintro ⟨h1, h2⟩; rcases h with h | h <;> simp_all
  exact ⟨fun _ => ⟨rfl, rfl⟩, fun h => absurd h hn, fun h => absurd h hn⟩
theorem diff_time {a b : List RowS} {tm : Stamp} (h : snapOk a = true ∧ snapOk b = true) (ht : stRight tm = false) : DiffRel a b tm [] 1 :=
  ⟨fun hn => absurd h hn, fun _ _ => ⟨rfl, rfl⟩, fun _ h2 => by rw [ht] at h2; cases h2⟩
section
variable {a b : List RowS} {tm : Stamp} {m0 m2 m3 : MakerS} (h0 : m0.st = ⟨tm, [], false⟩) (h1 : ∃ L : List RowS, L.Perm (b.filter (needs a)) ∧ m2.st = (L.map mvOp ++ (a.filter (gone b)).map trOp).foldl putC m0.st) (h2 : m3.st = (editsOf a b).foldl putC m2.st)
include h0 h1 h2
theorem diff_st : ∃ L : List RowS, L.Perm (b.filter (needs a)) ∧ m3.st = diffSt a b tm L := by
  obtain ⟨L, hL, h3⟩ := h1
  exact ⟨L, hL, by rw [h2, h3, h0]; rfl⟩
theorem diff_bad (hs : snapOk a = true ∧ snapOk b = true) (ht : stRight tm = true) (hb : m3.bad = true) : DiffRel a b tm [] 1 := by
  obtain ⟨L, hL, h3⟩ := diff_st h0 h1 h2
  have hb' : (diffSt a b tm L).bad = true := by rw [← h3]; exact hb
  exact ⟨fun hn => absurd hs hn, fun _ h => (by rw [ht] at h; cases h), fun _ _ => ⟨L, hL, fun _ => ⟨rfl, rfl⟩, fun h => (by rw [hb'] at h; cases h), fun h => (by rw [hb'] at h; cases h)⟩⟩
theorem diff_many (hs : snapOk a = true ∧ snapOk b = true) (ht : stRight tm = true) (hb : m3.bad = false) (hm : editsOne a b = false ∨ (64 : Int) < ((m3.ops.length : Nat) : Int)) : DiffRel a b tm [] 3 := by
  obtain ⟨L, hL, h3⟩ := diff_st h0 h1 h2
  have hb' : (diffSt a b tm L).bad = false := by rw [← h3]; exact hb
  have hl : (diffSt a b tm L).ops.length = m3.ops.length := by rw [← h3]; simp [MakerS.st]
  refine ⟨fun hn => absurd hs hn, fun _ h => (by rw [ht] at h; cases h), fun _ _ => ⟨L, hL, fun h => (by rw [hb'] at h; cases h), fun _ _ => ⟨rfl, rfl⟩, fun _ h => ?_⟩⟩
  rcases hm with hm | hm
  · rw [hm] at h; cases h.1
  · rw [hl] at h; omega
theorem diff_ok (hs : snapOk a = true ∧ snapOk b = true) (ht : stRight tm = true) (hb : m3.bad = false) (hm : editsOne a b = true ∧ ¬ (64 : Int) < ((m3.ops.length : Nat) : Int)) : DiffRel a b tm (m3.ops.map OpS.core) 0 := by
  obtain ⟨L, hL, h3⟩ := diff_st h0 h1 h2
  have hb' : (diffSt a b tm L).bad = false := by rw [← h3]; exact hb
  have ho : (diffSt a b tm L).ops = m3.ops.map OpS.core := by rw [← h3]; rfl
  have hl : (diffSt a b tm L).ops.length = m3.ops.length := by rw [ho]; simp
  refine ⟨fun hn => absurd hs hn, fun _ h => (by rw [ht] at h; cases h), fun _ _ => ⟨L, hL, fun h => (by rw [hb'] at h; cases h), fun _ h => ?_, fun _ _ => ⟨ho.symm, rfl⟩⟩⟩
  rcases h with h | h
  · rw [hm.1] at h; cases h
  · rw [hl] at h; omega
end
theorem moves_room {a b : List RowS} {m0 m2 : MakerS} (h : snapOk a = true ∧ snapOk b = true) (ht : stRight m0.at_ = true) (h0 : m0.ops = []) (h1 : ∃ L : List RowS, L.Perm (b.filter (needs a)) ∧ m2.st = (L.map mvOp ++ (a.filter (gone b)).map trOp).foldl putC m0.st) :
    (0 ≤ m2.at_.T ∧ m2.at_.T ≤ 2199023255552) ∧ m2.ops.length ≤ 100000 := by
  obtain ⟨L, hL, h2⟩ := h1
  have h3 := st_len h2
  have h4 := snap_len h
  have h5 := of_decide_eq_true ht
  have h6 := hL.length_eq
  have h7 := List.length_filter_le (needs a) b
  have h8 := List.length_filter_le (gone b) a
  rw [h3.1, h3.2, h0]
  simp only [List.length_append, List.length_map, List.length_nil]
  omega
theorem snap_heads {a : List RowS} (h : snapOk a = true) : ∀ x ∈ a, x.heads.length ≤ 1048576 := by
  intro x hx
  obtain ⟨i, hi, rfl⟩ := List.getElem_of_mem hx
  have h1 := ((snapOk_iff.1 h).2.1 i hi).1
  rw [nth_eq hi] at h1
  unfold rightRow at h1
  rw [Bool.and_eq_true] at h1
  have h2 := h1.1
  unfold itemOk at h2
  have := of_decide_eq_true h2
  omega
end Go.Proofs.Ytiknfldhommmpaa
