/- Proved: for every input, pollardlaw14.DifferOrder returns true and leaves its arguments as they were. No condition. -/
import Derived.Test.YtiknfldhommmpaaX2
namespace Go.Proofs.Ytiknfldhommmpaa
open Go
set_option maxRecDepth 100000
set_option linter.unusedVariables false
set_option linter.unusedSimpArgs false
theorem symMerge_Row_c74 : callable Try.prog 74 = true := by kernel_rfl
theorem symMerge_Row_c83 : callable Try.prog 83 = true := by kernel_rfl
set_option maxHeartbeats 1000000 in
theorem symMerge_Row_aux : ∀ (N : Nat) (hs : SlH) (s : List RowS) (a : Int) (m : Int) (b : Int) (kcmp : FuncId) (ccmp : Array Value) (f : RowS → RowS → Int) (w : World) (Os : OwnS 0 44 8 rowCh hs s w) (Kcmp : callable Try.prog kcmp = true) (Ccmp : ∀ x ∈ s, ∀ y ∈ s, ∀ w1, Gr (fun b => (slV hs s).ownBlock = some b) w w1 → Calls Try.prog kcmp (#[rowV x, rowV y] ++ ccmp) w1 (Ret fun v w2 => v = .int .i64 (f x y) ∧ Ext w1 w2)) (ha : 0 ≤ a) (ham : a < m) (hmb : m < b) (hb : b ≤ s.length) (hsl : s.length ≤ 1048576) (hN : (b - a).toNat < N), Calls Try.prog 74 #[(slV hs s), (.int .i64 a), (.int .i64 m), (.int .i64 b), (.func (.func kcmp) #[] ccmp)] w (Ret fun v w' => ∃ s' : List RowS, v = .tuple #[] ∧ Gr (fun b => (slV hs s).ownBlock = some b) w w' ∧ OwnS 0 44 8 rowCh hs s' w' ∧ (s'.Perm s)) := by
  intro N
  induction N with
  | zero => intro hs s a m b kcmp ccmp f w Os Kcmp Ccmp ha ham hmb hb hsl hN; exact absurd hN (Nat.not_lt_zero _)
  | succ N IH =>
    intro hs s a m b kcmp ccmp f w Os Kcmp Ccmp ha ham hmb hb hsl hN
    refine calls_W Try.func74 rfl Try.ntmps74 rfl ?_
    have H0 := Ctx.startRow Os
    have LSs := (OwnS.sl Os (fun _ => rfl)).len
    refine W_seq (W_seq (W_reg ?_))
    refine O_v rfl (R_move (v := (.int .i64 m)) rfl ?_)
    refine O_v rfl (R_move (v := (.int .i64 a)) rfl ?_)
    refine O_v rfl (R_arith (a := m) (b := a) (r0 := m - a) (r := m - a) rfl rfl rfl (w64 _ (by omega)) ?_)
    refine O_v rfl (R_cmp (a := (m - a)) (b := 1) (r := (decide ((m - a) = 1))) rfl rfl rfl ?_)
    refine O_nil (Then_n ?_)
    refine W_cond (t := (decide ((m - a) = 1))) rfl (fun hc1 => ?_) (fun hc1 => ?_)
    ·have hc1 : ((m - a) = 1) := (of_decide_eq_true hc1)
     refine W_seq (W_reg ?_)
     refine O_v rfl (R_move (v := (.int .i64 m)) rfl ?_)
     refine O_v rfl (R_assign (v := (.int .i64 m)) rfl ?_)
     refine O_nil (Then_n (W_seq (W_reg ?_)))
     refine O_v rfl (R_move (v := (.int .i64 b)) rfl ?_)
     refine O_v rfl (R_assign (v := (.int .i64 b)) rfl ?_)
     refine O_nil (Then_n (W_seq (W_block ?_)))
     refine W_loop (fun m2 e3 w4 => ∃ (i : Int), ∃ (j : Int), m2 = (j - i).toNat ∧ (m ≤ i ∧ i ≤ j ∧ j ≤ b) ∧ ∃ eb5, e3 = envL [(0, (slV hs s)), (1, (.int .i64 a)), (2, (.int .i64 m)), (3, (.int .i64 b)), (4, (.func (.func kcmp) #[] ccmp)), (10, (.int .i64 i)), (11, (.int .i64 j))] eb5 ∧ Ctx w (fun b => (slV hs s).ownBlock = some b) w4 [rowR 44 8 rowCh hs s] []) _ ⟨m, b, rfl, (by omega), _, envL_self ⟨rfl, rfl, rfl, rfl, rfl, rfl, rfl, trivial⟩, H0⟩ ?_
     rintro m2 _ w4 ⟨i, j, rfl, hij, eb5, rfl, H6⟩
     refine W_seq (W_seq (W_reg ?_))
     refine O_v rfl (R_move (v := (.int .i64 i)) rfl ?_)
     refine O_v rfl (R_move (v := (.int .i64 j)) rfl ?_)
     refine O_v rfl (R_cmp (a := i) (b := j) (r := (decide (i < j))) rfl rfl rfl ?_)
     refine O_nil (Then_n ?_)
     refine W_cond (t := (decide (i < j))) rfl (fun hc7 => ?_) (fun hc7 => ?_)
     ·have hc7 : (i < j) := (of_decide_eq_true hc7)
      refine W_skip (Then_n (W_block (W_seq (W_reg ?_))))
      refine O_v rfl (R_move (v := (.int .i64 i)) rfl ?_)
      refine O_v rfl (R_move (v := (.int .i64 j)) rfl ?_)
      refine O_v rfl (R_arith (a := i) (b := j) (r0 := i + j) (r := i + j) rfl rfl rfl (w64 _ (by omega)) ?_)
      refine O_v rfl (R_conv_int (a := (i + j)) (r := (((i + j).toNat : Nat) : Int)) Try.underlying3 Try.underlying121 rfl (conv_nn (by omega)) ?_)
      refine O_v rfl (R_shr (a := (((i + j).toNat : Nat) : Int)) (b := ((1 : Nat) : Int)) (r := (((i + j).toNat / 2 : Nat) : Int)) rfl rfl (by decide) (shr_nat _ _ (by decide)) ?_)
      refine O_v rfl (R_conv_int (a := (((i + j).toNat / 2 : Nat) : Int)) (r := (((i + j).toNat / 2 : Nat) : Int)) Try.underlying121 Try.underlying3 rfl (w64 _ (by omega)) ?_)
      refine O_v rfl (R_assign (v := (.int .i64 (((i + j).toNat / 2 : Nat) : Int))) rfl ?_)
      refine O_nil (Then_n (W_seq ?_))
      refine W_rgd TryMixed [(0, .q false), (1, .q false), (2, .q false), (3, .q false), (4, .q false), (5, .q false), (6, .q false), (7, .q false), (8, .q false), (9, .q false), (10, .q false)] (by kernel_rfl) ?_
      refine Lx_q (i := 0) rfl rfl _ (fun v8 hv9 => R_move (v := (.func (.func kcmp) #[] ccmp)) rfl ⟨rfl, Gr.refl _ _⟩) ?_
      refine Lx_q (i := 1) rfl rfl _ (fun v10 hv11 => R_move (v := (slV hs s)) rfl ⟨rfl, Gr.refl _ _⟩) ?_
      refine Lx_q (i := 2) rfl rfl _ (fun v12 hv13 => R_move (v := (.int .i64 (((i + j).toNat / 2 : Nat) : Int))) rfl ⟨rfl, Gr.refl _ _⟩) ?_
      refine Lx_q (i := 3) rfl rfl _ (fun v14 hv15 => R_index_pure (OwnS.sl (H6.getOwn 0 rfl) (fun _ => rfl)) (n := s.length) rfl (j := (((i + j).toNat / 2 : Nat) : Int)) (oo := (hs.o + ((i + j).toNat / 2) * 8)) Try.underlying22 Try.sizeOf44 rfl rfl (by omega) (by omega) rfl ⟨rfl, Gr.refl _ _⟩) ?_
      refine Lx_q (i := 4) rfl rfl _ (fun v16 hv17 => R_loadA (cs := [[(.int .i64 (((nth s ((i + j).toNat / 2)).node).T))], [(.int .i64 (((nth s ((i + j).toNat / 2)).node).R))], [(.int .i64 (((nth s ((i + j).toNat / 2)).par).T))], [(.int .i64 (((nth s ((i + j).toNat / 2)).par).R))], [(.int .i64 (((nth s ((i + j).toNat / 2)).tm).T))], [(.int .i64 (((nth s ((i + j).toNat / 2)).tm).R))], [(.string ((nth s ((i + j).toNat / 2)).name))], [(slV ((nth s ((i + j).toNat / 2)).hh) ((nth s ((i + j).toNat / 2)).heads))]]) Try.isAgg44 Try.sizeOf44 rfl rfl ((Sl.elem (OwnS.sl ((H6.ext hv17).getOwn 0 rfl) (fun _ => rfl)) (i := ((i + j).toNat / 2)) (by omega) rfl).chunks 0 8 0 (hs.o + ((i + j).toNat / 2) * 8) _ rfl rfl rfl) ⟨rfl, Gr.refl _ _⟩) ?_
      refine Lx_q (i := 5) rfl rfl _ (fun v18 hv19 => R_move (v := (slV hs s)) rfl ⟨rfl, Gr.refl _ _⟩) ?_
      refine Lx_q (i := 6) rfl rfl _ (fun v20 hv21 => R_move (v := (.int .i64 a)) rfl ⟨rfl, Gr.refl _ _⟩) ?_
      refine Lx_q (i := 7) rfl rfl _ (fun v22 hv23 => R_index_pure (OwnS.sl (H6.getOwn 0 rfl) (fun _ => rfl)) (n := s.length) rfl (j := a) (oo := (hs.o + a.toNat * 8)) Try.underlying22 Try.sizeOf44 rfl rfl (by omega) (by omega) rfl ⟨rfl, Gr.refl _ _⟩) ?_
      refine Lx_q (i := 8) rfl rfl _ (fun v24 hv25 => R_loadA (cs := [[(.int .i64 (((nth s a.toNat).node).T))], [(.int .i64 (((nth s a.toNat).node).R))], [(.int .i64 (((nth s a.toNat).par).T))], [(.int .i64 (((nth s a.toNat).par).R))], [(.int .i64 (((nth s a.toNat).tm).T))], [(.int .i64 (((nth s a.toNat).tm).R))], [(.string ((nth s a.toNat).name))], [(slV ((nth s a.toNat).hh) ((nth s a.toNat).heads))]]) Try.isAgg44 Try.sizeOf44 rfl rfl ((Sl.elem (OwnS.sl ((H6.ext hv25).getOwn 0 rfl) (fun _ => rfl)) (i := a.toNat) (by omega) rfl).chunks 0 8 0 (hs.o + a.toNat * 8) _ rfl rfl rfl) ⟨rfl, Gr.refl _ _⟩) ?_
      refine Lx_q (i := 9) rfl rfl (.int .i64 (f (nth s ((i + j).toNat / 2)) (nth s a.toNat))) (fun v26 hv27 => R_callV (vs := [(aggOf (rowCh (nth s ((i + j).toNat / 2)))), (aggOf (rowCh (nth s a.toNat)))]) Kcmp rfl rfl (Ccmp _ (nth_mem (by omega)) _ (nth_mem (by omega)) v26 (H6.ext hv27).gr)) ?_
      refine Lx_q (i := 10) rfl rfl _ (fun v28 hv29 => R_cmp (a := f (nth s ((i + j).toNat / 2)) (nth s a.toNat)) (b := 0) (r := (decide (f (nth s ((i + j).toNat / 2)) (nth s a.toNat) < 0))) rfl rfl rfl ⟨rfl, Gr.refl _ _⟩) ?_
      refine Lx_nil (fun w30 hw31 => ?_)
      have H32 := H6.ext hw31
      refine Then_n ?_
      refine W_cond (t := (decide (f (nth s ((i + j).toNat / 2)) (nth s a.toNat) < 0))) rfl (fun hc33 => ?_) (fun hc33 => ?_)
      ·have hc33 : (f (nth s ((i + j).toNat / 2)) (nth s a.toNat) < 0) := (of_decide_eq_true hc33)
       refine W_reg ?_
       refine O_v rfl (R_move (v := (.int .i64 (((i + j).toNat / 2 : Nat) : Int))) rfl ?_)
       refine O_v rfl (R_arith (a := (((i + j).toNat / 2 : Nat) : Int)) (b := 1) (r0 := (((i + j).toNat / 2 : Nat) : Int) + 1) (r := ((((i + j).toNat / 2) + 1 : Nat) : Int)) rfl rfl rfl (wrapN _ (by omega)) ?_)
       refine O_v rfl (R_assign (v := (.int .i64 ((((i + j).toNat / 2) + 1 : Nat) : Int))) rfl ?_)
       refine O_nil (Blk_n (Then_n ?_))
       refine ⟨_, ?_, ((((i + j).toNat / 2) + 1 : Nat) : Int), j, rfl, (by omega), _, envL_self ⟨rfl, rfl, rfl, rfl, rfl, rfl, rfl, trivial⟩, H32⟩
       omega
      ·have hc33 : ¬ (f (nth s ((i + j).toNat / 2)) (nth s a.toNat) < 0) := (of_decide_eq_false hc33)
       refine W_reg ?_
       refine O_v rfl (R_move (v := (.int .i64 (((i + j).toNat / 2 : Nat) : Int))) rfl ?_)
       refine O_v rfl (R_assign (v := (.int .i64 (((i + j).toNat / 2 : Nat) : Int))) rfl ?_)
       refine O_nil (Blk_n (Then_n ?_))
       refine ⟨_, ?_, i, (((i + j).toNat / 2 : Nat) : Int), rfl, (by omega), _, envL_self ⟨rfl, rfl, rfl, rfl, rfl, rfl, rfl, trivial⟩, H32⟩
       omega
     ·have hc7 : ¬ (i < j) := (of_decide_eq_false hc7)
      refine W_exit (Then_x (Then_x (Blk_x (Then_n (W_seq (W_seq (W_reg ?_)))))))
      refine O_v rfl (R_move (v := (.int .i64 a)) rfl ?_)
      refine O_v rfl (R_assign (v := (.int .i64 a)) rfl ?_)
      refine O_nil (Then_n (W_block ?_))
      refine W_loop (fun m34 e35 w36 => ∃ (k : Int), ∃ (cur : List RowS), m34 = (i - k).toNat ∧ (a ≤ k) ∧ (cur.length = s.length) ∧ (cur.Perm s) ∧ ∃ eb37, e35 = envL [(0, (slV hs s)), (1, (.int .i64 a)), (2, (.int .i64 m)), (3, (.int .i64 b)), (4, (.func (.func kcmp) #[] ccmp)), (10, (.int .i64 i)), (13, (.int .i64 k))] eb37 ∧ Ctx w (fun b => (slV hs s).ownBlock = some b) w36 [rowR 44 8 rowCh hs cur] []) _ ⟨a, s, rfl, (by omega), rfl, (List.Perm.refl _), _, envL_self ⟨rfl, rfl, rfl, rfl, rfl, rfl, rfl, trivial⟩, H6⟩ ?_
      rintro m34 _ w36 ⟨k, cur, rfl, hk, hl, hp, eb37, rfl, H38⟩
      refine W_seq (W_seq (W_reg ?_))
      refine O_v rfl (R_move (v := (.int .i64 k)) rfl ?_)
      refine O_v rfl (R_move (v := (.int .i64 i)) rfl ?_)
      refine O_v rfl (R_arith (a := i) (b := 1) (r0 := i - 1) (r := i - 1) rfl rfl rfl (w64 _ (by omega)) ?_)
      refine O_v rfl (R_cmp (a := k) (b := (i - 1)) (r := (decide (k < (i - 1)))) rfl rfl rfl ?_)
      refine O_nil (Then_n ?_)
      refine W_cond (t := (decide (k < (i - 1)))) rfl (fun hc39 => ?_) (fun hc39 => ?_)
      ·have hc39 : (k < (i - 1)) := (of_decide_eq_true hc39)
       refine W_skip (Then_n (W_seq (W_block ?_)))
       refine W_rgdM TryMixed (fun _ => True) (fun i => i == 15 || i == 17) [(0, .q true), (1, .q true), (2, .q true), (3, .q true), (4, .q true), (5, .q true), (6, .q true), (7, .q true), (8, .q true), (9, .q false), (10, .q true), (11, .q true), (12, .q true), (13, .q false), (14, .q true), (15, .c true), (16, .q true), (17, .c true)] (by kernel_rfl) ?_
       refine Lx_q (i := 0) rfl rfl _ (fun v40 hv41 => R_move (v := (slV hs s)) rfl ⟨rfl, Gr.refl _ _⟩) ?_
       refine Lx_q (i := 1) rfl rfl _ (fun v42 hv43 => R_move (v := (.int .i64 k)) rfl ⟨rfl, Gr.refl _ _⟩) ?_
       refine Lx_q (i := 2) rfl rfl _ (fun v44 hv45 => R_move (v := (slV hs s)) rfl ⟨rfl, Gr.refl _ _⟩) ?_
       refine Lx_q (i := 3) rfl rfl _ (fun v46 hv47 => R_move (v := (.int .i64 k)) rfl ⟨rfl, Gr.refl _ _⟩) ?_
       refine Lx_q (i := 4) rfl rfl _ (fun v48 hv49 => R_arith (a := k) (b := 1) (r0 := k + 1) (r := k + 1) rfl rfl rfl (w64 _ (by omega)) ⟨rfl, Gr.refl _ _⟩) ?_
       refine Lx_q (i := 5) rfl rfl _ (fun v50 hv51 => R_move (v := (slV hs s)) rfl ⟨rfl, Gr.refl _ _⟩) ?_
       refine Lx_q (i := 6) rfl rfl _ (fun v52 hv53 => R_move (v := (.int .i64 k)) rfl ⟨rfl, Gr.refl _ _⟩) ?_
       refine Lx_q (i := 7) rfl rfl _ (fun v54 hv55 => R_arith (a := k) (b := 1) (r0 := k + 1) (r := k + 1) rfl rfl rfl (w64 _ (by omega)) ⟨rfl, Gr.refl _ _⟩) ?_
       refine Lx_q (i := 8) rfl rfl _ (fun v56 hv57 => R_index_pure (OwnS.sl (H38.getOwn 0 rfl) (fun _ => rfl)) (n := s.length) (by first | omega | (simp only [List.length_set]; omega)) (j := (k + 1)) (oo := (hs.o + ((k + 1).toNat) * 8)) Try.underlying22 Try.sizeOf44 rfl rfl (by omega) (by omega) rfl ⟨rfl, Gr.refl _ _⟩) ?_
       refine Lx_q (i := 9) rfl rfl _ (fun v58 hv59 => R_loadA (cs := [[(.int .i64 (((nth cur ((k + 1).toNat)).node).T))], [(.int .i64 (((nth cur ((k + 1).toNat)).node).R))], [(.int .i64 (((nth cur ((k + 1).toNat)).par).T))], [(.int .i64 (((nth cur ((k + 1).toNat)).par).R))], [(.int .i64 (((nth cur ((k + 1).toNat)).tm).T))], [(.int .i64 (((nth cur ((k + 1).toNat)).tm).R))], [(.string ((nth cur ((k + 1).toNat)).name))], [(slV ((nth cur ((k + 1).toNat)).hh) ((nth cur ((k + 1).toNat)).heads))]]) Try.isAgg44 Try.sizeOf44 rfl rfl ((Sl.elem (OwnS.sl ((H38.ext hv59).getOwn 0 rfl) (fun _ => rfl)) (i := (k + 1).toNat) (by omega) rfl).chunks 0 8 0 (hs.o + ((k + 1).toNat) * 8) _ rfl rfl rfl) ⟨rfl, Gr.refl _ _⟩) ?_
       refine Lx_q (i := 10) rfl rfl _ (fun v60 hv61 => R_move (v := (slV hs s)) rfl ⟨rfl, Gr.refl _ _⟩) ?_
       refine Lx_q (i := 11) rfl rfl _ (fun v62 hv63 => R_move (v := (.int .i64 k)) rfl ⟨rfl, Gr.refl _ _⟩) ?_
       refine Lx_q (i := 12) rfl rfl _ (fun v64 hv65 => R_index_pure (OwnS.sl (H38.getOwn 0 rfl) (fun _ => rfl)) (n := s.length) (by first | omega | (simp only [List.length_set]; omega)) (j := k) (oo := (hs.o + k.toNat * 8)) Try.underlying22 Try.sizeOf44 rfl rfl (by omega) (by omega) rfl ⟨rfl, Gr.refl _ _⟩) ?_
       refine Lx_q (i := 13) rfl rfl _ (fun v66 hv67 => R_loadA (cs := [[(.int .i64 (((nth cur k.toNat).node).T))], [(.int .i64 (((nth cur k.toNat).node).R))], [(.int .i64 (((nth cur k.toNat).par).T))], [(.int .i64 (((nth cur k.toNat).par).R))], [(.int .i64 (((nth cur k.toNat).tm).T))], [(.int .i64 (((nth cur k.toNat).tm).R))], [(.string ((nth cur k.toNat).name))], [(slV ((nth cur k.toNat).hh) ((nth cur k.toNat).heads))]]) Try.isAgg44 Try.sizeOf44 rfl rfl ((Sl.elem (OwnS.sl ((H38.ext hv67).getOwn 0 rfl) (fun _ => rfl)) (i := k.toNat) (by omega) rfl).chunks 0 8 0 (hs.o + k.toNat * 8) _ rfl rfl rfl) ⟨rfl, Gr.refl _ _⟩) ?_
       refine Lx_q (i := 14) rfl rfl _ (fun v68 hv69 => R_index_pure (OwnS.sl (H38.getOwn 0 rfl) (fun _ => rfl)) (n := s.length) (by first | omega | (simp only [List.length_set]; omega)) (j := k) (oo := (hs.o + k.toNat * 8)) Try.underlying22 Try.sizeOf44 rfl rfl (by omega) (by omega) rfl ⟨rfl, Gr.refl _ _⟩) ?_
       refine Lx_cu (i := 15) rfl (fun w70 hw71 => ?_)
       have H72 := H38.ext hw71
       refine (C_storeEl H72 0 rfl (j := k.toNat) (v := (aggOf (rowCh (nth cur ((k + 1).toNat))))) (nth cur ((k + 1).toNat)) ([] : List Value) ([[(.int .i64 (((nth cur k.toNat).node).T))], [(.int .i64 (((nth cur k.toNat).node).R))], [(.int .i64 (((nth cur k.toNat).par).T))], [(.int .i64 (((nth cur k.toNat).par).R))], [(.int .i64 (((nth cur k.toNat).tm).T))], [(.int .i64 (((nth cur k.toNat).tm).R))], [(.string ((nth cur k.toNat).name))], [(slV ((nth cur k.toNat).hh) ((nth cur k.toNat).heads))]]).flatten ([] : List Value) ([[(.int .i64 (((nth cur ((k + 1).toNat)).node).T))], [(.int .i64 (((nth cur ((k + 1).toNat)).node).R))], [(.int .i64 (((nth cur ((k + 1).toNat)).par).T))], [(.int .i64 (((nth cur ((k + 1).toNat)).par).R))], [(.int .i64 (((nth cur ((k + 1).toNat)).tm).T))], [(.int .i64 (((nth cur ((k + 1).toNat)).tm).R))], [(.string ((nth cur ((k + 1).toNat)).name))], [(slV ((nth cur ((k + 1).toNat)).hh) ((nth cur ((k + 1).toNat)).heads))]]).flatten (fun _ => rfl) (by omega) Try.sizeOf44 rfl rfl rfl rfl rfl rfl rfl rfl rfl ?_)
       intro w73 hg74 H75
       refine ⟨Gr.mono (M' := fun _ => True) hg74 (fun _ _ => trivial), ?_⟩
       refine Lx_q (i := 16) rfl rfl _ (fun v76 hv77 => R_index_pure (OwnS.sl (H75.getOwn 0 rfl) (fun _ => rfl)) (n := s.length) (by first | omega | (simp only [List.length_set]; omega)) (j := (k + 1)) (oo := (hs.o + ((k + 1).toNat) * 8)) Try.underlying22 Try.sizeOf44 rfl rfl (by omega) (by omega) rfl ⟨rfl, Gr.refl _ _⟩) ?_
       refine Lx_cu (i := 17) rfl (fun w78 hw79 => ?_)
       have H80 := H75.ext hw79
       refine (C_storeEl H80 0 rfl (j := (k + 1).toNat) (v := (aggOf (rowCh (nth cur k.toNat)))) (nth cur k.toNat) ([] : List Value) ([[(.int .i64 (((nth (cur.set k.toNat (nth cur ((k + 1).toNat))) ((k + 1).toNat)).node).T))], [(.int .i64 (((nth (cur.set k.toNat (nth cur ((k + 1).toNat))) ((k + 1).toNat)).node).R))], [(.int .i64 (((nth (cur.set k.toNat (nth cur ((k + 1).toNat))) ((k + 1).toNat)).par).T))], [(.int .i64 (((nth (cur.set k.toNat (nth cur ((k + 1).toNat))) ((k + 1).toNat)).par).R))], [(.int .i64 (((nth (cur.set k.toNat (nth cur ((k + 1).toNat))) ((k + 1).toNat)).tm).T))], [(.int .i64 (((nth (cur.set k.toNat (nth cur ((k + 1).toNat))) ((k + 1).toNat)).tm).R))], [(.string ((nth (cur.set k.toNat (nth cur ((k + 1).toNat))) ((k + 1).toNat)).name))], [(slV ((nth (cur.set k.toNat (nth cur ((k + 1).toNat))) ((k + 1).toNat)).hh) ((nth (cur.set k.toNat (nth cur ((k + 1).toNat))) ((k + 1).toNat)).heads))]]).flatten ([] : List Value) ([[(.int .i64 (((nth cur k.toNat).node).T))], [(.int .i64 (((nth cur k.toNat).node).R))], [(.int .i64 (((nth cur k.toNat).par).T))], [(.int .i64 (((nth cur k.toNat).par).R))], [(.int .i64 (((nth cur k.toNat).tm).T))], [(.int .i64 (((nth cur k.toNat).tm).R))], [(.string ((nth cur k.toNat).name))], [(slV ((nth cur k.toNat).hh) ((nth cur k.toNat).heads))]]).flatten (fun _ => rfl) (by simp only [List.length_set]; omega) Try.sizeOf44 rfl rfl rfl rfl rfl rfl rfl rfl rfl ?_)
       intro w81 hg82 H83
       refine ⟨Gr.mono (M' := fun _ => True) hg82 (fun _ _ => trivial), ?_⟩
       refine Lx_nil (fun w84 hw85 => ?_)
       have H86 := H83.ext hw85
       refine Blk_n (Then_n (W_reg ?_))
       refine O_v rfl (R_move (v := (.int .i64 k)) rfl ?_)
       refine O_v rfl (R_arith (a := k) (b := 1) (r0 := k + 1) (r := k + 1) rfl rfl rfl (w64 _ (by omega)) ?_)
       refine O_v rfl (R_assign (v := (.int .i64 (k + 1))) rfl ?_)
       refine O_nil (Then_n ?_)
       refine ⟨_, ?_, (k + 1), ((cur.set k.toNat (nth cur ((k + 1).toNat))).set ((k + 1).toNat) (nth cur k.toNat)), rfl, (by omega), (by simp only [List.length_set]; exact hl), (swap_perm' hp (by omega) (by omega)), _, envL_self ⟨rfl, rfl, rfl, rfl, rfl, rfl, rfl, trivial⟩, H86⟩
       omega
      ·have hc39 : ¬ (k < (i - 1)) := (of_decide_eq_false hc39)
       refine W_exit (Then_x (Then_x (Blk_x (Then_n (W_ret (Then_r ?_))))))
       exact ret_0 Try.results74 ⟨_, rfl, H38.gr, H38.getOwn 0 rfl, hp⟩
    ·have hc1 : ¬ ((m - a) = 1) := (of_decide_eq_false hc1)
     refine W_skip (Then_n (W_seq (W_seq (W_reg ?_))))
     refine O_v rfl (R_move (v := (.int .i64 b)) rfl ?_)
     refine O_v rfl (R_move (v := (.int .i64 m)) rfl ?_)
     refine O_v rfl (R_arith (a := b) (b := m) (r0 := b - m) (r := b - m) rfl rfl rfl (w64 _ (by omega)) ?_)
     refine O_v rfl (R_cmp (a := (b - m)) (b := 1) (r := (decide ((b - m) = 1))) rfl rfl rfl ?_)
     refine O_nil (Then_n ?_)
     refine W_cond (t := (decide ((b - m) = 1))) rfl (fun hc87 => ?_) (fun hc87 => ?_)
     ·have hc87 : ((b - m) = 1) := (of_decide_eq_true hc87)
      refine W_seq (W_reg ?_)
      refine O_v rfl (R_move (v := (.int .i64 a)) rfl ?_)
      refine O_v rfl (R_assign (v := (.int .i64 a)) rfl ?_)
      refine O_nil (Then_n (W_seq (W_reg ?_)))
      refine O_v rfl (R_move (v := (.int .i64 m)) rfl ?_)
      refine O_v rfl (R_assign (v := (.int .i64 m)) rfl ?_)
      refine O_nil (Then_n (W_seq (W_block ?_)))
      refine W_loop (fun m88 e89 w90 => ∃ (i : Int), ∃ (j : Int), m88 = (j - i).toNat ∧ (a ≤ i ∧ i ≤ j ∧ j ≤ m) ∧ ∃ eb91, e89 = envL [(0, (slV hs s)), (1, (.int .i64 a)), (2, (.int .i64 m)), (3, (.int .i64 b)), (4, (.func (.func kcmp) #[] ccmp)), (14, (.int .i64 i)), (15, (.int .i64 j))] eb91 ∧ Ctx w (fun b => (slV hs s).ownBlock = some b) w90 [rowR 44 8 rowCh hs s] []) _ ⟨a, m, rfl, (by omega), _, envL_self ⟨rfl, rfl, rfl, rfl, rfl, rfl, rfl, trivial⟩, H0⟩ ?_
      rintro m88 _ w90 ⟨i, j, rfl, hij, eb91, rfl, H92⟩
      refine W_seq (W_seq (W_reg ?_))
      refine O_v rfl (R_move (v := (.int .i64 i)) rfl ?_)
      refine O_v rfl (R_move (v := (.int .i64 j)) rfl ?_)
      refine O_v rfl (R_cmp (a := i) (b := j) (r := (decide (i < j))) rfl rfl rfl ?_)
      refine O_nil (Then_n ?_)
      refine W_cond (t := (decide (i < j))) rfl (fun hc93 => ?_) (fun hc93 => ?_)
      ·have hc93 : (i < j) := (of_decide_eq_true hc93)
       refine W_skip (Then_n (W_block (W_seq (W_reg ?_))))
       refine O_v rfl (R_move (v := (.int .i64 i)) rfl ?_)
       refine O_v rfl (R_move (v := (.int .i64 j)) rfl ?_)
       refine O_v rfl (R_arith (a := i) (b := j) (r0 := i + j) (r := i + j) rfl rfl rfl (w64 _ (by omega)) ?_)
       refine O_v rfl (R_conv_int (a := (i + j)) (r := (((i + j).toNat : Nat) : Int)) Try.underlying3 Try.underlying121 rfl (conv_nn (by omega)) ?_)
       refine O_v rfl (R_shr (a := (((i + j).toNat : Nat) : Int)) (b := ((1 : Nat) : Int)) (r := (((i + j).toNat / 2 : Nat) : Int)) rfl rfl (by decide) (shr_nat _ _ (by decide)) ?_)
       refine O_v rfl (R_conv_int (a := (((i + j).toNat / 2 : Nat) : Int)) (r := (((i + j).toNat / 2 : Nat) : Int)) Try.underlying121 Try.underlying3 rfl (w64 _ (by omega)) ?_)
       refine O_v rfl (R_assign (v := (.int .i64 (((i + j).toNat / 2 : Nat) : Int))) rfl ?_)
       refine O_nil (Then_n (W_seq ?_))
       refine W_rgd TryMixed [(0, .q false), (1, .q false), (2, .q false), (3, .q false), (4, .q false), (5, .q false), (6, .q false), (7, .q false), (8, .q false), (9, .q false), (10, .q false), (11, .q false)] (by kernel_rfl) ?_
       refine Lx_q (i := 0) rfl rfl _ (fun v94 hv95 => R_move (v := (.func (.func kcmp) #[] ccmp)) rfl ⟨rfl, Gr.refl _ _⟩) ?_
       refine Lx_q (i := 1) rfl rfl _ (fun v96 hv97 => R_move (v := (slV hs s)) rfl ⟨rfl, Gr.refl _ _⟩) ?_
       refine Lx_q (i := 2) rfl rfl _ (fun v98 hv99 => R_move (v := (.int .i64 m)) rfl ⟨rfl, Gr.refl _ _⟩) ?_
       refine Lx_q (i := 3) rfl rfl _ (fun v100 hv101 => R_index_pure (OwnS.sl (H92.getOwn 0 rfl) (fun _ => rfl)) (n := s.length) rfl (j := m) (oo := (hs.o + m.toNat * 8)) Try.underlying22 Try.sizeOf44 rfl rfl (by omega) (by omega) rfl ⟨rfl, Gr.refl _ _⟩) ?_
       refine Lx_q (i := 4) rfl rfl _ (fun v102 hv103 => R_loadA (cs := [[(.int .i64 (((nth s m.toNat).node).T))], [(.int .i64 (((nth s m.toNat).node).R))], [(.int .i64 (((nth s m.toNat).par).T))], [(.int .i64 (((nth s m.toNat).par).R))], [(.int .i64 (((nth s m.toNat).tm).T))], [(.int .i64 (((nth s m.toNat).tm).R))], [(.string ((nth s m.toNat).name))], [(slV ((nth s m.toNat).hh) ((nth s m.toNat).heads))]]) Try.isAgg44 Try.sizeOf44 rfl rfl ((Sl.elem (OwnS.sl ((H92.ext hv103).getOwn 0 rfl) (fun _ => rfl)) (i := m.toNat) (by omega) rfl).chunks 0 8 0 (hs.o + m.toNat * 8) _ rfl rfl rfl) ⟨rfl, Gr.refl _ _⟩) ?_
       refine Lx_q (i := 5) rfl rfl _ (fun v104 hv105 => R_move (v := (slV hs s)) rfl ⟨rfl, Gr.refl _ _⟩) ?_
       refine Lx_q (i := 6) rfl rfl _ (fun v106 hv107 => R_move (v := (.int .i64 (((i + j).toNat / 2 : Nat) : Int))) rfl ⟨rfl, Gr.refl _ _⟩) ?_
       refine Lx_q (i := 7) rfl rfl _ (fun v108 hv109 => R_index_pure (OwnS.sl (H92.getOwn 0 rfl) (fun _ => rfl)) (n := s.length) rfl (j := (((i + j).toNat / 2 : Nat) : Int)) (oo := (hs.o + ((i + j).toNat / 2) * 8)) Try.underlying22 Try.sizeOf44 rfl rfl (by omega) (by omega) rfl ⟨rfl, Gr.refl _ _⟩) ?_
       refine Lx_q (i := 8) rfl rfl _ (fun v110 hv111 => R_loadA (cs := [[(.int .i64 (((nth s ((i + j).toNat / 2)).node).T))], [(.int .i64 (((nth s ((i + j).toNat / 2)).node).R))], [(.int .i64 (((nth s ((i + j).toNat / 2)).par).T))], [(.int .i64 (((nth s ((i + j).toNat / 2)).par).R))], [(.int .i64 (((nth s ((i + j).toNat / 2)).tm).T))], [(.int .i64 (((nth s ((i + j).toNat / 2)).tm).R))], [(.string ((nth s ((i + j).toNat / 2)).name))], [(slV ((nth s ((i + j).toNat / 2)).hh) ((nth s ((i + j).toNat / 2)).heads))]]) Try.isAgg44 Try.sizeOf44 rfl rfl ((Sl.elem (OwnS.sl ((H92.ext hv111).getOwn 0 rfl) (fun _ => rfl)) (i := ((i + j).toNat / 2)) (by omega) rfl).chunks 0 8 0 (hs.o + ((i + j).toNat / 2) * 8) _ rfl rfl rfl) ⟨rfl, Gr.refl _ _⟩) ?_
       refine Lx_q (i := 9) rfl rfl (.int .i64 (f (nth s m.toNat) (nth s ((i + j).toNat / 2)))) (fun v112 hv113 => R_callV (vs := [(aggOf (rowCh (nth s m.toNat))), (aggOf (rowCh (nth s ((i + j).toNat / 2))))]) Kcmp rfl rfl (Ccmp _ (nth_mem (by omega)) _ (nth_mem (by omega)) v112 (H92.ext hv113).gr)) ?_
       refine Lx_q (i := 10) rfl rfl _ (fun v114 hv115 => R_cmp (a := f (nth s m.toNat) (nth s ((i + j).toNat / 2))) (b := 0) (r := (decide (f (nth s m.toNat) (nth s ((i + j).toNat / 2)) < 0))) rfl rfl rfl ⟨rfl, Gr.refl _ _⟩) ?_
       refine Lx_q (i := 11) rfl rfl _ (fun v116 hv117 => R_not rfl ⟨rfl, Gr.refl _ _⟩) ?_
       refine Lx_nil (fun w118 hw119 => ?_)
       have H120 := H92.ext hw119
       refine Then_n ?_
       refine W_cond (t := (!(decide (f (nth s m.toNat) (nth s ((i + j).toNat / 2)) < 0)))) rfl (fun hc121 => ?_) (fun hc121 => ?_)
       ·have hc121 : ¬ (f (nth s m.toNat) (nth s ((i + j).toNat / 2)) < 0) := (of_decide_eq_false (notT hc121))
        refine W_reg ?_
        refine O_v rfl (R_move (v := (.int .i64 (((i + j).toNat / 2 : Nat) : Int))) rfl ?_)
        refine O_v rfl (R_arith (a := (((i + j).toNat / 2 : Nat) : Int)) (b := 1) (r0 := (((i + j).toNat / 2 : Nat) : Int) + 1) (r := ((((i + j).toNat / 2) + 1 : Nat) : Int)) rfl rfl rfl (wrapN _ (by omega)) ?_)
        refine O_v rfl (R_assign (v := (.int .i64 ((((i + j).toNat / 2) + 1 : Nat) : Int))) rfl ?_)
        refine O_nil (Blk_n (Then_n ?_))
        refine ⟨_, ?_, ((((i + j).toNat / 2) + 1 : Nat) : Int), j, rfl, (by omega), _, envL_self ⟨rfl, rfl, rfl, rfl, rfl, rfl, rfl, trivial⟩, H120⟩
        omega
       ·have hc121 : (f (nth s m.toNat) (nth s ((i + j).toNat / 2)) < 0) := (of_decide_eq_true (notF hc121))
        refine W_reg ?_
        refine O_v rfl (R_move (v := (.int .i64 (((i + j).toNat / 2 : Nat) : Int))) rfl ?_)
        refine O_v rfl (R_assign (v := (.int .i64 (((i + j).toNat / 2 : Nat) : Int))) rfl ?_)
        refine O_nil (Blk_n (Then_n ?_))
        refine ⟨_, ?_, i, (((i + j).toNat / 2 : Nat) : Int), rfl, (by omega), _, envL_self ⟨rfl, rfl, rfl, rfl, rfl, rfl, rfl, trivial⟩, H120⟩
        omega
      ·have hc93 : ¬ (i < j) := (of_decide_eq_false hc93)
       refine W_exit (Then_x (Then_x (Blk_x (Then_n (W_seq (W_seq (W_reg ?_)))))))
       refine O_v rfl (R_move (v := (.int .i64 m)) rfl ?_)
       refine O_v rfl (R_assign (v := (.int .i64 m)) rfl ?_)
       refine O_nil (Then_n (W_block ?_))
       refine W_loop (fun m122 e123 w124 => ∃ (k : Int), ∃ (cur : List RowS), m122 = (k - i).toNat ∧ (k ≤ m) ∧ (cur.length = s.length) ∧ (cur.Perm s) ∧ ∃ eb125, e123 = envL [(0, (slV hs s)), (1, (.int .i64 a)), (2, (.int .i64 m)), (3, (.int .i64 b)), (4, (.func (.func kcmp) #[] ccmp)), (14, (.int .i64 i)), (17, (.int .i64 k))] eb125 ∧ Ctx w (fun b => (slV hs s).ownBlock = some b) w124 [rowR 44 8 rowCh hs cur] []) _ ⟨m, s, rfl, (by omega), rfl, (List.Perm.refl _), _, envL_self ⟨rfl, rfl, rfl, rfl, rfl, rfl, rfl, trivial⟩, H92⟩ ?_
       rintro m122 _ w124 ⟨k, cur, rfl, hk, hl, hp, eb125, rfl, H126⟩
       refine W_seq (W_seq (W_reg ?_))
       refine O_v rfl (R_move (v := (.int .i64 k)) rfl ?_)
       refine O_v rfl (R_move (v := (.int .i64 i)) rfl ?_)
       refine O_v rfl (R_cmp (a := k) (b := i) (r := (decide (i < k))) rfl rfl rfl ?_)
       refine O_nil (Then_n ?_)
       refine W_cond (t := (decide (i < k))) rfl (fun hc127 => ?_) (fun hc127 => ?_)
       ·have hc127 : (i < k) := (of_decide_eq_true hc127)
        refine W_skip (Then_n (W_seq (W_block ?_)))
        refine W_rgdM TryMixed (fun _ => True) (fun i => i == 15 || i == 17) [(0, .q true), (1, .q true), (2, .q true), (3, .q true), (4, .q true), (5, .q true), (6, .q true), (7, .q true), (8, .q true), (9, .q false), (10, .q true), (11, .q true), (12, .q true), (13, .q false), (14, .q true), (15, .c true), (16, .q true), (17, .c true)] (by kernel_rfl) ?_
        refine Lx_q (i := 0) rfl rfl _ (fun v128 hv129 => R_move (v := (slV hs s)) rfl ⟨rfl, Gr.refl _ _⟩) ?_
        refine Lx_q (i := 1) rfl rfl _ (fun v130 hv131 => R_move (v := (.int .i64 k)) rfl ⟨rfl, Gr.refl _ _⟩) ?_
        refine Lx_q (i := 2) rfl rfl _ (fun v132 hv133 => R_move (v := (slV hs s)) rfl ⟨rfl, Gr.refl _ _⟩) ?_
        refine Lx_q (i := 3) rfl rfl _ (fun v134 hv135 => R_move (v := (.int .i64 k)) rfl ⟨rfl, Gr.refl _ _⟩) ?_
        refine Lx_q (i := 4) rfl rfl _ (fun v136 hv137 => R_arith (a := k) (b := 1) (r0 := k - 1) (r := k - 1) rfl rfl rfl (w64 _ (by omega)) ⟨rfl, Gr.refl _ _⟩) ?_
        refine Lx_q (i := 5) rfl rfl _ (fun v138 hv139 => R_move (v := (slV hs s)) rfl ⟨rfl, Gr.refl _ _⟩) ?_
        refine Lx_q (i := 6) rfl rfl _ (fun v140 hv141 => R_move (v := (.int .i64 k)) rfl ⟨rfl, Gr.refl _ _⟩) ?_
        refine Lx_q (i := 7) rfl rfl _ (fun v142 hv143 => R_arith (a := k) (b := 1) (r0 := k - 1) (r := k - 1) rfl rfl rfl (w64 _ (by omega)) ⟨rfl, Gr.refl _ _⟩) ?_
        refine Lx_q (i := 8) rfl rfl _ (fun v144 hv145 => R_index_pure (OwnS.sl (H126.getOwn 0 rfl) (fun _ => rfl)) (n := s.length) (by first | omega | (simp only [List.length_set]; omega)) (j := (k - 1)) (oo := (hs.o + ((k - 1).toNat) * 8)) Try.underlying22 Try.sizeOf44 rfl rfl (by omega) (by omega) rfl ⟨rfl, Gr.refl _ _⟩) ?_
        refine Lx_q (i := 9) rfl rfl _ (fun v146 hv147 => R_loadA (cs := [[(.int .i64 (((nth cur ((k - 1).toNat)).node).T))], [(.int .i64 (((nth cur ((k - 1).toNat)).node).R))], [(.int .i64 (((nth cur ((k - 1).toNat)).par).T))], [(.int .i64 (((nth cur ((k - 1).toNat)).par).R))], [(.int .i64 (((nth cur ((k - 1).toNat)).tm).T))], [(.int .i64 (((nth cur ((k - 1).toNat)).tm).R))], [(.string ((nth cur ((k - 1).toNat)).name))], [(slV ((nth cur ((k - 1).toNat)).hh) ((nth cur ((k - 1).toNat)).heads))]]) Try.isAgg44 Try.sizeOf44 rfl rfl ((Sl.elem (OwnS.sl ((H126.ext hv147).getOwn 0 rfl) (fun _ => rfl)) (i := (k - 1).toNat) (by omega) rfl).chunks 0 8 0 (hs.o + ((k - 1).toNat) * 8) _ rfl rfl rfl) ⟨rfl, Gr.refl _ _⟩) ?_
        refine Lx_q (i := 10) rfl rfl _ (fun v148 hv149 => R_move (v := (slV hs s)) rfl ⟨rfl, Gr.refl _ _⟩) ?_
        refine Lx_q (i := 11) rfl rfl _ (fun v150 hv151 => R_move (v := (.int .i64 k)) rfl ⟨rfl, Gr.refl _ _⟩) ?_
        refine Lx_q (i := 12) rfl rfl _ (fun v152 hv153 => R_index_pure (OwnS.sl (H126.getOwn 0 rfl) (fun _ => rfl)) (n := s.length) (by first | omega | (simp only [List.length_set]; omega)) (j := k) (oo := (hs.o + k.toNat * 8)) Try.underlying22 Try.sizeOf44 rfl rfl (by omega) (by omega) rfl ⟨rfl, Gr.refl _ _⟩) ?_
        refine Lx_q (i := 13) rfl rfl _ (fun v154 hv155 => R_loadA (cs := [[(.int .i64 (((nth cur k.toNat).node).T))], [(.int .i64 (((nth cur k.toNat).node).R))], [(.int .i64 (((nth cur k.toNat).par).T))], [(.int .i64 (((nth cur k.toNat).par).R))], [(.int .i64 (((nth cur k.toNat).tm).T))], [(.int .i64 (((nth cur k.toNat).tm).R))], [(.string ((nth cur k.toNat).name))], [(slV ((nth cur k.toNat).hh) ((nth cur k.toNat).heads))]]) Try.isAgg44 Try.sizeOf44 rfl rfl ((Sl.elem (OwnS.sl ((H126.ext hv155).getOwn 0 rfl) (fun _ => rfl)) (i := k.toNat) (by omega) rfl).chunks 0 8 0 (hs.o + k.toNat * 8) _ rfl rfl rfl) ⟨rfl, Gr.refl _ _⟩) ?_
        refine Lx_q (i := 14) rfl rfl _ (fun v156 hv157 => R_index_pure (OwnS.sl (H126.getOwn 0 rfl) (fun _ => rfl)) (n := s.length) (by first | omega | (simp only [List.length_set]; omega)) (j := k) (oo := (hs.o + k.toNat * 8)) Try.underlying22 Try.sizeOf44 rfl rfl (by omega) (by omega) rfl ⟨rfl, Gr.refl _ _⟩) ?_
        refine Lx_cu (i := 15) rfl (fun w158 hw159 => ?_)
        have H160 := H126.ext hw159
        refine (C_storeEl H160 0 rfl (j := k.toNat) (v := (aggOf (rowCh (nth cur ((k - 1).toNat))))) (nth cur ((k - 1).toNat)) ([] : List Value) ([[(.int .i64 (((nth cur k.toNat).node).T))], [(.int .i64 (((nth cur k.toNat).node).R))], [(.int .i64 (((nth cur k.toNat).par).T))], [(.int .i64 (((nth cur k.toNat).par).R))], [(.int .i64 (((nth cur k.toNat).tm).T))], [(.int .i64 (((nth cur k.toNat).tm).R))], [(.string ((nth cur k.toNat).name))], [(slV ((nth cur k.toNat).hh) ((nth cur k.toNat).heads))]]).flatten ([] : List Value) ([[(.int .i64 (((nth cur ((k - 1).toNat)).node).T))], [(.int .i64 (((nth cur ((k - 1).toNat)).node).R))], [(.int .i64 (((nth cur ((k - 1).toNat)).par).T))], [(.int .i64 (((nth cur ((k - 1).toNat)).par).R))], [(.int .i64 (((nth cur ((k - 1).toNat)).tm).T))], [(.int .i64 (((nth cur ((k - 1).toNat)).tm).R))], [(.string ((nth cur ((k - 1).toNat)).name))], [(slV ((nth cur ((k - 1).toNat)).hh) ((nth cur ((k - 1).toNat)).heads))]]).flatten (fun _ => rfl) (by omega) Try.sizeOf44 rfl rfl rfl rfl rfl rfl rfl rfl rfl ?_)
        intro w161 hg162 H163
        refine ⟨Gr.mono (M' := fun _ => True) hg162 (fun _ _ => trivial), ?_⟩
        refine Lx_q (i := 16) rfl rfl _ (fun v164 hv165 => R_index_pure (OwnS.sl (H163.getOwn 0 rfl) (fun _ => rfl)) (n := s.length) (by first | omega | (simp only [List.length_set]; omega)) (j := (k - 1)) (oo := (hs.o + ((k - 1).toNat) * 8)) Try.underlying22 Try.sizeOf44 rfl rfl (by omega) (by omega) rfl ⟨rfl, Gr.refl _ _⟩) ?_
        refine Lx_cu (i := 17) rfl (fun w166 hw167 => ?_)
        have H168 := H163.ext hw167
        refine (C_storeEl H168 0 rfl (j := (k - 1).toNat) (v := (aggOf (rowCh (nth cur k.toNat)))) (nth cur k.toNat) ([] : List Value) ([[(.int .i64 (((nth (cur.set k.toNat (nth cur ((k - 1).toNat))) ((k - 1).toNat)).node).T))], [(.int .i64 (((nth (cur.set k.toNat (nth cur ((k - 1).toNat))) ((k - 1).toNat)).node).R))], [(.int .i64 (((nth (cur.set k.toNat (nth cur ((k - 1).toNat))) ((k - 1).toNat)).par).T))], [(.int .i64 (((nth (cur.set k.toNat (nth cur ((k - 1).toNat))) ((k - 1).toNat)).par).R))], [(.int .i64 (((nth (cur.set k.toNat (nth cur ((k - 1).toNat))) ((k - 1).toNat)).tm).T))], [(.int .i64 (((nth (cur.set k.toNat (nth cur ((k - 1).toNat))) ((k - 1).toNat)).tm).R))], [(.string ((nth (cur.set k.toNat (nth cur ((k - 1).toNat))) ((k - 1).toNat)).name))], [(slV ((nth (cur.set k.toNat (nth cur ((k - 1).toNat))) ((k - 1).toNat)).hh) ((nth (cur.set k.toNat (nth cur ((k - 1).toNat))) ((k - 1).toNat)).heads))]]).flatten ([] : List Value) ([[(.int .i64 (((nth cur k.toNat).node).T))], [(.int .i64 (((nth cur k.toNat).node).R))], [(.int .i64 (((nth cur k.toNat).par).T))], [(.int .i64 (((nth cur k.toNat).par).R))], [(.int .i64 (((nth cur k.toNat).tm).T))], [(.int .i64 (((nth cur k.toNat).tm).R))], [(.string ((nth cur k.toNat).name))], [(slV ((nth cur k.toNat).hh) ((nth cur k.toNat).heads))]]).flatten (fun _ => rfl) (by simp only [List.length_set]; omega) Try.sizeOf44 rfl rfl rfl rfl rfl rfl rfl rfl rfl ?_)
        intro w169 hg170 H171
        refine ⟨Gr.mono (M' := fun _ => True) hg170 (fun _ _ => trivial), ?_⟩
        refine Lx_nil (fun w172 hw173 => ?_)
        have H174 := H171.ext hw173
        refine Blk_n (Then_n (W_reg ?_))
        refine O_v rfl (R_move (v := (.int .i64 k)) rfl ?_)
        refine O_v rfl (R_arith (a := k) (b := 1) (r0 := k - 1) (r := k - 1) rfl rfl rfl (w64 _ (by omega)) ?_)
        refine O_v rfl (R_assign (v := (.int .i64 (k - 1))) rfl ?_)
        refine O_nil (Then_n ?_)
        refine ⟨_, ?_, (k - 1), ((cur.set k.toNat (nth cur ((k - 1).toNat))).set ((k - 1).toNat) (nth cur k.toNat)), rfl, (by omega), (by simp only [List.length_set]; exact hl), (swap_perm' hp (by omega) (by omega)), _, envL_self ⟨rfl, rfl, rfl, rfl, rfl, rfl, rfl, trivial⟩, H174⟩
        omega
       ·have hc127 : ¬ (i < k) := (of_decide_eq_false hc127)
        refine W_exit (Then_x (Then_x (Blk_x (Then_n (W_ret (Then_r ?_))))))
        exact ret_0 Try.results74 ⟨_, rfl, H126.gr, H126.getOwn 0 rfl, hp⟩
     ·have hc87 : ¬ ((b - m) = 1) := (of_decide_eq_false hc87)
      refine W_skip (Then_n (W_seq (W_reg ?_)))
      refine O_v rfl (R_move (v := (.int .i64 a)) rfl ?_)
      refine O_v rfl (R_move (v := (.int .i64 b)) rfl ?_)
      refine O_v rfl (R_arith (a := a) (b := b) (r0 := a + b) (r := a + b) rfl rfl rfl (w64 _ (by omega)) ?_)
      refine O_v rfl (R_conv_int (a := (a + b)) (r := (((a + b).toNat : Nat) : Int)) Try.underlying3 Try.underlying121 rfl (conv_nn (by omega)) ?_)
      refine O_v rfl (R_shr (a := (((a + b).toNat : Nat) : Int)) (b := ((1 : Nat) : Int)) (r := (((a + b).toNat / 2 : Nat) : Int)) rfl rfl (by decide) (shr_nat _ _ (by decide)) ?_)
      refine O_v rfl (R_conv_int (a := (((a + b).toNat / 2 : Nat) : Int)) (r := (((a + b).toNat / 2 : Nat) : Int)) Try.underlying121 Try.underlying3 rfl (w64 _ (by omega)) ?_)
      refine O_v rfl (R_assign (v := (.int .i64 (((a + b).toNat / 2 : Nat) : Int))) rfl ?_)
      refine O_nil (Then_n (W_seq (W_reg ?_)))
      refine O_v rfl (R_move (v := (.int .i64 (((a + b).toNat / 2 : Nat) : Int))) rfl ?_)
      refine O_v rfl (R_move (v := (.int .i64 m)) rfl ?_)
      refine O_v rfl (R_arith (a := (((a + b).toNat / 2 : Nat) : Int)) (b := m) (r0 := (((a + b).toNat / 2 : Nat) : Int) + m) (r := (((a + b).toNat / 2 : Nat) : Int) + m) rfl rfl rfl (w64 _ (by omega)) ?_)
      refine O_v rfl (R_assign (v := (.int .i64 ((((a + b).toNat / 2 : Nat) : Int) + m))) rfl ?_)
      refine O_nil (Then_n (W_seq (W_reg ?_)))
      refine O_v rfl (R_assign (v := (.int .i64 0)) rfl ?_)
      refine O_v rfl (R_assign (v := (.int .i64 0)) rfl ?_)
      refine O_nil (Then_n (W_seq (W_seq (W_reg ?_))))
      refine O_v rfl (R_move (v := (.int .i64 m)) rfl ?_)
      refine O_v rfl (R_move (v := (.int .i64 (((a + b).toNat / 2 : Nat) : Int))) rfl ?_)
      refine O_v rfl (R_cmp (a := m) (b := (((a + b).toNat / 2 : Nat) : Int)) (r := (decide ((((a + b).toNat / 2 : Nat) : Int) < m))) rfl rfl rfl ?_)
      refine O_nil (Then_n ?_)
      refine W_cond (t := (decide ((((a + b).toNat / 2 : Nat) : Int) < m))) rfl (fun hc175 => ?_) (fun hc175 => ?_)
      ·have hc175 : ((((a + b).toNat / 2 : Nat) : Int) < m) := (of_decide_eq_true hc175)
       refine W_seq (W_reg ?_)
       refine O_v rfl (R_move (v := (.int .i64 ((((a + b).toNat / 2 : Nat) : Int) + m))) rfl ?_)
       refine O_v rfl (R_move (v := (.int .i64 b)) rfl ?_)
       refine O_v rfl (R_arith (a := ((((a + b).toNat / 2 : Nat) : Int) + m)) (b := b) (r0 := ((((a + b).toNat / 2 : Nat) : Int) + m) - b) (r := ((((a + b).toNat / 2 : Nat) : Int) + m) - b) rfl rfl rfl (w64 _ (by omega)) ?_)
       refine O_v rfl (R_assign (v := (.int .i64 (((((a + b).toNat / 2 : Nat) : Int) + m) - b))) rfl ?_)
       refine O_nil (Then_n (W_reg ?_))
       refine O_v rfl (R_move (v := (.int .i64 (((a + b).toNat / 2 : Nat) : Int))) rfl ?_)
       refine O_v rfl (R_assign (v := (.int .i64 (((a + b).toNat / 2 : Nat) : Int))) rfl ?_)
       refine O_nil (Then_n (W_seq (W_reg ?_)))
       refine O_v rfl (R_move (v := (.int .i64 ((((a + b).toNat / 2 : Nat) : Int) + m))) rfl ?_)
       refine O_v rfl (R_arith (a := ((((a + b).toNat / 2 : Nat) : Int) + m)) (b := 1) (r0 := ((((a + b).toNat / 2 : Nat) : Int) + m) - 1) (r := ((((a + b).toNat / 2 : Nat) : Int) + m) - 1) rfl rfl rfl (w64 _ (by omega)) ?_)
       refine O_v rfl (R_assign (v := (.int .i64 (((((a + b).toNat / 2 : Nat) : Int) + m) - 1))) rfl ?_)
       refine O_nil (Then_n (W_seq (W_block ?_)))
       refine W_loop (fun m176 e177 w178 => ∃ (st : Int), ∃ (r : Int), m176 = (r - st).toNat ∧ (((a + b).toNat / 2 : Nat) + m - b ≤ st ∧ a ≤ st ∧ st ≤ r ∧ r ≤ ((a + b).toNat / 2 : Nat) ∧ r ≤ m) ∧ ∃ eb179, e177 = envL [(0, (slV hs s)), (1, (.int .i64 a)), (2, (.int .i64 m)), (3, (.int .i64 b)), (4, (.func (.func kcmp) #[] ccmp)), (18, (.int .i64 (((a + b).toNat / 2 : Nat) : Int))), (19, (.int .i64 ((((a + b).toNat / 2 : Nat) : Int) + m))), (20, (.int .i64 st)), (21, (.int .i64 r)), (22, (.int .i64 (((((a + b).toNat / 2 : Nat) : Int) + m) - 1)))] eb179 ∧ Ctx w (fun b => (slV hs s).ownBlock = some b) w178 [rowR 44 8 rowCh hs s] []) _ ⟨(((((a + b).toNat / 2 : Nat) : Int) + m) - b), (((a + b).toNat / 2 : Nat) : Int), rfl, (by omega), _, envL_self ⟨rfl, rfl, rfl, rfl, rfl, rfl, rfl, rfl, rfl, rfl, trivial⟩, H0⟩ ?_
       rintro m176 _ w178 ⟨st, r, rfl, hst, eb179, rfl, H180⟩
       refine W_seq (W_seq (W_reg ?_))
       refine O_v rfl (R_move (v := (.int .i64 st)) rfl ?_)
       refine O_v rfl (R_move (v := (.int .i64 r)) rfl ?_)
       refine O_v rfl (R_cmp (a := st) (b := r) (r := (decide (st < r))) rfl rfl rfl ?_)
       refine O_nil (Then_n ?_)
       refine W_cond (t := (decide (st < r))) rfl (fun hc181 => ?_) (fun hc181 => ?_)
       ·have hc181 : (st < r) := (of_decide_eq_true hc181)
        refine W_skip (Then_n (W_block (W_seq (W_reg ?_))))
        refine O_v rfl (R_move (v := (.int .i64 st)) rfl ?_)
        refine O_v rfl (R_move (v := (.int .i64 r)) rfl ?_)
        refine O_v rfl (R_arith (a := st) (b := r) (r0 := st + r) (r := st + r) rfl rfl rfl (w64 _ (by omega)) ?_)
        refine O_v rfl (R_conv_int (a := (st + r)) (r := (((st + r).toNat : Nat) : Int)) Try.underlying3 Try.underlying121 rfl (conv_nn (by omega)) ?_)
        refine O_v rfl (R_shr (a := (((st + r).toNat : Nat) : Int)) (b := ((1 : Nat) : Int)) (r := (((st + r).toNat / 2 : Nat) : Int)) rfl rfl (by decide) (shr_nat _ _ (by decide)) ?_)
        refine O_v rfl (R_conv_int (a := (((st + r).toNat / 2 : Nat) : Int)) (r := (((st + r).toNat / 2 : Nat) : Int)) Try.underlying121 Try.underlying3 rfl (w64 _ (by omega)) ?_)
        refine O_v rfl (R_assign (v := (.int .i64 (((st + r).toNat / 2 : Nat) : Int))) rfl ?_)
        refine O_nil (Then_n (W_seq ?_))
        refine W_rgd TryMixed [(0, .q false), (1, .q false), (2, .q false), (3, .q false), (4, .q false), (5, .q false), (6, .q false), (7, .q false), (8, .q false), (9, .q false), (10, .q false), (11, .q false), (12, .q false), (13, .q false)] (by kernel_rfl) ?_
        refine Lx_q (i := 0) rfl rfl _ (fun v182 hv183 => R_move (v := (.func (.func kcmp) #[] ccmp)) rfl ⟨rfl, Gr.refl _ _⟩) ?_
        refine Lx_q (i := 1) rfl rfl _ (fun v184 hv185 => R_move (v := (slV hs s)) rfl ⟨rfl, Gr.refl _ _⟩) ?_
        refine Lx_q (i := 2) rfl rfl _ (fun v186 hv187 => R_move (v := (.int .i64 (((((a + b).toNat / 2 : Nat) : Int) + m) - 1))) rfl ⟨rfl, Gr.refl _ _⟩) ?_
        refine Lx_q (i := 3) rfl rfl _ (fun v188 hv189 => R_move (v := (.int .i64 (((st + r).toNat / 2 : Nat) : Int))) rfl ⟨rfl, Gr.refl _ _⟩) ?_
        refine Lx_q (i := 4) rfl rfl _ (fun v190 hv191 => R_arith (a := (((((a + b).toNat / 2 : Nat) : Int) + m) - 1)) (b := (((st + r).toNat / 2 : Nat) : Int)) (r0 := (((((a + b).toNat / 2 : Nat) : Int) + m) - 1) - (((st + r).toNat / 2 : Nat) : Int)) (r := (((((a + b).toNat / 2 : Nat) : Int) + m) - 1) - (((st + r).toNat / 2 : Nat) : Int)) rfl rfl rfl (w64 _ (by omega)) ⟨rfl, Gr.refl _ _⟩) ?_
        refine Lx_q (i := 5) rfl rfl _ (fun v192 hv193 => R_index_pure (OwnS.sl (H180.getOwn 0 rfl) (fun _ => rfl)) (n := s.length) rfl (j := ((((((a + b).toNat / 2 : Nat) : Int) + m) - 1) - (((st + r).toNat / 2 : Nat) : Int))) (oo := (hs.o + (((((((a + b).toNat / 2 : Nat) : Int) + m) - 1) - (((st + r).toNat / 2 : Nat) : Int)).toNat) * 8)) Try.underlying22 Try.sizeOf44 rfl rfl (by omega) (by omega) rfl ⟨rfl, Gr.refl _ _⟩) ?_
        refine Lx_q (i := 6) rfl rfl _ (fun v194 hv195 => R_loadA (cs := [[(.int .i64 (((nth s (((((((a + b).toNat / 2 : Nat) : Int) + m) - 1) - (((st + r).toNat / 2 : Nat) : Int)).toNat)).node).T))], [(.int .i64 (((nth s (((((((a + b).toNat / 2 : Nat) : Int) + m) - 1) - (((st + r).toNat / 2 : Nat) : Int)).toNat)).node).R))], [(.int .i64 (((nth s (((((((a + b).toNat / 2 : Nat) : Int) + m) - 1) - (((st + r).toNat / 2 : Nat) : Int)).toNat)).par).T))], [(.int .i64 (((nth s (((((((a + b).toNat / 2 : Nat) : Int) + m) - 1) - (((st + r).toNat / 2 : Nat) : Int)).toNat)).par).R))], [(.int .i64 (((nth s (((((((a + b).toNat / 2 : Nat) : Int) + m) - 1) - (((st + r).toNat / 2 : Nat) : Int)).toNat)).tm).T))], [(.int .i64 (((nth s (((((((a + b).toNat / 2 : Nat) : Int) + m) - 1) - (((st + r).toNat / 2 : Nat) : Int)).toNat)).tm).R))], [(.string ((nth s (((((((a + b).toNat / 2 : Nat) : Int) + m) - 1) - (((st + r).toNat / 2 : Nat) : Int)).toNat)).name))], [(slV ((nth s (((((((a + b).toNat / 2 : Nat) : Int) + m) - 1) - (((st + r).toNat / 2 : Nat) : Int)).toNat)).hh) ((nth s (((((((a + b).toNat / 2 : Nat) : Int) + m) - 1) - (((st + r).toNat / 2 : Nat) : Int)).toNat)).heads))]]) Try.isAgg44 Try.sizeOf44 rfl rfl ((Sl.elem (OwnS.sl ((H180.ext hv195).getOwn 0 rfl) (fun _ => rfl)) (i := ((((((a + b).toNat / 2 : Nat) : Int) + m) - 1) - (((st + r).toNat / 2 : Nat) : Int)).toNat) (by omega) rfl).chunks 0 8 0 (hs.o + (((((((a + b).toNat / 2 : Nat) : Int) + m) - 1) - (((st + r).toNat / 2 : Nat) : Int)).toNat) * 8) _ rfl rfl rfl) ⟨rfl, Gr.refl _ _⟩) ?_
        refine Lx_q (i := 7) rfl rfl _ (fun v196 hv197 => R_move (v := (slV hs s)) rfl ⟨rfl, Gr.refl _ _⟩) ?_
        refine Lx_q (i := 8) rfl rfl _ (fun v198 hv199 => R_move (v := (.int .i64 (((st + r).toNat / 2 : Nat) : Int))) rfl ⟨rfl, Gr.refl _ _⟩) ?_
        refine Lx_q (i := 9) rfl rfl _ (fun v200 hv201 => R_index_pure (OwnS.sl (H180.getOwn 0 rfl) (fun _ => rfl)) (n := s.length) rfl (j := (((st + r).toNat / 2 : Nat) : Int)) (oo := (hs.o + ((st + r).toNat / 2) * 8)) Try.underlying22 Try.sizeOf44 rfl rfl (by omega) (by omega) rfl ⟨rfl, Gr.refl _ _⟩) ?_
        refine Lx_q (i := 10) rfl rfl _ (fun v202 hv203 => R_loadA (cs := [[(.int .i64 (((nth s ((st + r).toNat / 2)).node).T))], [(.int .i64 (((nth s ((st + r).toNat / 2)).node).R))], [(.int .i64 (((nth s ((st + r).toNat / 2)).par).T))], [(.int .i64 (((nth s ((st + r).toNat / 2)).par).R))], [(.int .i64 (((nth s ((st + r).toNat / 2)).tm).T))], [(.int .i64 (((nth s ((st + r).toNat / 2)).tm).R))], [(.string ((nth s ((st + r).toNat / 2)).name))], [(slV ((nth s ((st + r).toNat / 2)).hh) ((nth s ((st + r).toNat / 2)).heads))]]) Try.isAgg44 Try.sizeOf44 rfl rfl ((Sl.elem (OwnS.sl ((H180.ext hv203).getOwn 0 rfl) (fun _ => rfl)) (i := ((st + r).toNat / 2)) (by omega) rfl).chunks 0 8 0 (hs.o + ((st + r).toNat / 2) * 8) _ rfl rfl rfl) ⟨rfl, Gr.refl _ _⟩) ?_
        refine Lx_q (i := 11) rfl rfl (.int .i64 (f (nth s (((((((a + b).toNat / 2 : Nat) : Int) + m) - 1) - (((st + r).toNat / 2 : Nat) : Int)).toNat)) (nth s ((st + r).toNat / 2)))) (fun v204 hv205 => R_callV (vs := [(aggOf (rowCh (nth s (((((((a + b).toNat / 2 : Nat) : Int) + m) - 1) - (((st + r).toNat / 2 : Nat) : Int)).toNat)))), (aggOf (rowCh (nth s ((st + r).toNat / 2))))]) Kcmp rfl rfl (Ccmp _ (nth_mem (by omega)) _ (nth_mem (by omega)) v204 (H180.ext hv205).gr)) ?_
        refine Lx_q (i := 12) rfl rfl _ (fun v206 hv207 => R_cmp (a := f (nth s (((((((a + b).toNat / 2 : Nat) : Int) + m) - 1) - (((st + r).toNat / 2 : Nat) : Int)).toNat)) (nth s ((st + r).toNat / 2))) (b := 0) (r := (decide (f (nth s (((((((a + b).toNat / 2 : Nat) : Int) + m) - 1) - (((st + r).toNat / 2 : Nat) : Int)).toNat)) (nth s ((st + r).toNat / 2)) < 0))) rfl rfl rfl ⟨rfl, Gr.refl _ _⟩) ?_
        refine Lx_q (i := 13) rfl rfl _ (fun v208 hv209 => R_not rfl ⟨rfl, Gr.refl _ _⟩) ?_
        refine Lx_nil (fun w210 hw211 => ?_)
        have H212 := H180.ext hw211
        refine Then_n ?_
        refine W_cond (t := (!(decide (f (nth s (((((((a + b).toNat / 2 : Nat) : Int) + m) - 1) - (((st + r).toNat / 2 : Nat) : Int)).toNat)) (nth s ((st + r).toNat / 2)) < 0)))) rfl (fun hc213 => ?_) (fun hc213 => ?_)
        ·have hc213 : ¬ (f (nth s (((((((a + b).toNat / 2 : Nat) : Int) + m) - 1) - (((st + r).toNat / 2 : Nat) : Int)).toNat)) (nth s ((st + r).toNat / 2)) < 0) := (of_decide_eq_false (notT hc213))
         refine W_reg ?_
         refine O_v rfl (R_move (v := (.int .i64 (((st + r).toNat / 2 : Nat) : Int))) rfl ?_)
         refine O_v rfl (R_arith (a := (((st + r).toNat / 2 : Nat) : Int)) (b := 1) (r0 := (((st + r).toNat / 2 : Nat) : Int) + 1) (r := ((((st + r).toNat / 2) + 1 : Nat) : Int)) rfl rfl rfl (wrapN _ (by omega)) ?_)
         refine O_v rfl (R_assign (v := (.int .i64 ((((st + r).toNat / 2) + 1 : Nat) : Int))) rfl ?_)
         refine O_nil (Blk_n (Then_n ?_))
         refine ⟨_, ?_, ((((st + r).toNat / 2) + 1 : Nat) : Int), r, rfl, (by omega), _, envL_self ⟨rfl, rfl, rfl, rfl, rfl, rfl, rfl, rfl, rfl, rfl, trivial⟩, H212⟩
         omega
        ·have hc213 : (f (nth s (((((((a + b).toNat / 2 : Nat) : Int) + m) - 1) - (((st + r).toNat / 2 : Nat) : Int)).toNat)) (nth s ((st + r).toNat / 2)) < 0) := (of_decide_eq_true (notF hc213))
         refine W_reg ?_
         refine O_v rfl (R_move (v := (.int .i64 (((st + r).toNat / 2 : Nat) : Int))) rfl ?_)
         refine O_v rfl (R_assign (v := (.int .i64 (((st + r).toNat / 2 : Nat) : Int))) rfl ?_)
         refine O_nil (Blk_n (Then_n ?_))
         refine ⟨_, ?_, st, (((st + r).toNat / 2 : Nat) : Int), rfl, (by omega), _, envL_self ⟨rfl, rfl, rfl, rfl, rfl, rfl, rfl, rfl, rfl, rfl, trivial⟩, H212⟩
         omega
       ·have hc181 : ¬ (st < r) := (of_decide_eq_false hc181)
        refine W_exit (Then_x (Then_x (Blk_x (Then_n (W_seq (W_reg ?_))))))
        refine O_v rfl (R_move (v := (.int .i64 ((((a + b).toNat / 2 : Nat) : Int) + m))) rfl ?_)
        refine O_v rfl (R_move (v := (.int .i64 st)) rfl ?_)
        refine O_v rfl (R_arith (a := ((((a + b).toNat / 2 : Nat) : Int) + m)) (b := st) (r0 := ((((a + b).toNat / 2 : Nat) : Int) + m) - st) (r := ((((a + b).toNat / 2 : Nat) : Int) + m) - st) rfl rfl rfl (w64 _ (by omega)) ?_)
        refine O_v rfl (R_assign (v := (.int .i64 (((((a + b).toNat / 2 : Nat) : Int) + m) - st))) rfl ?_)
        refine O_nil (Then_n (W_seq (W_seq ?_)))
        refine W_rg [(0, .q false), (1, .q false), (2, .q false), (3, .q false), (4, .q false), (5, .q false), (6, .q false), (7, .q false)] (by kernel_rfl) ?_
        refine Lx_q (i := 0) rfl rfl _ (fun v214 hv215 => R_move (v := (.int .i64 st)) rfl ⟨rfl, Gr.refl _ _⟩) ?_
        refine Lx_q (i := 1) rfl rfl _ (fun v216 hv217 => R_move (v := (.int .i64 m)) rfl ⟨rfl, Gr.refl _ _⟩) ?_
        refine Lx_q (i := 2) rfl rfl _ (fun v218 hv219 => R_cmp (a := st) (b := m) (r := (decide (st < m))) rfl rfl rfl ⟨rfl, Gr.refl _ _⟩) ?_
        refine Lx_q (i := 3) rfl rfl _ (fun v220 hv221 => R_move (v := (.bool (decide (st < m)))) rfl ⟨rfl, Gr.refl _ _⟩) ?_
        refine Lx_qg (i := 4) true (decide (st < m)) rfl rfl rfl rfl rfl (decide (st < m)) ga_t _ (fun hA v222 hv223 => R_move (v := (.int .i64 m)) rfl ⟨rfl, Gr.refl _ _⟩) ?_
        refine Lx_qg (i := 5) true (decide (st < m)) rfl rfl rfl rfl rfl (decide (st < m)) ga_t _ (fun hA v224 hv225 => R_move (v := (.int .i64 (((((a + b).toNat / 2 : Nat) : Int) + m) - st))) rfl ⟨rfl, Gr.refl _ _⟩) ?_
        refine Lx_qg (i := 6) true (decide (st < m)) rfl rfl rfl rfl rfl (decide (st < m)) ga_t _ (fun hA v226 hv227 => R_cmp (a := m) (b := (((((a + b).toNat / 2 : Nat) : Int) + m) - st)) (r := (decide (m < (((((a + b).toNat / 2 : Nat) : Int) + m) - st)))) (gv_t hA) (gv_t hA) rfl ⟨rfl, Gr.refl _ _⟩) ?_
        refine Lx_q (i := 7) rfl rfl _ (fun v228 hv229 => R_pick (t := (decide (st < m))) (v := (.bool ((decide (st < m)) && (decide (m < (((((a + b).toNat / 2 : Nat) : Int) + m) - st)))))) rfl pk_and ⟨rfl, Gr.refl _ _⟩) ?_
        refine Lx_nil (fun w230 hw231 => ?_)
        have H232 := H180.ext hw231
        refine Then_n ?_
        refine W_cond (t := ((decide (st < m)) && (decide (m < (((((a + b).toNat / 2 : Nat) : Int) + m) - st))))) rfl (fun hc233 => ?_) (fun hc233 => ?_)
        ·have hc233 : ((st < m) ∧ (m < (((((a + b).toNat / 2 : Nat) : Int) + m) - st))) := (And.imp (fun h => (of_decide_eq_true h)) (fun h => (of_decide_eq_true h)) (andT hc233))
         refine W_reg ?_
         refine O_v rfl (R_move (v := (slV hs s)) rfl ?_)
         refine O_v rfl (R_move (v := (.int .i64 st)) rfl ?_)
         refine O_v rfl (R_move (v := (.int .i64 m)) rfl ?_)
         refine O_v rfl (R_move (v := (.int .i64 (((((a + b).toNat / 2 : Nat) : Int) + m) - st))) rfl ?_)
         refine O_v rfl (R_move (v := (.func (.func kcmp) #[] ccmp)) rfl ?_)
         refine O_v rfl (R_callL (vs := [(slV hs s), (.int .i64 st), (.int .i64 m), (.int .i64 (((((a + b).toNat / 2 : Nat) : Int) + m) - st)), (.func (.func kcmp) #[] ccmp)]) symMerge_Row_c83 rfl rfl ((rotate_Row hs s st m (((((a + b).toNat / 2 : Nat) : Int) + m) - st) kcmp ccmp f w230 (H232.getOwn 0 rfl) Kcmp (fun x hx y hy w1 he => Ccmp x hx y hy w1 (H232.gr.trans (he.mono (fun b hb => own_slV.trans hb)))) (by omega) (by omega) (by omega) (by omega) (by omega)).ret ?_))
         rintro _ w234 ⟨s238, rfl, hg235, ho236, hr239⟩
         have H237 := H232.updRow 0 rfl hg235 ho236
         have hr239l := (hr239).length_eq
         refine O_nil (Then_n (W_seq (W_seq ?_)))
         refine W_rg [(0, .q false), (1, .q false), (2, .q false), (3, .q false), (4, .q false), (5, .q false), (6, .q false), (7, .q false)] (by kernel_rfl) ?_
         refine Lx_q (i := 0) rfl rfl _ (fun v240 hv241 => R_move (v := (.int .i64 a)) rfl ⟨rfl, Gr.refl _ _⟩) ?_
         refine Lx_q (i := 1) rfl rfl _ (fun v242 hv243 => R_move (v := (.int .i64 st)) rfl ⟨rfl, Gr.refl _ _⟩) ?_
         refine Lx_q (i := 2) rfl rfl _ (fun v244 hv245 => R_cmp (a := a) (b := st) (r := (decide (a < st))) rfl rfl rfl ⟨rfl, Gr.refl _ _⟩) ?_
         refine Lx_q (i := 3) rfl rfl _ (fun v246 hv247 => R_move (v := (.bool (decide (a < st)))) rfl ⟨rfl, Gr.refl _ _⟩) ?_
         refine Lx_qg (i := 4) true (decide (a < st)) rfl rfl rfl rfl rfl (decide (a < st)) ga_t _ (fun hA v248 hv249 => R_move (v := (.int .i64 st)) rfl ⟨rfl, Gr.refl _ _⟩) ?_
         refine Lx_qg (i := 5) true (decide (a < st)) rfl rfl rfl rfl rfl (decide (a < st)) ga_t _ (fun hA v250 hv251 => R_move (v := (.int .i64 (((a + b).toNat / 2 : Nat) : Int))) rfl ⟨rfl, Gr.refl _ _⟩) ?_
         refine Lx_qg (i := 6) true (decide (a < st)) rfl rfl rfl rfl rfl (decide (a < st)) ga_t _ (fun hA v252 hv253 => R_cmp (a := st) (b := (((a + b).toNat / 2 : Nat) : Int)) (r := (decide (st < (((a + b).toNat / 2 : Nat) : Int)))) (gv_t hA) (gv_t hA) rfl ⟨rfl, Gr.refl _ _⟩) ?_
         refine Lx_q (i := 7) rfl rfl _ (fun v254 hv255 => R_pick (t := (decide (a < st))) (v := (.bool ((decide (a < st)) && (decide (st < (((a + b).toNat / 2 : Nat) : Int)))))) rfl pk_and ⟨rfl, Gr.refl _ _⟩) ?_
         refine Lx_nil (fun w256 hw257 => ?_)
         have H258 := H237.ext hw257
         refine Then_n ?_
         refine W_cond (t := ((decide (a < st)) && (decide (st < (((a + b).toNat / 2 : Nat) : Int))))) rfl (fun hc259 => ?_) (fun hc259 => ?_)
         ·have hc259 : ((a < st) ∧ (st < (((a + b).toNat / 2 : Nat) : Int))) := (And.imp (fun h => (of_decide_eq_true h)) (fun h => (of_decide_eq_true h)) (andT hc259))
          refine W_reg ?_
          refine O_v rfl (R_move (v := (slV hs s)) rfl ?_)
          refine O_v rfl (R_move (v := (.int .i64 a)) rfl ?_)
          refine O_v rfl (R_move (v := (.int .i64 st)) rfl ?_)
          refine O_v rfl (R_move (v := (.int .i64 (((a + b).toNat / 2 : Nat) : Int))) rfl ?_)
          refine O_v rfl (R_move (v := (.func (.func kcmp) #[] ccmp)) rfl ?_)
          refine O_v rfl (R_callL (vs := [(slV hs s238), (.int .i64 a), (.int .i64 st), (.int .i64 (((a + b).toNat / 2 : Nat) : Int)), (.func (.func kcmp) #[] ccmp)]) symMerge_Row_c74 rfl (lst5 (slV_len (l := s) (l' := s238) (by omega)) rfl rfl rfl rfl) ((IH hs s238 a st (((a + b).toNat / 2 : Nat) : Int) kcmp ccmp f w256 (H258.getOwn 0 rfl) Kcmp (fun x hx y hy w1 he => Ccmp x (hr239.mem_iff.1 hx) y (hr239.mem_iff.1 hy) w1 (H258.gr.trans (he.mono (fun b hb => own_slV.trans hb)))) (by omega) (by omega) (by omega) (by omega) (by omega) (by omega)).ret ?_))
          rintro _ w260 ⟨s264, rfl, hg261, ho262, hr265⟩
          have H263 := H258.updRow 0 rfl hg261 ho262
          have hr265l := (hr265).length_eq
          refine O_nil (Then_n (W_seq ?_))
          refine W_rg [(0, .q false), (1, .q false), (2, .q false), (3, .q false), (4, .q false), (5, .q false), (6, .q false), (7, .q false)] (by kernel_rfl) ?_
          refine Lx_q (i := 0) rfl rfl _ (fun v266 hv267 => R_move (v := (.int .i64 (((a + b).toNat / 2 : Nat) : Int))) rfl ⟨rfl, Gr.refl _ _⟩) ?_
          refine Lx_q (i := 1) rfl rfl _ (fun v268 hv269 => R_move (v := (.int .i64 (((((a + b).toNat / 2 : Nat) : Int) + m) - st))) rfl ⟨rfl, Gr.refl _ _⟩) ?_
          refine Lx_q (i := 2) rfl rfl _ (fun v270 hv271 => R_cmp (a := (((a + b).toNat / 2 : Nat) : Int)) (b := (((((a + b).toNat / 2 : Nat) : Int) + m) - st)) (r := (decide ((((a + b).toNat / 2 : Nat) : Int) < (((((a + b).toNat / 2 : Nat) : Int) + m) - st)))) rfl rfl rfl ⟨rfl, Gr.refl _ _⟩) ?_
          refine Lx_q (i := 3) rfl rfl _ (fun v272 hv273 => R_move (v := (.bool (decide ((((a + b).toNat / 2 : Nat) : Int) < (((((a + b).toNat / 2 : Nat) : Int) + m) - st))))) rfl ⟨rfl, Gr.refl _ _⟩) ?_
          refine Lx_qg (i := 4) true (decide ((((a + b).toNat / 2 : Nat) : Int) < (((((a + b).toNat / 2 : Nat) : Int) + m) - st))) rfl rfl rfl rfl rfl (decide ((((a + b).toNat / 2 : Nat) : Int) < (((((a + b).toNat / 2 : Nat) : Int) + m) - st))) ga_t _ (fun hA v274 hv275 => R_move (v := (.int .i64 (((((a + b).toNat / 2 : Nat) : Int) + m) - st))) rfl ⟨rfl, Gr.refl _ _⟩) ?_
          refine Lx_qg (i := 5) true (decide ((((a + b).toNat / 2 : Nat) : Int) < (((((a + b).toNat / 2 : Nat) : Int) + m) - st))) rfl rfl rfl rfl rfl (decide ((((a + b).toNat / 2 : Nat) : Int) < (((((a + b).toNat / 2 : Nat) : Int) + m) - st))) ga_t _ (fun hA v276 hv277 => R_move (v := (.int .i64 b)) rfl ⟨rfl, Gr.refl _ _⟩) ?_
          refine Lx_qg (i := 6) true (decide ((((a + b).toNat / 2 : Nat) : Int) < (((((a + b).toNat / 2 : Nat) : Int) + m) - st))) rfl rfl rfl rfl rfl (decide ((((a + b).toNat / 2 : Nat) : Int) < (((((a + b).toNat / 2 : Nat) : Int) + m) - st))) ga_t _ (fun hA v278 hv279 => R_cmp (a := (((((a + b).toNat / 2 : Nat) : Int) + m) - st)) (b := b) (r := (decide ((((((a + b).toNat / 2 : Nat) : Int) + m) - st) < b))) (gv_t hA) (gv_t hA) rfl ⟨rfl, Gr.refl _ _⟩) ?_
          refine Lx_q (i := 7) rfl rfl _ (fun v280 hv281 => R_pick (t := (decide ((((a + b).toNat / 2 : Nat) : Int) < (((((a + b).toNat / 2 : Nat) : Int) + m) - st)))) (v := (.bool ((decide ((((a + b).toNat / 2 : Nat) : Int) < (((((a + b).toNat / 2 : Nat) : Int) + m) - st))) && (decide ((((((a + b).toNat / 2 : Nat) : Int) + m) - st) < b))))) rfl pk_and ⟨rfl, Gr.refl _ _⟩) ?_
          refine Lx_nil (fun w282 hw283 => ?_)
          have H284 := H263.ext hw283
          refine Then_n ?_
          refine W_cond (t := ((decide ((((a + b).toNat / 2 : Nat) : Int) < (((((a + b).toNat / 2 : Nat) : Int) + m) - st))) && (decide ((((((a + b).toNat / 2 : Nat) : Int) + m) - st) < b)))) rfl (fun hc285 => ?_) (fun hc285 => ?_)
          ·have hc285 : (((((a + b).toNat / 2 : Nat) : Int) < (((((a + b).toNat / 2 : Nat) : Int) + m) - st)) ∧ ((((((a + b).toNat / 2 : Nat) : Int) + m) - st) < b)) := (And.imp (fun h => (of_decide_eq_true h)) (fun h => (of_decide_eq_true h)) (andT hc285))
           refine W_reg ?_
           refine O_v rfl (R_move (v := (slV hs s)) rfl ?_)
           refine O_v rfl (R_move (v := (.int .i64 (((a + b).toNat / 2 : Nat) : Int))) rfl ?_)
           refine O_v rfl (R_move (v := (.int .i64 (((((a + b).toNat / 2 : Nat) : Int) + m) - st))) rfl ?_)
           refine O_v rfl (R_move (v := (.int .i64 b)) rfl ?_)
           refine O_v rfl (R_move (v := (.func (.func kcmp) #[] ccmp)) rfl ?_)
           refine O_v rfl (R_callL (vs := [(slV hs s264), (.int .i64 (((a + b).toNat / 2 : Nat) : Int)), (.int .i64 (((((a + b).toNat / 2 : Nat) : Int) + m) - st)), (.int .i64 b), (.func (.func kcmp) #[] ccmp)]) symMerge_Row_c74 rfl (lst5 (slV_len (l := s) (l' := s264) (by omega)) rfl rfl rfl rfl) ((IH hs s264 (((a + b).toNat / 2 : Nat) : Int) (((((a + b).toNat / 2 : Nat) : Int) + m) - st) b kcmp ccmp f w282 (H284.getOwn 0 rfl) Kcmp (fun x hx y hy w1 he => Ccmp x ((hr265.trans hr239).mem_iff.1 hx) y ((hr265.trans hr239).mem_iff.1 hy) w1 (H284.gr.trans (he.mono (fun b hb => own_slV.trans hb)))) (by omega) (by omega) (by omega) (by omega) (by omega) (by omega)).ret ?_))
           rintro _ w286 ⟨s290, rfl, hg287, ho288, hr291⟩
           have H289 := H284.updRow 0 rfl hg287 ho288
           have hr291l := (hr291).length_eq
           refine O_nil (ret_n ?_)
           exact ret_0 Try.results74 ⟨_, rfl, H289.gr, H289.getOwn 0 rfl, (hr291.trans (hr265.trans hr239))⟩
          ·have hc285 : (¬ ((((a + b).toNat / 2 : Nat) : Int) < (((((a + b).toNat / 2 : Nat) : Int) + m) - st)) ∨ ¬ ((((((a + b).toNat / 2 : Nat) : Int) + m) - st) < b)) := (Or.imp (fun h => (of_decide_eq_false h)) (fun h => (of_decide_eq_false h)) (andF hc285))
           refine W_skip (ret_n ?_)
           exact ret_0 Try.results74 ⟨_, rfl, H284.gr, H284.getOwn 0 rfl, (hr265.trans hr239)⟩
         ·have hc259 : (¬ (a < st) ∨ ¬ (st < (((a + b).toNat / 2 : Nat) : Int))) := (Or.imp (fun h => (of_decide_eq_false h)) (fun h => (of_decide_eq_false h)) (andF hc259))
          refine W_skip (Then_n (W_seq ?_))
          refine W_rg [(0, .q false), (1, .q false), (2, .q false), (3, .q false), (4, .q false), (5, .q false), (6, .q false), (7, .q false)] (by kernel_rfl) ?_
          refine Lx_q (i := 0) rfl rfl _ (fun v292 hv293 => R_move (v := (.int .i64 (((a + b).toNat / 2 : Nat) : Int))) rfl ⟨rfl, Gr.refl _ _⟩) ?_
          refine Lx_q (i := 1) rfl rfl _ (fun v294 hv295 => R_move (v := (.int .i64 (((((a + b).toNat / 2 : Nat) : Int) + m) - st))) rfl ⟨rfl, Gr.refl _ _⟩) ?_
          refine Lx_q (i := 2) rfl rfl _ (fun v296 hv297 => R_cmp (a := (((a + b).toNat / 2 : Nat) : Int)) (b := (((((a + b).toNat / 2 : Nat) : Int) + m) - st)) (r := (decide ((((a + b).toNat / 2 : Nat) : Int) < (((((a + b).toNat / 2 : Nat) : Int) + m) - st)))) rfl rfl rfl ⟨rfl, Gr.refl _ _⟩) ?_
          refine Lx_q (i := 3) rfl rfl _ (fun v298 hv299 => R_move (v := (.bool (decide ((((a + b).toNat / 2 : Nat) : Int) < (((((a + b).toNat / 2 : Nat) : Int) + m) - st))))) rfl ⟨rfl, Gr.refl _ _⟩) ?_
          refine Lx_qg (i := 4) true (decide ((((a + b).toNat / 2 : Nat) : Int) < (((((a + b).toNat / 2 : Nat) : Int) + m) - st))) rfl rfl rfl rfl rfl (decide ((((a + b).toNat / 2 : Nat) : Int) < (((((a + b).toNat / 2 : Nat) : Int) + m) - st))) ga_t _ (fun hA v300 hv301 => R_move (v := (.int .i64 (((((a + b).toNat / 2 : Nat) : Int) + m) - st))) rfl ⟨rfl, Gr.refl _ _⟩) ?_
          refine Lx_qg (i := 5) true (decide ((((a + b).toNat / 2 : Nat) : Int) < (((((a + b).toNat / 2 : Nat) : Int) + m) - st))) rfl rfl rfl rfl rfl (decide ((((a + b).toNat / 2 : Nat) : Int) < (((((a + b).toNat / 2 : Nat) : Int) + m) - st))) ga_t _ (fun hA v302 hv303 => R_move (v := (.int .i64 b)) rfl ⟨rfl, Gr.refl _ _⟩) ?_
          refine Lx_qg (i := 6) true (decide ((((a + b).toNat / 2 : Nat) : Int) < (((((a + b).toNat / 2 : Nat) : Int) + m) - st))) rfl rfl rfl rfl rfl (decide ((((a + b).toNat / 2 : Nat) : Int) < (((((a + b).toNat / 2 : Nat) : Int) + m) - st))) ga_t _ (fun hA v304 hv305 => R_cmp (a := (((((a + b).toNat / 2 : Nat) : Int) + m) - st)) (b := b) (r := (decide ((((((a + b).toNat / 2 : Nat) : Int) + m) - st) < b))) (gv_t hA) (gv_t hA) rfl ⟨rfl, Gr.refl _ _⟩) ?_
          refine Lx_q (i := 7) rfl rfl _ (fun v306 hv307 => R_pick (t := (decide ((((a + b).toNat / 2 : Nat) : Int) < (((((a + b).toNat / 2 : Nat) : Int) + m) - st)))) (v := (.bool ((decide ((((a + b).toNat / 2 : Nat) : Int) < (((((a + b).toNat / 2 : Nat) : Int) + m) - st))) && (decide ((((((a + b).toNat / 2 : Nat) : Int) + m) - st) < b))))) rfl pk_and ⟨rfl, Gr.refl _ _⟩) ?_
          refine Lx_nil (fun w308 hw309 => ?_)
          have H310 := H258.ext hw309
          refine Then_n ?_
          refine W_cond (t := ((decide ((((a + b).toNat / 2 : Nat) : Int) < (((((a + b).toNat / 2 : Nat) : Int) + m) - st))) && (decide ((((((a + b).toNat / 2 : Nat) : Int) + m) - st) < b)))) rfl (fun hc311 => ?_) (fun hc311 => ?_)
          ·have hc311 : (((((a + b).toNat / 2 : Nat) : Int) < (((((a + b).toNat / 2 : Nat) : Int) + m) - st)) ∧ ((((((a + b).toNat / 2 : Nat) : Int) + m) - st) < b)) := (And.imp (fun h => (of_decide_eq_true h)) (fun h => (of_decide_eq_true h)) (andT hc311))
           refine W_reg ?_
           refine O_v rfl (R_move (v := (slV hs s)) rfl ?_)
           refine O_v rfl (R_move (v := (.int .i64 (((a + b).toNat / 2 : Nat) : Int))) rfl ?_)
           refine O_v rfl (R_move (v := (.int .i64 (((((a + b).toNat / 2 : Nat) : Int) + m) - st))) rfl ?_)
           refine O_v rfl (R_move (v := (.int .i64 b)) rfl ?_)
           refine O_v rfl (R_move (v := (.func (.func kcmp) #[] ccmp)) rfl ?_)
           refine O_v rfl (R_callL (vs := [(slV hs s238), (.int .i64 (((a + b).toNat / 2 : Nat) : Int)), (.int .i64 (((((a + b).toNat / 2 : Nat) : Int) + m) - st)), (.int .i64 b), (.func (.func kcmp) #[] ccmp)]) symMerge_Row_c74 rfl (lst5 (slV_len (l := s) (l' := s238) (by omega)) rfl rfl rfl rfl) ((IH hs s238 (((a + b).toNat / 2 : Nat) : Int) (((((a + b).toNat / 2 : Nat) : Int) + m) - st) b kcmp ccmp f w308 (H310.getOwn 0 rfl) Kcmp (fun x hx y hy w1 he => Ccmp x (hr239.mem_iff.1 hx) y (hr239.mem_iff.1 hy) w1 (H310.gr.trans (he.mono (fun b hb => own_slV.trans hb)))) (by omega) (by omega) (by omega) (by omega) (by omega) (by omega)).ret ?_))
           rintro _ w312 ⟨s316, rfl, hg313, ho314, hr317⟩
           have H315 := H310.updRow 0 rfl hg313 ho314
           have hr317l := (hr317).length_eq
           refine O_nil (ret_n ?_)
           exact ret_0 Try.results74 ⟨_, rfl, H315.gr, H315.getOwn 0 rfl, (hr317.trans hr239)⟩
          ·have hc311 : (¬ ((((a + b).toNat / 2 : Nat) : Int) < (((((a + b).toNat / 2 : Nat) : Int) + m) - st)) ∨ ¬ ((((((a + b).toNat / 2 : Nat) : Int) + m) - st) < b)) := (Or.imp (fun h => (of_decide_eq_false h)) (fun h => (of_decide_eq_false h)) (andF hc311))
           refine W_skip (ret_n ?_)
           exact ret_0 Try.results74 ⟨_, rfl, H310.gr, H310.getOwn 0 rfl, hr239⟩
        ·have hc233 : (¬ (st < m) ∨ ¬ (m < (((((a + b).toNat / 2 : Nat) : Int) + m) - st))) := (Or.imp (fun h => (of_decide_eq_false h)) (fun h => (of_decide_eq_false h)) (andF hc233))
         refine W_skip (Then_n (W_seq (W_seq ?_)))
         refine W_rg [(0, .q false), (1, .q false), (2, .q false), (3, .q false), (4, .q false), (5, .q false), (6, .q false), (7, .q false)] (by kernel_rfl) ?_
         refine Lx_q (i := 0) rfl rfl _ (fun v318 hv319 => R_move (v := (.int .i64 a)) rfl ⟨rfl, Gr.refl _ _⟩) ?_
         refine Lx_q (i := 1) rfl rfl _ (fun v320 hv321 => R_move (v := (.int .i64 st)) rfl ⟨rfl, Gr.refl _ _⟩) ?_
         refine Lx_q (i := 2) rfl rfl _ (fun v322 hv323 => R_cmp (a := a) (b := st) (r := (decide (a < st))) rfl rfl rfl ⟨rfl, Gr.refl _ _⟩) ?_
         refine Lx_q (i := 3) rfl rfl _ (fun v324 hv325 => R_move (v := (.bool (decide (a < st)))) rfl ⟨rfl, Gr.refl _ _⟩) ?_
         refine Lx_qg (i := 4) true (decide (a < st)) rfl rfl rfl rfl rfl (decide (a < st)) ga_t _ (fun hA v326 hv327 => R_move (v := (.int .i64 st)) rfl ⟨rfl, Gr.refl _ _⟩) ?_
         refine Lx_qg (i := 5) true (decide (a < st)) rfl rfl rfl rfl rfl (decide (a < st)) ga_t _ (fun hA v328 hv329 => R_move (v := (.int .i64 (((a + b).toNat / 2 : Nat) : Int))) rfl ⟨rfl, Gr.refl _ _⟩) ?_
         refine Lx_qg (i := 6) true (decide (a < st)) rfl rfl rfl rfl rfl (decide (a < st)) ga_t _ (fun hA v330 hv331 => R_cmp (a := st) (b := (((a + b).toNat / 2 : Nat) : Int)) (r := (decide (st < (((a + b).toNat / 2 : Nat) : Int)))) (gv_t hA) (gv_t hA) rfl ⟨rfl, Gr.refl _ _⟩) ?_
         refine Lx_q (i := 7) rfl rfl _ (fun v332 hv333 => R_pick (t := (decide (a < st))) (v := (.bool ((decide (a < st)) && (decide (st < (((a + b).toNat / 2 : Nat) : Int)))))) rfl pk_and ⟨rfl, Gr.refl _ _⟩) ?_
         refine Lx_nil (fun w334 hw335 => ?_)
         have H336 := H232.ext hw335
         refine Then_n ?_
         refine W_cond (t := ((decide (a < st)) && (decide (st < (((a + b).toNat / 2 : Nat) : Int))))) rfl (fun hc337 => ?_) (fun hc337 => ?_)
         ·have hc337 : ((a < st) ∧ (st < (((a + b).toNat / 2 : Nat) : Int))) := (And.imp (fun h => (of_decide_eq_true h)) (fun h => (of_decide_eq_true h)) (andT hc337))
          refine W_reg ?_
          refine O_v rfl (R_move (v := (slV hs s)) rfl ?_)
          refine O_v rfl (R_move (v := (.int .i64 a)) rfl ?_)
          refine O_v rfl (R_move (v := (.int .i64 st)) rfl ?_)
          refine O_v rfl (R_move (v := (.int .i64 (((a + b).toNat / 2 : Nat) : Int))) rfl ?_)
          refine O_v rfl (R_move (v := (.func (.func kcmp) #[] ccmp)) rfl ?_)
          refine O_v rfl (R_callL (vs := [(slV hs s), (.int .i64 a), (.int .i64 st), (.int .i64 (((a + b).toNat / 2 : Nat) : Int)), (.func (.func kcmp) #[] ccmp)]) symMerge_Row_c74 rfl rfl ((IH hs s a st (((a + b).toNat / 2 : Nat) : Int) kcmp ccmp f w334 (H336.getOwn 0 rfl) Kcmp (fun x hx y hy w1 he => Ccmp x ((List.Perm.refl _).mem_iff.1 hx) y ((List.Perm.refl _).mem_iff.1 hy) w1 (H336.gr.trans (he.mono (fun b hb => own_slV.trans hb)))) (by omega) (by omega) (by omega) (by omega) (by omega) (by omega)).ret ?_))
          rintro _ w338 ⟨s342, rfl, hg339, ho340, hr343⟩
          have H341 := H336.updRow 0 rfl hg339 ho340
          have hr343l := (hr343).length_eq
          refine O_nil (Then_n (W_seq ?_))
          refine W_rg [(0, .q false), (1, .q false), (2, .q false), (3, .q false), (4, .q false), (5, .q false), (6, .q false), (7, .q false)] (by kernel_rfl) ?_
          refine Lx_q (i := 0) rfl rfl _ (fun v344 hv345 => R_move (v := (.int .i64 (((a + b).toNat / 2 : Nat) : Int))) rfl ⟨rfl, Gr.refl _ _⟩) ?_
          refine Lx_q (i := 1) rfl rfl _ (fun v346 hv347 => R_move (v := (.int .i64 (((((a + b).toNat / 2 : Nat) : Int) + m) - st))) rfl ⟨rfl, Gr.refl _ _⟩) ?_
          refine Lx_q (i := 2) rfl rfl _ (fun v348 hv349 => R_cmp (a := (((a + b).toNat / 2 : Nat) : Int)) (b := (((((a + b).toNat / 2 : Nat) : Int) + m) - st)) (r := (decide ((((a + b).toNat / 2 : Nat) : Int) < (((((a + b).toNat / 2 : Nat) : Int) + m) - st)))) rfl rfl rfl ⟨rfl, Gr.refl _ _⟩) ?_
          refine Lx_q (i := 3) rfl rfl _ (fun v350 hv351 => R_move (v := (.bool (decide ((((a + b).toNat / 2 : Nat) : Int) < (((((a + b).toNat / 2 : Nat) : Int) + m) - st))))) rfl ⟨rfl, Gr.refl _ _⟩) ?_
          refine Lx_qg (i := 4) true (decide ((((a + b).toNat / 2 : Nat) : Int) < (((((a + b).toNat / 2 : Nat) : Int) + m) - st))) rfl rfl rfl rfl rfl (decide ((((a + b).toNat / 2 : Nat) : Int) < (((((a + b).toNat / 2 : Nat) : Int) + m) - st))) ga_t _ (fun hA v352 hv353 => R_move (v := (.int .i64 (((((a + b).toNat / 2 : Nat) : Int) + m) - st))) rfl ⟨rfl, Gr.refl _ _⟩) ?_
          refine Lx_qg (i := 5) true (decide ((((a + b).toNat / 2 : Nat) : Int) < (((((a + b).toNat / 2 : Nat) : Int) + m) - st))) rfl rfl rfl rfl rfl (decide ((((a + b).toNat / 2 : Nat) : Int) < (((((a + b).toNat / 2 : Nat) : Int) + m) - st))) ga_t _ (fun hA v354 hv355 => R_move (v := (.int .i64 b)) rfl ⟨rfl, Gr.refl _ _⟩) ?_
          refine Lx_qg (i := 6) true (decide ((((a + b).toNat / 2 : Nat) : Int) < (((((a + b).toNat / 2 : Nat) : Int) + m) - st))) rfl rfl rfl rfl rfl (decide ((((a + b).toNat / 2 : Nat) : Int) < (((((a + b).toNat / 2 : Nat) : Int) + m) - st))) ga_t _ (fun hA v356 hv357 => R_cmp (a := (((((a + b).toNat / 2 : Nat) : Int) + m) - st)) (b := b) (r := (decide ((((((a + b).toNat / 2 : Nat) : Int) + m) - st) < b))) (gv_t hA) (gv_t hA) rfl ⟨rfl, Gr.refl _ _⟩) ?_
          refine Lx_q (i := 7) rfl rfl _ (fun v358 hv359 => R_pick (t := (decide ((((a + b).toNat / 2 : Nat) : Int) < (((((a + b).toNat / 2 : Nat) : Int) + m) - st)))) (v := (.bool ((decide ((((a + b).toNat / 2 : Nat) : Int) < (((((a + b).toNat / 2 : Nat) : Int) + m) - st))) && (decide ((((((a + b).toNat / 2 : Nat) : Int) + m) - st) < b))))) rfl pk_and ⟨rfl, Gr.refl _ _⟩) ?_
          refine Lx_nil (fun w360 hw361 => ?_)
          have H362 := H341.ext hw361
          refine Then_n ?_
          refine W_cond (t := ((decide ((((a + b).toNat / 2 : Nat) : Int) < (((((a + b).toNat / 2 : Nat) : Int) + m) - st))) && (decide ((((((a + b).toNat / 2 : Nat) : Int) + m) - st) < b)))) rfl (fun hc363 => ?_) (fun hc363 => ?_)
          ·have hc363 : (((((a + b).toNat / 2 : Nat) : Int) < (((((a + b).toNat / 2 : Nat) : Int) + m) - st)) ∧ ((((((a + b).toNat / 2 : Nat) : Int) + m) - st) < b)) := (And.imp (fun h => (of_decide_eq_true h)) (fun h => (of_decide_eq_true h)) (andT hc363))
           refine W_reg ?_
           refine O_v rfl (R_move (v := (slV hs s)) rfl ?_)
           refine O_v rfl (R_move (v := (.int .i64 (((a + b).toNat / 2 : Nat) : Int))) rfl ?_)
           refine O_v rfl (R_move (v := (.int .i64 (((((a + b).toNat / 2 : Nat) : Int) + m) - st))) rfl ?_)
           refine O_v rfl (R_move (v := (.int .i64 b)) rfl ?_)
           refine O_v rfl (R_move (v := (.func (.func kcmp) #[] ccmp)) rfl ?_)
           refine O_v rfl (R_callL (vs := [(slV hs s342), (.int .i64 (((a + b).toNat / 2 : Nat) : Int)), (.int .i64 (((((a + b).toNat / 2 : Nat) : Int) + m) - st)), (.int .i64 b), (.func (.func kcmp) #[] ccmp)]) symMerge_Row_c74 rfl (lst5 (slV_len (l := s) (l' := s342) (by omega)) rfl rfl rfl rfl) ((IH hs s342 (((a + b).toNat / 2 : Nat) : Int) (((((a + b).toNat / 2 : Nat) : Int) + m) - st) b kcmp ccmp f w360 (H362.getOwn 0 rfl) Kcmp (fun x hx y hy w1 he => Ccmp x (hr343.mem_iff.1 hx) y (hr343.mem_iff.1 hy) w1 (H362.gr.trans (he.mono (fun b hb => own_slV.trans hb)))) (by omega) (by omega) (by omega) (by omega) (by omega) (by omega)).ret ?_))
           rintro _ w364 ⟨s368, rfl, hg365, ho366, hr369⟩
           have H367 := H362.updRow 0 rfl hg365 ho366
           have hr369l := (hr369).length_eq
           refine O_nil (ret_n ?_)
           exact ret_0 Try.results74 ⟨_, rfl, H367.gr, H367.getOwn 0 rfl, (hr369.trans hr343)⟩
          ·have hc363 : (¬ ((((a + b).toNat / 2 : Nat) : Int) < (((((a + b).toNat / 2 : Nat) : Int) + m) - st)) ∨ ¬ ((((((a + b).toNat / 2 : Nat) : Int) + m) - st) < b)) := (Or.imp (fun h => (of_decide_eq_false h)) (fun h => (of_decide_eq_false h)) (andF hc363))
           refine W_skip (ret_n ?_)
           exact ret_0 Try.results74 ⟨_, rfl, H362.gr, H362.getOwn 0 rfl, hr343⟩
         ·have hc337 : (¬ (a < st) ∨ ¬ (st < (((a + b).toNat / 2 : Nat) : Int))) := (Or.imp (fun h => (of_decide_eq_false h)) (fun h => (of_decide_eq_false h)) (andF hc337))
          refine W_skip (Then_n (W_seq ?_))
          refine W_rg [(0, .q false), (1, .q false), (2, .q false), (3, .q false), (4, .q false), (5, .q false), (6, .q false), (7, .q false)] (by kernel_rfl) ?_
          refine Lx_q (i := 0) rfl rfl _ (fun v370 hv371 => R_move (v := (.int .i64 (((a + b).toNat / 2 : Nat) : Int))) rfl ⟨rfl, Gr.refl _ _⟩) ?_
          refine Lx_q (i := 1) rfl rfl _ (fun v372 hv373 => R_move (v := (.int .i64 (((((a + b).toNat / 2 : Nat) : Int) + m) - st))) rfl ⟨rfl, Gr.refl _ _⟩) ?_
          refine Lx_q (i := 2) rfl rfl _ (fun v374 hv375 => R_cmp (a := (((a + b).toNat / 2 : Nat) : Int)) (b := (((((a + b).toNat / 2 : Nat) : Int) + m) - st)) (r := (decide ((((a + b).toNat / 2 : Nat) : Int) < (((((a + b).toNat / 2 : Nat) : Int) + m) - st)))) rfl rfl rfl ⟨rfl, Gr.refl _ _⟩) ?_
          refine Lx_q (i := 3) rfl rfl _ (fun v376 hv377 => R_move (v := (.bool (decide ((((a + b).toNat / 2 : Nat) : Int) < (((((a + b).toNat / 2 : Nat) : Int) + m) - st))))) rfl ⟨rfl, Gr.refl _ _⟩) ?_
          refine Lx_qg (i := 4) true (decide ((((a + b).toNat / 2 : Nat) : Int) < (((((a + b).toNat / 2 : Nat) : Int) + m) - st))) rfl rfl rfl rfl rfl (decide ((((a + b).toNat / 2 : Nat) : Int) < (((((a + b).toNat / 2 : Nat) : Int) + m) - st))) ga_t _ (fun hA v378 hv379 => R_move (v := (.int .i64 (((((a + b).toNat / 2 : Nat) : Int) + m) - st))) rfl ⟨rfl, Gr.refl _ _⟩) ?_
          refine Lx_qg (i := 5) true (decide ((((a + b).toNat / 2 : Nat) : Int) < (((((a + b).toNat / 2 : Nat) : Int) + m) - st))) rfl rfl rfl rfl rfl (decide ((((a + b).toNat / 2 : Nat) : Int) < (((((a + b).toNat / 2 : Nat) : Int) + m) - st))) ga_t _ (fun hA v380 hv381 => R_move (v := (.int .i64 b)) rfl ⟨rfl, Gr.refl _ _⟩) ?_
          refine Lx_qg (i := 6) true (decide ((((a + b).toNat / 2 : Nat) : Int) < (((((a + b).toNat / 2 : Nat) : Int) + m) - st))) rfl rfl rfl rfl rfl (decide ((((a + b).toNat / 2 : Nat) : Int) < (((((a + b).toNat / 2 : Nat) : Int) + m) - st))) ga_t _ (fun hA v382 hv383 => R_cmp (a := (((((a + b).toNat / 2 : Nat) : Int) + m) - st)) (b := b) (r := (decide ((((((a + b).toNat / 2 : Nat) : Int) + m) - st) < b))) (gv_t hA) (gv_t hA) rfl ⟨rfl, Gr.refl _ _⟩) ?_
          refine Lx_q (i := 7) rfl rfl _ (fun v384 hv385 => R_pick (t := (decide ((((a + b).toNat / 2 : Nat) : Int) < (((((a + b).toNat / 2 : Nat) : Int) + m) - st)))) (v := (.bool ((decide ((((a + b).toNat / 2 : Nat) : Int) < (((((a + b).toNat / 2 : Nat) : Int) + m) - st))) && (decide ((((((a + b).toNat / 2 : Nat) : Int) + m) - st) < b))))) rfl pk_and ⟨rfl, Gr.refl _ _⟩) ?_
          refine Lx_nil (fun w386 hw387 => ?_)
          have H388 := H336.ext hw387
          refine Then_n ?_
          refine W_cond (t := ((decide ((((a + b).toNat / 2 : Nat) : Int) < (((((a + b).toNat / 2 : Nat) : Int) + m) - st))) && (decide ((((((a + b).toNat / 2 : Nat) : Int) + m) - st) < b)))) rfl (fun hc389 => ?_) (fun hc389 => ?_)
          ·have hc389 : (((((a + b).toNat / 2 : Nat) : Int) < (((((a + b).toNat / 2 : Nat) : Int) + m) - st)) ∧ ((((((a + b).toNat / 2 : Nat) : Int) + m) - st) < b)) := (And.imp (fun h => (of_decide_eq_true h)) (fun h => (of_decide_eq_true h)) (andT hc389))
           refine W_reg ?_
           refine O_v rfl (R_move (v := (slV hs s)) rfl ?_)
           refine O_v rfl (R_move (v := (.int .i64 (((a + b).toNat / 2 : Nat) : Int))) rfl ?_)
           refine O_v rfl (R_move (v := (.int .i64 (((((a + b).toNat / 2 : Nat) : Int) + m) - st))) rfl ?_)
           refine O_v rfl (R_move (v := (.int .i64 b)) rfl ?_)
           refine O_v rfl (R_move (v := (.func (.func kcmp) #[] ccmp)) rfl ?_)
           refine O_v rfl (R_callL (vs := [(slV hs s), (.int .i64 (((a + b).toNat / 2 : Nat) : Int)), (.int .i64 (((((a + b).toNat / 2 : Nat) : Int) + m) - st)), (.int .i64 b), (.func (.func kcmp) #[] ccmp)]) symMerge_Row_c74 rfl rfl ((IH hs s (((a + b).toNat / 2 : Nat) : Int) (((((a + b).toNat / 2 : Nat) : Int) + m) - st) b kcmp ccmp f w386 (H388.getOwn 0 rfl) Kcmp (fun x hx y hy w1 he => Ccmp x ((List.Perm.refl _).mem_iff.1 hx) y ((List.Perm.refl _).mem_iff.1 hy) w1 (H388.gr.trans (he.mono (fun b hb => own_slV.trans hb)))) (by omega) (by omega) (by omega) (by omega) (by omega) (by omega)).ret ?_))
           rintro _ w390 ⟨s394, rfl, hg391, ho392, hr395⟩
           have H393 := H388.updRow 0 rfl hg391 ho392
           have hr395l := (hr395).length_eq
           refine O_nil (ret_n ?_)
           exact ret_0 Try.results74 ⟨_, rfl, H393.gr, H393.getOwn 0 rfl, hr395⟩
          ·have hc389 : (¬ ((((a + b).toNat / 2 : Nat) : Int) < (((((a + b).toNat / 2 : Nat) : Int) + m) - st)) ∨ ¬ ((((((a + b).toNat / 2 : Nat) : Int) + m) - st) < b)) := (Or.imp (fun h => (of_decide_eq_false h)) (fun h => (of_decide_eq_false h)) (andF hc389))
           refine W_skip (ret_n ?_)
           exact ret_0 Try.results74 ⟨_, rfl, H388.gr, H388.getOwn 0 rfl, (List.Perm.refl _)⟩
      ·have hc175 : ¬ ((((a + b).toNat / 2 : Nat) : Int) < m) := (of_decide_eq_false hc175)
       refine W_seq (W_reg ?_)
       refine O_v rfl (R_move (v := (.int .i64 a)) rfl ?_)
       refine O_v rfl (R_assign (v := (.int .i64 a)) rfl ?_)
       refine O_nil (Then_n (W_reg ?_))
       refine O_v rfl (R_move (v := (.int .i64 m)) rfl ?_)
       refine O_v rfl (R_assign (v := (.int .i64 m)) rfl ?_)
       refine O_nil (Then_n (W_seq (W_reg ?_)))
       refine O_v rfl (R_move (v := (.int .i64 ((((a + b).toNat / 2 : Nat) : Int) + m))) rfl ?_)
       refine O_v rfl (R_arith (a := ((((a + b).toNat / 2 : Nat) : Int) + m)) (b := 1) (r0 := ((((a + b).toNat / 2 : Nat) : Int) + m) - 1) (r := ((((a + b).toNat / 2 : Nat) : Int) + m) - 1) rfl rfl rfl (w64 _ (by omega)) ?_)
       refine O_v rfl (R_assign (v := (.int .i64 (((((a + b).toNat / 2 : Nat) : Int) + m) - 1))) rfl ?_)
       refine O_nil (Then_n (W_seq (W_block ?_)))
       refine W_loop (fun m396 e397 w398 => ∃ (st : Int), ∃ (r : Int), m396 = (r - st).toNat ∧ (((a + b).toNat / 2 : Nat) + m - b ≤ st ∧ a ≤ st ∧ st ≤ r ∧ r ≤ ((a + b).toNat / 2 : Nat) ∧ r ≤ m) ∧ ∃ eb399, e397 = envL [(0, (slV hs s)), (1, (.int .i64 a)), (2, (.int .i64 m)), (3, (.int .i64 b)), (4, (.func (.func kcmp) #[] ccmp)), (18, (.int .i64 (((a + b).toNat / 2 : Nat) : Int))), (19, (.int .i64 ((((a + b).toNat / 2 : Nat) : Int) + m))), (20, (.int .i64 st)), (21, (.int .i64 r)), (22, (.int .i64 (((((a + b).toNat / 2 : Nat) : Int) + m) - 1)))] eb399 ∧ Ctx w (fun b => (slV hs s).ownBlock = some b) w398 [rowR 44 8 rowCh hs s] []) _ ⟨a, m, rfl, (by omega), _, envL_self ⟨rfl, rfl, rfl, rfl, rfl, rfl, rfl, rfl, rfl, rfl, trivial⟩, H0⟩ ?_
       rintro m396 _ w398 ⟨st, r, rfl, hst, eb399, rfl, H400⟩
       refine W_seq (W_seq (W_reg ?_))
       refine O_v rfl (R_move (v := (.int .i64 st)) rfl ?_)
       refine O_v rfl (R_move (v := (.int .i64 r)) rfl ?_)
       refine O_v rfl (R_cmp (a := st) (b := r) (r := (decide (st < r))) rfl rfl rfl ?_)
       refine O_nil (Then_n ?_)
       refine W_cond (t := (decide (st < r))) rfl (fun hc401 => ?_) (fun hc401 => ?_)
       ·have hc401 : (st < r) := (of_decide_eq_true hc401)
        refine W_skip (Then_n (W_block (W_seq (W_reg ?_))))
        refine O_v rfl (R_move (v := (.int .i64 st)) rfl ?_)
        refine O_v rfl (R_move (v := (.int .i64 r)) rfl ?_)
        refine O_v rfl (R_arith (a := st) (b := r) (r0 := st + r) (r := st + r) rfl rfl rfl (w64 _ (by omega)) ?_)
        refine O_v rfl (R_conv_int (a := (st + r)) (r := (((st + r).toNat : Nat) : Int)) Try.underlying3 Try.underlying121 rfl (conv_nn (by omega)) ?_)
        refine O_v rfl (R_shr (a := (((st + r).toNat : Nat) : Int)) (b := ((1 : Nat) : Int)) (r := (((st + r).toNat / 2 : Nat) : Int)) rfl rfl (by decide) (shr_nat _ _ (by decide)) ?_)
        refine O_v rfl (R_conv_int (a := (((st + r).toNat / 2 : Nat) : Int)) (r := (((st + r).toNat / 2 : Nat) : Int)) Try.underlying121 Try.underlying3 rfl (w64 _ (by omega)) ?_)
        refine O_v rfl (R_assign (v := (.int .i64 (((st + r).toNat / 2 : Nat) : Int))) rfl ?_)
        refine O_nil (Then_n (W_seq ?_))
        refine W_rgd TryMixed [(0, .q false), (1, .q false), (2, .q false), (3, .q false), (4, .q false), (5, .q false), (6, .q false), (7, .q false), (8, .q false), (9, .q false), (10, .q false), (11, .q false), (12, .q false), (13, .q false)] (by kernel_rfl) ?_
        refine Lx_q (i := 0) rfl rfl _ (fun v402 hv403 => R_move (v := (.func (.func kcmp) #[] ccmp)) rfl ⟨rfl, Gr.refl _ _⟩) ?_
        refine Lx_q (i := 1) rfl rfl _ (fun v404 hv405 => R_move (v := (slV hs s)) rfl ⟨rfl, Gr.refl _ _⟩) ?_
        refine Lx_q (i := 2) rfl rfl _ (fun v406 hv407 => R_move (v := (.int .i64 (((((a + b).toNat / 2 : Nat) : Int) + m) - 1))) rfl ⟨rfl, Gr.refl _ _⟩) ?_
        refine Lx_q (i := 3) rfl rfl _ (fun v408 hv409 => R_move (v := (.int .i64 (((st + r).toNat / 2 : Nat) : Int))) rfl ⟨rfl, Gr.refl _ _⟩) ?_
        refine Lx_q (i := 4) rfl rfl _ (fun v410 hv411 => R_arith (a := (((((a + b).toNat / 2 : Nat) : Int) + m) - 1)) (b := (((st + r).toNat / 2 : Nat) : Int)) (r0 := (((((a + b).toNat / 2 : Nat) : Int) + m) - 1) - (((st + r).toNat / 2 : Nat) : Int)) (r := (((((a + b).toNat / 2 : Nat) : Int) + m) - 1) - (((st + r).toNat / 2 : Nat) : Int)) rfl rfl rfl (w64 _ (by omega)) ⟨rfl, Gr.refl _ _⟩) ?_
        refine Lx_q (i := 5) rfl rfl _ (fun v412 hv413 => R_index_pure (OwnS.sl (H400.getOwn 0 rfl) (fun _ => rfl)) (n := s.length) rfl (j := ((((((a + b).toNat / 2 : Nat) : Int) + m) - 1) - (((st + r).toNat / 2 : Nat) : Int))) (oo := (hs.o + (((((((a + b).toNat / 2 : Nat) : Int) + m) - 1) - (((st + r).toNat / 2 : Nat) : Int)).toNat) * 8)) Try.underlying22 Try.sizeOf44 rfl rfl (by omega) (by omega) rfl ⟨rfl, Gr.refl _ _⟩) ?_
        refine Lx_q (i := 6) rfl rfl _ (fun v414 hv415 => R_loadA (cs := [[(.int .i64 (((nth s (((((((a + b).toNat / 2 : Nat) : Int) + m) - 1) - (((st + r).toNat / 2 : Nat) : Int)).toNat)).node).T))], [(.int .i64 (((nth s (((((((a + b).toNat / 2 : Nat) : Int) + m) - 1) - (((st + r).toNat / 2 : Nat) : Int)).toNat)).node).R))], [(.int .i64 (((nth s (((((((a + b).toNat / 2 : Nat) : Int) + m) - 1) - (((st + r).toNat / 2 : Nat) : Int)).toNat)).par).T))], [(.int .i64 (((nth s (((((((a + b).toNat / 2 : Nat) : Int) + m) - 1) - (((st + r).toNat / 2 : Nat) : Int)).toNat)).par).R))], [(.int .i64 (((nth s (((((((a + b).toNat / 2 : Nat) : Int) + m) - 1) - (((st + r).toNat / 2 : Nat) : Int)).toNat)).tm).T))], [(.int .i64 (((nth s (((((((a + b).toNat / 2 : Nat) : Int) + m) - 1) - (((st + r).toNat / 2 : Nat) : Int)).toNat)).tm).R))], [(.string ((nth s (((((((a + b).toNat / 2 : Nat) : Int) + m) - 1) - (((st + r).toNat / 2 : Nat) : Int)).toNat)).name))], [(slV ((nth s (((((((a + b).toNat / 2 : Nat) : Int) + m) - 1) - (((st + r).toNat / 2 : Nat) : Int)).toNat)).hh) ((nth s (((((((a + b).toNat / 2 : Nat) : Int) + m) - 1) - (((st + r).toNat / 2 : Nat) : Int)).toNat)).heads))]]) Try.isAgg44 Try.sizeOf44 rfl rfl ((Sl.elem (OwnS.sl ((H400.ext hv415).getOwn 0 rfl) (fun _ => rfl)) (i := ((((((a + b).toNat / 2 : Nat) : Int) + m) - 1) - (((st + r).toNat / 2 : Nat) : Int)).toNat) (by omega) rfl).chunks 0 8 0 (hs.o + (((((((a + b).toNat / 2 : Nat) : Int) + m) - 1) - (((st + r).toNat / 2 : Nat) : Int)).toNat) * 8) _ rfl rfl rfl) ⟨rfl, Gr.refl _ _⟩) ?_
        refine Lx_q (i := 7) rfl rfl _ (fun v416 hv417 => R_move (v := (slV hs s)) rfl ⟨rfl, Gr.refl _ _⟩) ?_
        refine Lx_q (i := 8) rfl rfl _ (fun v418 hv419 => R_move (v := (.int .i64 (((st + r).toNat / 2 : Nat) : Int))) rfl ⟨rfl, Gr.refl _ _⟩) ?_
        refine Lx_q (i := 9) rfl rfl _ (fun v420 hv421 => R_index_pure (OwnS.sl (H400.getOwn 0 rfl) (fun _ => rfl)) (n := s.length) rfl (j := (((st + r).toNat / 2 : Nat) : Int)) (oo := (hs.o + ((st + r).toNat / 2) * 8)) Try.underlying22 Try.sizeOf44 rfl rfl (by omega) (by omega) rfl ⟨rfl, Gr.refl _ _⟩) ?_
        refine Lx_q (i := 10) rfl rfl _ (fun v422 hv423 => R_loadA (cs := [[(.int .i64 (((nth s ((st + r).toNat / 2)).node).T))], [(.int .i64 (((nth s ((st + r).toNat / 2)).node).R))], [(.int .i64 (((nth s ((st + r).toNat / 2)).par).T))], [(.int .i64 (((nth s ((st + r).toNat / 2)).par).R))], [(.int .i64 (((nth s ((st + r).toNat / 2)).tm).T))], [(.int .i64 (((nth s ((st + r).toNat / 2)).tm).R))], [(.string ((nth s ((st + r).toNat / 2)).name))], [(slV ((nth s ((st + r).toNat / 2)).hh) ((nth s ((st + r).toNat / 2)).heads))]]) Try.isAgg44 Try.sizeOf44 rfl rfl ((Sl.elem (OwnS.sl ((H400.ext hv423).getOwn 0 rfl) (fun _ => rfl)) (i := ((st + r).toNat / 2)) (by omega) rfl).chunks 0 8 0 (hs.o + ((st + r).toNat / 2) * 8) _ rfl rfl rfl) ⟨rfl, Gr.refl _ _⟩) ?_
        refine Lx_q (i := 11) rfl rfl (.int .i64 (f (nth s (((((((a + b).toNat / 2 : Nat) : Int) + m) - 1) - (((st + r).toNat / 2 : Nat) : Int)).toNat)) (nth s ((st + r).toNat / 2)))) (fun v424 hv425 => R_callV (vs := [(aggOf (rowCh (nth s (((((((a + b).toNat / 2 : Nat) : Int) + m) - 1) - (((st + r).toNat / 2 : Nat) : Int)).toNat)))), (aggOf (rowCh (nth s ((st + r).toNat / 2))))]) Kcmp rfl rfl (Ccmp _ (nth_mem (by omega)) _ (nth_mem (by omega)) v424 (H400.ext hv425).gr)) ?_
        refine Lx_q (i := 12) rfl rfl _ (fun v426 hv427 => R_cmp (a := f (nth s (((((((a + b).toNat / 2 : Nat) : Int) + m) - 1) - (((st + r).toNat / 2 : Nat) : Int)).toNat)) (nth s ((st + r).toNat / 2))) (b := 0) (r := (decide (f (nth s (((((((a + b).toNat / 2 : Nat) : Int) + m) - 1) - (((st + r).toNat / 2 : Nat) : Int)).toNat)) (nth s ((st + r).toNat / 2)) < 0))) rfl rfl rfl ⟨rfl, Gr.refl _ _⟩) ?_
        refine Lx_q (i := 13) rfl rfl _ (fun v428 hv429 => R_not rfl ⟨rfl, Gr.refl _ _⟩) ?_
        refine Lx_nil (fun w430 hw431 => ?_)
        have H432 := H400.ext hw431
        refine Then_n ?_
        refine W_cond (t := (!(decide (f (nth s (((((((a + b).toNat / 2 : Nat) : Int) + m) - 1) - (((st + r).toNat / 2 : Nat) : Int)).toNat)) (nth s ((st + r).toNat / 2)) < 0)))) rfl (fun hc433 => ?_) (fun hc433 => ?_)
        ·have hc433 : ¬ (f (nth s (((((((a + b).toNat / 2 : Nat) : Int) + m) - 1) - (((st + r).toNat / 2 : Nat) : Int)).toNat)) (nth s ((st + r).toNat / 2)) < 0) := (of_decide_eq_false (notT hc433))
         refine W_reg ?_
         refine O_v rfl (R_move (v := (.int .i64 (((st + r).toNat / 2 : Nat) : Int))) rfl ?_)
         refine O_v rfl (R_arith (a := (((st + r).toNat / 2 : Nat) : Int)) (b := 1) (r0 := (((st + r).toNat / 2 : Nat) : Int) + 1) (r := ((((st + r).toNat / 2) + 1 : Nat) : Int)) rfl rfl rfl (wrapN _ (by omega)) ?_)
         refine O_v rfl (R_assign (v := (.int .i64 ((((st + r).toNat / 2) + 1 : Nat) : Int))) rfl ?_)
         refine O_nil (Blk_n (Then_n ?_))
         refine ⟨_, ?_, ((((st + r).toNat / 2) + 1 : Nat) : Int), r, rfl, (by omega), _, envL_self ⟨rfl, rfl, rfl, rfl, rfl, rfl, rfl, rfl, rfl, rfl, trivial⟩, H432⟩
         omega
        ·have hc433 : (f (nth s (((((((a + b).toNat / 2 : Nat) : Int) + m) - 1) - (((st + r).toNat / 2 : Nat) : Int)).toNat)) (nth s ((st + r).toNat / 2)) < 0) := (of_decide_eq_true (notF hc433))
         refine W_reg ?_
         refine O_v rfl (R_move (v := (.int .i64 (((st + r).toNat / 2 : Nat) : Int))) rfl ?_)
         refine O_v rfl (R_assign (v := (.int .i64 (((st + r).toNat / 2 : Nat) : Int))) rfl ?_)
         refine O_nil (Blk_n (Then_n ?_))
         refine ⟨_, ?_, st, (((st + r).toNat / 2 : Nat) : Int), rfl, (by omega), _, envL_self ⟨rfl, rfl, rfl, rfl, rfl, rfl, rfl, rfl, rfl, rfl, trivial⟩, H432⟩
         omega
       ·have hc401 : ¬ (st < r) := (of_decide_eq_false hc401)
        refine W_exit (Then_x (Then_x (Blk_x (Then_n (W_seq (W_reg ?_))))))
        refine O_v rfl (R_move (v := (.int .i64 ((((a + b).toNat / 2 : Nat) : Int) + m))) rfl ?_)
        refine O_v rfl (R_move (v := (.int .i64 st)) rfl ?_)
        refine O_v rfl (R_arith (a := ((((a + b).toNat / 2 : Nat) : Int) + m)) (b := st) (r0 := ((((a + b).toNat / 2 : Nat) : Int) + m) - st) (r := ((((a + b).toNat / 2 : Nat) : Int) + m) - st) rfl rfl rfl (w64 _ (by omega)) ?_)
        refine O_v rfl (R_assign (v := (.int .i64 (((((a + b).toNat / 2 : Nat) : Int) + m) - st))) rfl ?_)
        refine O_nil (Then_n (W_seq (W_seq ?_)))
        refine W_rg [(0, .q false), (1, .q false), (2, .q false), (3, .q false), (4, .q false), (5, .q false), (6, .q false), (7, .q false)] (by kernel_rfl) ?_
        refine Lx_q (i := 0) rfl rfl _ (fun v434 hv435 => R_move (v := (.int .i64 st)) rfl ⟨rfl, Gr.refl _ _⟩) ?_
        refine Lx_q (i := 1) rfl rfl _ (fun v436 hv437 => R_move (v := (.int .i64 m)) rfl ⟨rfl, Gr.refl _ _⟩) ?_
        refine Lx_q (i := 2) rfl rfl _ (fun v438 hv439 => R_cmp (a := st) (b := m) (r := (decide (st < m))) rfl rfl rfl ⟨rfl, Gr.refl _ _⟩) ?_
        refine Lx_q (i := 3) rfl rfl _ (fun v440 hv441 => R_move (v := (.bool (decide (st < m)))) rfl ⟨rfl, Gr.refl _ _⟩) ?_
        refine Lx_qg (i := 4) true (decide (st < m)) rfl rfl rfl rfl rfl (decide (st < m)) ga_t _ (fun hA v442 hv443 => R_move (v := (.int .i64 m)) rfl ⟨rfl, Gr.refl _ _⟩) ?_
        refine Lx_qg (i := 5) true (decide (st < m)) rfl rfl rfl rfl rfl (decide (st < m)) ga_t _ (fun hA v444 hv445 => R_move (v := (.int .i64 (((((a + b).toNat / 2 : Nat) : Int) + m) - st))) rfl ⟨rfl, Gr.refl _ _⟩) ?_
        refine Lx_qg (i := 6) true (decide (st < m)) rfl rfl rfl rfl rfl (decide (st < m)) ga_t _ (fun hA v446 hv447 => R_cmp (a := m) (b := (((((a + b).toNat / 2 : Nat) : Int) + m) - st)) (r := (decide (m < (((((a + b).toNat / 2 : Nat) : Int) + m) - st)))) (gv_t hA) (gv_t hA) rfl ⟨rfl, Gr.refl _ _⟩) ?_
        refine Lx_q (i := 7) rfl rfl _ (fun v448 hv449 => R_pick (t := (decide (st < m))) (v := (.bool ((decide (st < m)) && (decide (m < (((((a + b).toNat / 2 : Nat) : Int) + m) - st)))))) rfl pk_and ⟨rfl, Gr.refl _ _⟩) ?_
        refine Lx_nil (fun w450 hw451 => ?_)
        have H452 := H400.ext hw451
        refine Then_n ?_
        refine W_cond (t := ((decide (st < m)) && (decide (m < (((((a + b).toNat / 2 : Nat) : Int) + m) - st))))) rfl (fun hc453 => ?_) (fun hc453 => ?_)
        ·have hc453 : ((st < m) ∧ (m < (((((a + b).toNat / 2 : Nat) : Int) + m) - st))) := (And.imp (fun h => (of_decide_eq_true h)) (fun h => (of_decide_eq_true h)) (andT hc453))
         refine W_reg ?_
         refine O_v rfl (R_move (v := (slV hs s)) rfl ?_)
         refine O_v rfl (R_move (v := (.int .i64 st)) rfl ?_)
         refine O_v rfl (R_move (v := (.int .i64 m)) rfl ?_)
         refine O_v rfl (R_move (v := (.int .i64 (((((a + b).toNat / 2 : Nat) : Int) + m) - st))) rfl ?_)
         refine O_v rfl (R_move (v := (.func (.func kcmp) #[] ccmp)) rfl ?_)
         refine O_v rfl (R_callL (vs := [(slV hs s), (.int .i64 st), (.int .i64 m), (.int .i64 (((((a + b).toNat / 2 : Nat) : Int) + m) - st)), (.func (.func kcmp) #[] ccmp)]) symMerge_Row_c83 rfl rfl ((rotate_Row hs s st m (((((a + b).toNat / 2 : Nat) : Int) + m) - st) kcmp ccmp f w450 (H452.getOwn 0 rfl) Kcmp (fun x hx y hy w1 he => Ccmp x hx y hy w1 (H452.gr.trans (he.mono (fun b hb => own_slV.trans hb)))) (by omega) (by omega) (by omega) (by omega) (by omega)).ret ?_))
         rintro _ w454 ⟨s458, rfl, hg455, ho456, hr459⟩
         have H457 := H452.updRow 0 rfl hg455 ho456
         have hr459l := (hr459).length_eq
         refine O_nil (Then_n (W_seq (W_seq ?_)))
         refine W_rg [(0, .q false), (1, .q false), (2, .q false), (3, .q false), (4, .q false), (5, .q false), (6, .q false), (7, .q false)] (by kernel_rfl) ?_
         refine Lx_q (i := 0) rfl rfl _ (fun v460 hv461 => R_move (v := (.int .i64 a)) rfl ⟨rfl, Gr.refl _ _⟩) ?_
         refine Lx_q (i := 1) rfl rfl _ (fun v462 hv463 => R_move (v := (.int .i64 st)) rfl ⟨rfl, Gr.refl _ _⟩) ?_
         refine Lx_q (i := 2) rfl rfl _ (fun v464 hv465 => R_cmp (a := a) (b := st) (r := (decide (a < st))) rfl rfl rfl ⟨rfl, Gr.refl _ _⟩) ?_
         refine Lx_q (i := 3) rfl rfl _ (fun v466 hv467 => R_move (v := (.bool (decide (a < st)))) rfl ⟨rfl, Gr.refl _ _⟩) ?_
         refine Lx_qg (i := 4) true (decide (a < st)) rfl rfl rfl rfl rfl (decide (a < st)) ga_t _ (fun hA v468 hv469 => R_move (v := (.int .i64 st)) rfl ⟨rfl, Gr.refl _ _⟩) ?_
         refine Lx_qg (i := 5) true (decide (a < st)) rfl rfl rfl rfl rfl (decide (a < st)) ga_t _ (fun hA v470 hv471 => R_move (v := (.int .i64 (((a + b).toNat / 2 : Nat) : Int))) rfl ⟨rfl, Gr.refl _ _⟩) ?_
         refine Lx_qg (i := 6) true (decide (a < st)) rfl rfl rfl rfl rfl (decide (a < st)) ga_t _ (fun hA v472 hv473 => R_cmp (a := st) (b := (((a + b).toNat / 2 : Nat) : Int)) (r := (decide (st < (((a + b).toNat / 2 : Nat) : Int)))) (gv_t hA) (gv_t hA) rfl ⟨rfl, Gr.refl _ _⟩) ?_
         refine Lx_q (i := 7) rfl rfl _ (fun v474 hv475 => R_pick (t := (decide (a < st))) (v := (.bool ((decide (a < st)) && (decide (st < (((a + b).toNat / 2 : Nat) : Int)))))) rfl pk_and ⟨rfl, Gr.refl _ _⟩) ?_
         refine Lx_nil (fun w476 hw477 => ?_)
         have H478 := H457.ext hw477
         refine Then_n ?_
         refine W_cond (t := ((decide (a < st)) && (decide (st < (((a + b).toNat / 2 : Nat) : Int))))) rfl (fun hc479 => ?_) (fun hc479 => ?_)
         ·have hc479 : ((a < st) ∧ (st < (((a + b).toNat / 2 : Nat) : Int))) := (And.imp (fun h => (of_decide_eq_true h)) (fun h => (of_decide_eq_true h)) (andT hc479))
          refine W_reg ?_
          refine O_v rfl (R_move (v := (slV hs s)) rfl ?_)
          refine O_v rfl (R_move (v := (.int .i64 a)) rfl ?_)
          refine O_v rfl (R_move (v := (.int .i64 st)) rfl ?_)
          refine O_v rfl (R_move (v := (.int .i64 (((a + b).toNat / 2 : Nat) : Int))) rfl ?_)
          refine O_v rfl (R_move (v := (.func (.func kcmp) #[] ccmp)) rfl ?_)
          refine O_v rfl (R_callL (vs := [(slV hs s458), (.int .i64 a), (.int .i64 st), (.int .i64 (((a + b).toNat / 2 : Nat) : Int)), (.func (.func kcmp) #[] ccmp)]) symMerge_Row_c74 rfl (lst5 (slV_len (l := s) (l' := s458) (by omega)) rfl rfl rfl rfl) ((IH hs s458 a st (((a + b).toNat / 2 : Nat) : Int) kcmp ccmp f w476 (H478.getOwn 0 rfl) Kcmp (fun x hx y hy w1 he => Ccmp x (hr459.mem_iff.1 hx) y (hr459.mem_iff.1 hy) w1 (H478.gr.trans (he.mono (fun b hb => own_slV.trans hb)))) (by omega) (by omega) (by omega) (by omega) (by omega) (by omega)).ret ?_))
          rintro _ w480 ⟨s484, rfl, hg481, ho482, hr485⟩
          have H483 := H478.updRow 0 rfl hg481 ho482
          have hr485l := (hr485).length_eq
          refine O_nil (Then_n (W_seq ?_))
          refine W_rg [(0, .q false), (1, .q false), (2, .q false), (3, .q false), (4, .q false), (5, .q false), (6, .q false), (7, .q false)] (by kernel_rfl) ?_
          refine Lx_q (i := 0) rfl rfl _ (fun v486 hv487 => R_move (v := (.int .i64 (((a + b).toNat / 2 : Nat) : Int))) rfl ⟨rfl, Gr.refl _ _⟩) ?_
          refine Lx_q (i := 1) rfl rfl _ (fun v488 hv489 => R_move (v := (.int .i64 (((((a + b).toNat / 2 : Nat) : Int) + m) - st))) rfl ⟨rfl, Gr.refl _ _⟩) ?_
          refine Lx_q (i := 2) rfl rfl _ (fun v490 hv491 => R_cmp (a := (((a + b).toNat / 2 : Nat) : Int)) (b := (((((a + b).toNat / 2 : Nat) : Int) + m) - st)) (r := (decide ((((a + b).toNat / 2 : Nat) : Int) < (((((a + b).toNat / 2 : Nat) : Int) + m) - st)))) rfl rfl rfl ⟨rfl, Gr.refl _ _⟩) ?_
          refine Lx_q (i := 3) rfl rfl _ (fun v492 hv493 => R_move (v := (.bool (decide ((((a + b).toNat / 2 : Nat) : Int) < (((((a + b).toNat / 2 : Nat) : Int) + m) - st))))) rfl ⟨rfl, Gr.refl _ _⟩) ?_
          refine Lx_qg (i := 4) true (decide ((((a + b).toNat / 2 : Nat) : Int) < (((((a + b).toNat / 2 : Nat) : Int) + m) - st))) rfl rfl rfl rfl rfl (decide ((((a + b).toNat / 2 : Nat) : Int) < (((((a + b).toNat / 2 : Nat) : Int) + m) - st))) ga_t _ (fun hA v494 hv495 => R_move (v := (.int .i64 (((((a + b).toNat / 2 : Nat) : Int) + m) - st))) rfl ⟨rfl, Gr.refl _ _⟩) ?_
          refine Lx_qg (i := 5) true (decide ((((a + b).toNat / 2 : Nat) : Int) < (((((a + b).toNat / 2 : Nat) : Int) + m) - st))) rfl rfl rfl rfl rfl (decide ((((a + b).toNat / 2 : Nat) : Int) < (((((a + b).toNat / 2 : Nat) : Int) + m) - st))) ga_t _ (fun hA v496 hv497 => R_move (v := (.int .i64 b)) rfl ⟨rfl, Gr.refl _ _⟩) ?_
          refine Lx_qg (i := 6) true (decide ((((a + b).toNat / 2 : Nat) : Int) < (((((a + b).toNat / 2 : Nat) : Int) + m) - st))) rfl rfl rfl rfl rfl (decide ((((a + b).toNat / 2 : Nat) : Int) < (((((a + b).toNat / 2 : Nat) : Int) + m) - st))) ga_t _ (fun hA v498 hv499 => R_cmp (a := (((((a + b).toNat / 2 : Nat) : Int) + m) - st)) (b := b) (r := (decide ((((((a + b).toNat / 2 : Nat) : Int) + m) - st) < b))) (gv_t hA) (gv_t hA) rfl ⟨rfl, Gr.refl _ _⟩) ?_
          refine Lx_q (i := 7) rfl rfl _ (fun v500 hv501 => R_pick (t := (decide ((((a + b).toNat / 2 : Nat) : Int) < (((((a + b).toNat / 2 : Nat) : Int) + m) - st)))) (v := (.bool ((decide ((((a + b).toNat / 2 : Nat) : Int) < (((((a + b).toNat / 2 : Nat) : Int) + m) - st))) && (decide ((((((a + b).toNat / 2 : Nat) : Int) + m) - st) < b))))) rfl pk_and ⟨rfl, Gr.refl _ _⟩) ?_
          refine Lx_nil (fun w502 hw503 => ?_)
          have H504 := H483.ext hw503
          refine Then_n ?_
          refine W_cond (t := ((decide ((((a + b).toNat / 2 : Nat) : Int) < (((((a + b).toNat / 2 : Nat) : Int) + m) - st))) && (decide ((((((a + b).toNat / 2 : Nat) : Int) + m) - st) < b)))) rfl (fun hc505 => ?_) (fun hc505 => ?_)
          ·have hc505 : (((((a + b).toNat / 2 : Nat) : Int) < (((((a + b).toNat / 2 : Nat) : Int) + m) - st)) ∧ ((((((a + b).toNat / 2 : Nat) : Int) + m) - st) < b)) := (And.imp (fun h => (of_decide_eq_true h)) (fun h => (of_decide_eq_true h)) (andT hc505))
           refine W_reg ?_
           refine O_v rfl (R_move (v := (slV hs s)) rfl ?_)
           refine O_v rfl (R_move (v := (.int .i64 (((a + b).toNat / 2 : Nat) : Int))) rfl ?_)
           refine O_v rfl (R_move (v := (.int .i64 (((((a + b).toNat / 2 : Nat) : Int) + m) - st))) rfl ?_)
           refine O_v rfl (R_move (v := (.int .i64 b)) rfl ?_)
           refine O_v rfl (R_move (v := (.func (.func kcmp) #[] ccmp)) rfl ?_)
           refine O_v rfl (R_callL (vs := [(slV hs s484), (.int .i64 (((a + b).toNat / 2 : Nat) : Int)), (.int .i64 (((((a + b).toNat / 2 : Nat) : Int) + m) - st)), (.int .i64 b), (.func (.func kcmp) #[] ccmp)]) symMerge_Row_c74 rfl (lst5 (slV_len (l := s) (l' := s484) (by omega)) rfl rfl rfl rfl) ((IH hs s484 (((a + b).toNat / 2 : Nat) : Int) (((((a + b).toNat / 2 : Nat) : Int) + m) - st) b kcmp ccmp f w502 (H504.getOwn 0 rfl) Kcmp (fun x hx y hy w1 he => Ccmp x ((hr485.trans hr459).mem_iff.1 hx) y ((hr485.trans hr459).mem_iff.1 hy) w1 (H504.gr.trans (he.mono (fun b hb => own_slV.trans hb)))) (by omega) (by omega) (by omega) (by omega) (by omega) (by omega)).ret ?_))
           rintro _ w506 ⟨s510, rfl, hg507, ho508, hr511⟩
           have H509 := H504.updRow 0 rfl hg507 ho508
           have hr511l := (hr511).length_eq
           refine O_nil (ret_n ?_)
           exact ret_0 Try.results74 ⟨_, rfl, H509.gr, H509.getOwn 0 rfl, (hr511.trans (hr485.trans hr459))⟩
          ·have hc505 : (¬ ((((a + b).toNat / 2 : Nat) : Int) < (((((a + b).toNat / 2 : Nat) : Int) + m) - st)) ∨ ¬ ((((((a + b).toNat / 2 : Nat) : Int) + m) - st) < b)) := (Or.imp (fun h => (of_decide_eq_false h)) (fun h => (of_decide_eq_false h)) (andF hc505))
           refine W_skip (ret_n ?_)
           exact ret_0 Try.results74 ⟨_, rfl, H504.gr, H504.getOwn 0 rfl, (hr485.trans hr459)⟩
         ·have hc479 : (¬ (a < st) ∨ ¬ (st < (((a + b).toNat / 2 : Nat) : Int))) := (Or.imp (fun h => (of_decide_eq_false h)) (fun h => (of_decide_eq_false h)) (andF hc479))
          refine W_skip (Then_n (W_seq ?_))
          refine W_rg [(0, .q false), (1, .q false), (2, .q false), (3, .q false), (4, .q false), (5, .q false), (6, .q false), (7, .q false)] (by kernel_rfl) ?_
          refine Lx_q (i := 0) rfl rfl _ (fun v512 hv513 => R_move (v := (.int .i64 (((a + b).toNat / 2 : Nat) : Int))) rfl ⟨rfl, Gr.refl _ _⟩) ?_
          refine Lx_q (i := 1) rfl rfl _ (fun v514 hv515 => R_move (v := (.int .i64 (((((a + b).toNat / 2 : Nat) : Int) + m) - st))) rfl ⟨rfl, Gr.refl _ _⟩) ?_
          refine Lx_q (i := 2) rfl rfl _ (fun v516 hv517 => R_cmp (a := (((a + b).toNat / 2 : Nat) : Int)) (b := (((((a + b).toNat / 2 : Nat) : Int) + m) - st)) (r := (decide ((((a + b).toNat / 2 : Nat) : Int) < (((((a + b).toNat / 2 : Nat) : Int) + m) - st)))) rfl rfl rfl ⟨rfl, Gr.refl _ _⟩) ?_
          refine Lx_q (i := 3) rfl rfl _ (fun v518 hv519 => R_move (v := (.bool (decide ((((a + b).toNat / 2 : Nat) : Int) < (((((a + b).toNat / 2 : Nat) : Int) + m) - st))))) rfl ⟨rfl, Gr.refl _ _⟩) ?_
          refine Lx_qg (i := 4) true (decide ((((a + b).toNat / 2 : Nat) : Int) < (((((a + b).toNat / 2 : Nat) : Int) + m) - st))) rfl rfl rfl rfl rfl (decide ((((a + b).toNat / 2 : Nat) : Int) < (((((a + b).toNat / 2 : Nat) : Int) + m) - st))) ga_t _ (fun hA v520 hv521 => R_move (v := (.int .i64 (((((a + b).toNat / 2 : Nat) : Int) + m) - st))) rfl ⟨rfl, Gr.refl _ _⟩) ?_
          refine Lx_qg (i := 5) true (decide ((((a + b).toNat / 2 : Nat) : Int) < (((((a + b).toNat / 2 : Nat) : Int) + m) - st))) rfl rfl rfl rfl rfl (decide ((((a + b).toNat / 2 : Nat) : Int) < (((((a + b).toNat / 2 : Nat) : Int) + m) - st))) ga_t _ (fun hA v522 hv523 => R_move (v := (.int .i64 b)) rfl ⟨rfl, Gr.refl _ _⟩) ?_
          refine Lx_qg (i := 6) true (decide ((((a + b).toNat / 2 : Nat) : Int) < (((((a + b).toNat / 2 : Nat) : Int) + m) - st))) rfl rfl rfl rfl rfl (decide ((((a + b).toNat / 2 : Nat) : Int) < (((((a + b).toNat / 2 : Nat) : Int) + m) - st))) ga_t _ (fun hA v524 hv525 => R_cmp (a := (((((a + b).toNat / 2 : Nat) : Int) + m) - st)) (b := b) (r := (decide ((((((a + b).toNat / 2 : Nat) : Int) + m) - st) < b))) (gv_t hA) (gv_t hA) rfl ⟨rfl, Gr.refl _ _⟩) ?_
          refine Lx_q (i := 7) rfl rfl _ (fun v526 hv527 => R_pick (t := (decide ((((a + b).toNat / 2 : Nat) : Int) < (((((a + b).toNat / 2 : Nat) : Int) + m) - st)))) (v := (.bool ((decide ((((a + b).toNat / 2 : Nat) : Int) < (((((a + b).toNat / 2 : Nat) : Int) + m) - st))) && (decide ((((((a + b).toNat / 2 : Nat) : Int) + m) - st) < b))))) rfl pk_and ⟨rfl, Gr.refl _ _⟩) ?_
          refine Lx_nil (fun w528 hw529 => ?_)
          have H530 := H478.ext hw529
          refine Then_n ?_
          refine W_cond (t := ((decide ((((a + b).toNat / 2 : Nat) : Int) < (((((a + b).toNat / 2 : Nat) : Int) + m) - st))) && (decide ((((((a + b).toNat / 2 : Nat) : Int) + m) - st) < b)))) rfl (fun hc531 => ?_) (fun hc531 => ?_)
          ·have hc531 : (((((a + b).toNat / 2 : Nat) : Int) < (((((a + b).toNat / 2 : Nat) : Int) + m) - st)) ∧ ((((((a + b).toNat / 2 : Nat) : Int) + m) - st) < b)) := (And.imp (fun h => (of_decide_eq_true h)) (fun h => (of_decide_eq_true h)) (andT hc531))
           refine W_reg ?_
           refine O_v rfl (R_move (v := (slV hs s)) rfl ?_)
           refine O_v rfl (R_move (v := (.int .i64 (((a + b).toNat / 2 : Nat) : Int))) rfl ?_)
           refine O_v rfl (R_move (v := (.int .i64 (((((a + b).toNat / 2 : Nat) : Int) + m) - st))) rfl ?_)
           refine O_v rfl (R_move (v := (.int .i64 b)) rfl ?_)
           refine O_v rfl (R_move (v := (.func (.func kcmp) #[] ccmp)) rfl ?_)
           refine O_v rfl (R_callL (vs := [(slV hs s458), (.int .i64 (((a + b).toNat / 2 : Nat) : Int)), (.int .i64 (((((a + b).toNat / 2 : Nat) : Int) + m) - st)), (.int .i64 b), (.func (.func kcmp) #[] ccmp)]) symMerge_Row_c74 rfl (lst5 (slV_len (l := s) (l' := s458) (by omega)) rfl rfl rfl rfl) ((IH hs s458 (((a + b).toNat / 2 : Nat) : Int) (((((a + b).toNat / 2 : Nat) : Int) + m) - st) b kcmp ccmp f w528 (H530.getOwn 0 rfl) Kcmp (fun x hx y hy w1 he => Ccmp x (hr459.mem_iff.1 hx) y (hr459.mem_iff.1 hy) w1 (H530.gr.trans (he.mono (fun b hb => own_slV.trans hb)))) (by omega) (by omega) (by omega) (by omega) (by omega) (by omega)).ret ?_))
           rintro _ w532 ⟨s536, rfl, hg533, ho534, hr537⟩
           have H535 := H530.updRow 0 rfl hg533 ho534
           have hr537l := (hr537).length_eq
           refine O_nil (ret_n ?_)
           exact ret_0 Try.results74 ⟨_, rfl, H535.gr, H535.getOwn 0 rfl, (hr537.trans hr459)⟩
          ·have hc531 : (¬ ((((a + b).toNat / 2 : Nat) : Int) < (((((a + b).toNat / 2 : Nat) : Int) + m) - st)) ∨ ¬ ((((((a + b).toNat / 2 : Nat) : Int) + m) - st) < b)) := (Or.imp (fun h => (of_decide_eq_false h)) (fun h => (of_decide_eq_false h)) (andF hc531))
           refine W_skip (ret_n ?_)
           exact ret_0 Try.results74 ⟨_, rfl, H530.gr, H530.getOwn 0 rfl, hr459⟩
        ·have hc453 : (¬ (st < m) ∨ ¬ (m < (((((a + b).toNat / 2 : Nat) : Int) + m) - st))) := (Or.imp (fun h => (of_decide_eq_false h)) (fun h => (of_decide_eq_false h)) (andF hc453))
         refine W_skip (Then_n (W_seq (W_seq ?_)))
         refine W_rg [(0, .q false), (1, .q false), (2, .q false), (3, .q false), (4, .q false), (5, .q false), (6, .q false), (7, .q false)] (by kernel_rfl) ?_
         refine Lx_q (i := 0) rfl rfl _ (fun v538 hv539 => R_move (v := (.int .i64 a)) rfl ⟨rfl, Gr.refl _ _⟩) ?_
         refine Lx_q (i := 1) rfl rfl _ (fun v540 hv541 => R_move (v := (.int .i64 st)) rfl ⟨rfl, Gr.refl _ _⟩) ?_
         refine Lx_q (i := 2) rfl rfl _ (fun v542 hv543 => R_cmp (a := a) (b := st) (r := (decide (a < st))) rfl rfl rfl ⟨rfl, Gr.refl _ _⟩) ?_
         refine Lx_q (i := 3) rfl rfl _ (fun v544 hv545 => R_move (v := (.bool (decide (a < st)))) rfl ⟨rfl, Gr.refl _ _⟩) ?_
         refine Lx_qg (i := 4) true (decide (a < st)) rfl rfl rfl rfl rfl (decide (a < st)) ga_t _ (fun hA v546 hv547 => R_move (v := (.int .i64 st)) rfl ⟨rfl, Gr.refl _ _⟩) ?_
         refine Lx_qg (i := 5) true (decide (a < st)) rfl rfl rfl rfl rfl (decide (a < st)) ga_t _ (fun hA v548 hv549 => R_move (v := (.int .i64 (((a + b).toNat / 2 : Nat) : Int))) rfl ⟨rfl, Gr.refl _ _⟩) ?_
         refine Lx_qg (i := 6) true (decide (a < st)) rfl rfl rfl rfl rfl (decide (a < st)) ga_t _ (fun hA v550 hv551 => R_cmp (a := st) (b := (((a + b).toNat / 2 : Nat) : Int)) (r := (decide (st < (((a + b).toNat / 2 : Nat) : Int)))) (gv_t hA) (gv_t hA) rfl ⟨rfl, Gr.refl _ _⟩) ?_
         refine Lx_q (i := 7) rfl rfl _ (fun v552 hv553 => R_pick (t := (decide (a < st))) (v := (.bool ((decide (a < st)) && (decide (st < (((a + b).toNat / 2 : Nat) : Int)))))) rfl pk_and ⟨rfl, Gr.refl _ _⟩) ?_
         refine Lx_nil (fun w554 hw555 => ?_)
         have H556 := H452.ext hw555
         refine Then_n ?_
         refine W_cond (t := ((decide (a < st)) && (decide (st < (((a + b).toNat / 2 : Nat) : Int))))) rfl (fun hc557 => ?_) (fun hc557 => ?_)
         ·have hc557 : ((a < st) ∧ (st < (((a + b).toNat / 2 : Nat) : Int))) := (And.imp (fun h => (of_decide_eq_true h)) (fun h => (of_decide_eq_true h)) (andT hc557))
          refine W_reg ?_
          refine O_v rfl (R_move (v := (slV hs s)) rfl ?_)
          refine O_v rfl (R_move (v := (.int .i64 a)) rfl ?_)
          refine O_v rfl (R_move (v := (.int .i64 st)) rfl ?_)
          refine O_v rfl (R_move (v := (.int .i64 (((a + b).toNat / 2 : Nat) : Int))) rfl ?_)
          refine O_v rfl (R_move (v := (.func (.func kcmp) #[] ccmp)) rfl ?_)
          refine O_v rfl (R_callL (vs := [(slV hs s), (.int .i64 a), (.int .i64 st), (.int .i64 (((a + b).toNat / 2 : Nat) : Int)), (.func (.func kcmp) #[] ccmp)]) symMerge_Row_c74 rfl rfl ((IH hs s a st (((a + b).toNat / 2 : Nat) : Int) kcmp ccmp f w554 (H556.getOwn 0 rfl) Kcmp (fun x hx y hy w1 he => Ccmp x ((List.Perm.refl _).mem_iff.1 hx) y ((List.Perm.refl _).mem_iff.1 hy) w1 (H556.gr.trans (he.mono (fun b hb => own_slV.trans hb)))) (by omega) (by omega) (by omega) (by omega) (by omega) (by omega)).ret ?_))
          rintro _ w558 ⟨s562, rfl, hg559, ho560, hr563⟩
          have H561 := H556.updRow 0 rfl hg559 ho560
          have hr563l := (hr563).length_eq
          refine O_nil (Then_n (W_seq ?_))
          refine W_rg [(0, .q false), (1, .q false), (2, .q false), (3, .q false), (4, .q false), (5, .q false), (6, .q false), (7, .q false)] (by kernel_rfl) ?_
          refine Lx_q (i := 0) rfl rfl _ (fun v564 hv565 => R_move (v := (.int .i64 (((a + b).toNat / 2 : Nat) : Int))) rfl ⟨rfl, Gr.refl _ _⟩) ?_
          refine Lx_q (i := 1) rfl rfl _ (fun v566 hv567 => R_move (v := (.int .i64 (((((a + b).toNat / 2 : Nat) : Int) + m) - st))) rfl ⟨rfl, Gr.refl _ _⟩) ?_
          refine Lx_q (i := 2) rfl rfl _ (fun v568 hv569 => R_cmp (a := (((a + b).toNat / 2 : Nat) : Int)) (b := (((((a + b).toNat / 2 : Nat) : Int) + m) - st)) (r := (decide ((((a + b).toNat / 2 : Nat) : Int) < (((((a + b).toNat / 2 : Nat) : Int) + m) - st)))) rfl rfl rfl ⟨rfl, Gr.refl _ _⟩) ?_
          refine Lx_q (i := 3) rfl rfl _ (fun v570 hv571 => R_move (v := (.bool (decide ((((a + b).toNat / 2 : Nat) : Int) < (((((a + b).toNat / 2 : Nat) : Int) + m) - st))))) rfl ⟨rfl, Gr.refl _ _⟩) ?_
          refine Lx_qg (i := 4) true (decide ((((a + b).toNat / 2 : Nat) : Int) < (((((a + b).toNat / 2 : Nat) : Int) + m) - st))) rfl rfl rfl rfl rfl (decide ((((a + b).toNat / 2 : Nat) : Int) < (((((a + b).toNat / 2 : Nat) : Int) + m) - st))) ga_t _ (fun hA v572 hv573 => R_move (v := (.int .i64 (((((a + b).toNat / 2 : Nat) : Int) + m) - st))) rfl ⟨rfl, Gr.refl _ _⟩) ?_
          refine Lx_qg (i := 5) true (decide ((((a + b).toNat / 2 : Nat) : Int) < (((((a + b).toNat / 2 : Nat) : Int) + m) - st))) rfl rfl rfl rfl rfl (decide ((((a + b).toNat / 2 : Nat) : Int) < (((((a + b).toNat / 2 : Nat) : Int) + m) - st))) ga_t _ (fun hA v574 hv575 => R_move (v := (.int .i64 b)) rfl ⟨rfl, Gr.refl _ _⟩) ?_
          refine Lx_qg (i := 6) true (decide ((((a + b).toNat / 2 : Nat) : Int) < (((((a + b).toNat / 2 : Nat) : Int) + m) - st))) rfl rfl rfl rfl rfl (decide ((((a + b).toNat / 2 : Nat) : Int) < (((((a + b).toNat / 2 : Nat) : Int) + m) - st))) ga_t _ (fun hA v576 hv577 => R_cmp (a := (((((a + b).toNat / 2 : Nat) : Int) + m) - st)) (b := b) (r := (decide ((((((a + b).toNat / 2 : Nat) : Int) + m) - st) < b))) (gv_t hA) (gv_t hA) rfl ⟨rfl, Gr.refl _ _⟩) ?_
          refine Lx_q (i := 7) rfl rfl _ (fun v578 hv579 => R_pick (t := (decide ((((a + b).toNat / 2 : Nat) : Int) < (((((a + b).toNat / 2 : Nat) : Int) + m) - st)))) (v := (.bool ((decide ((((a + b).toNat / 2 : Nat) : Int) < (((((a + b).toNat / 2 : Nat) : Int) + m) - st))) && (decide ((((((a + b).toNat / 2 : Nat) : Int) + m) - st) < b))))) rfl pk_and ⟨rfl, Gr.refl _ _⟩) ?_
          refine Lx_nil (fun w580 hw581 => ?_)
          have H582 := H561.ext hw581
          refine Then_n ?_
          refine W_cond (t := ((decide ((((a + b).toNat / 2 : Nat) : Int) < (((((a + b).toNat / 2 : Nat) : Int) + m) - st))) && (decide ((((((a + b).toNat / 2 : Nat) : Int) + m) - st) < b)))) rfl (fun hc583 => ?_) (fun hc583 => ?_)
          ·have hc583 : (((((a + b).toNat / 2 : Nat) : Int) < (((((a + b).toNat / 2 : Nat) : Int) + m) - st)) ∧ ((((((a + b).toNat / 2 : Nat) : Int) + m) - st) < b)) := (And.imp (fun h => (of_decide_eq_true h)) (fun h => (of_decide_eq_true h)) (andT hc583))
           refine W_reg ?_
           refine O_v rfl (R_move (v := (slV hs s)) rfl ?_)
           refine O_v rfl (R_move (v := (.int .i64 (((a + b).toNat / 2 : Nat) : Int))) rfl ?_)
           refine O_v rfl (R_move (v := (.int .i64 (((((a + b).toNat / 2 : Nat) : Int) + m) - st))) rfl ?_)
           refine O_v rfl (R_move (v := (.int .i64 b)) rfl ?_)
           refine O_v rfl (R_move (v := (.func (.func kcmp) #[] ccmp)) rfl ?_)
           refine O_v rfl (R_callL (vs := [(slV hs s562), (.int .i64 (((a + b).toNat / 2 : Nat) : Int)), (.int .i64 (((((a + b).toNat / 2 : Nat) : Int) + m) - st)), (.int .i64 b), (.func (.func kcmp) #[] ccmp)]) symMerge_Row_c74 rfl (lst5 (slV_len (l := s) (l' := s562) (by omega)) rfl rfl rfl rfl) ((IH hs s562 (((a + b).toNat / 2 : Nat) : Int) (((((a + b).toNat / 2 : Nat) : Int) + m) - st) b kcmp ccmp f w580 (H582.getOwn 0 rfl) Kcmp (fun x hx y hy w1 he => Ccmp x (hr563.mem_iff.1 hx) y (hr563.mem_iff.1 hy) w1 (H582.gr.trans (he.mono (fun b hb => own_slV.trans hb)))) (by omega) (by omega) (by omega) (by omega) (by omega) (by omega)).ret ?_))
           rintro _ w584 ⟨s588, rfl, hg585, ho586, hr589⟩
           have H587 := H582.updRow 0 rfl hg585 ho586
           have hr589l := (hr589).length_eq
           refine O_nil (ret_n ?_)
           exact ret_0 Try.results74 ⟨_, rfl, H587.gr, H587.getOwn 0 rfl, (hr589.trans hr563)⟩
          ·have hc583 : (¬ ((((a + b).toNat / 2 : Nat) : Int) < (((((a + b).toNat / 2 : Nat) : Int) + m) - st)) ∨ ¬ ((((((a + b).toNat / 2 : Nat) : Int) + m) - st) < b)) := (Or.imp (fun h => (of_decide_eq_false h)) (fun h => (of_decide_eq_false h)) (andF hc583))
           refine W_skip (ret_n ?_)
           exact ret_0 Try.results74 ⟨_, rfl, H582.gr, H582.getOwn 0 rfl, hr563⟩
         ·have hc557 : (¬ (a < st) ∨ ¬ (st < (((a + b).toNat / 2 : Nat) : Int))) := (Or.imp (fun h => (of_decide_eq_false h)) (fun h => (of_decide_eq_false h)) (andF hc557))
          refine W_skip (Then_n (W_seq ?_))
          refine W_rg [(0, .q false), (1, .q false), (2, .q false), (3, .q false), (4, .q false), (5, .q false), (6, .q false), (7, .q false)] (by kernel_rfl) ?_
          refine Lx_q (i := 0) rfl rfl _ (fun v590 hv591 => R_move (v := (.int .i64 (((a + b).toNat / 2 : Nat) : Int))) rfl ⟨rfl, Gr.refl _ _⟩) ?_
          refine Lx_q (i := 1) rfl rfl _ (fun v592 hv593 => R_move (v := (.int .i64 (((((a + b).toNat / 2 : Nat) : Int) + m) - st))) rfl ⟨rfl, Gr.refl _ _⟩) ?_
          refine Lx_q (i := 2) rfl rfl _ (fun v594 hv595 => R_cmp (a := (((a + b).toNat / 2 : Nat) : Int)) (b := (((((a + b).toNat / 2 : Nat) : Int) + m) - st)) (r := (decide ((((a + b).toNat / 2 : Nat) : Int) < (((((a + b).toNat / 2 : Nat) : Int) + m) - st)))) rfl rfl rfl ⟨rfl, Gr.refl _ _⟩) ?_
          refine Lx_q (i := 3) rfl rfl _ (fun v596 hv597 => R_move (v := (.bool (decide ((((a + b).toNat / 2 : Nat) : Int) < (((((a + b).toNat / 2 : Nat) : Int) + m) - st))))) rfl ⟨rfl, Gr.refl _ _⟩) ?_
          refine Lx_qg (i := 4) true (decide ((((a + b).toNat / 2 : Nat) : Int) < (((((a + b).toNat / 2 : Nat) : Int) + m) - st))) rfl rfl rfl rfl rfl (decide ((((a + b).toNat / 2 : Nat) : Int) < (((((a + b).toNat / 2 : Nat) : Int) + m) - st))) ga_t _ (fun hA v598 hv599 => R_move (v := (.int .i64 (((((a + b).toNat / 2 : Nat) : Int) + m) - st))) rfl ⟨rfl, Gr.refl _ _⟩) ?_
          refine Lx_qg (i := 5) true (decide ((((a + b).toNat / 2 : Nat) : Int) < (((((a + b).toNat / 2 : Nat) : Int) + m) - st))) rfl rfl rfl rfl rfl (decide ((((a + b).toNat / 2 : Nat) : Int) < (((((a + b).toNat / 2 : Nat) : Int) + m) - st))) ga_t _ (fun hA v600 hv601 => R_move (v := (.int .i64 b)) rfl ⟨rfl, Gr.refl _ _⟩) ?_
          refine Lx_qg (i := 6) true (decide ((((a + b).toNat / 2 : Nat) : Int) < (((((a + b).toNat / 2 : Nat) : Int) + m) - st))) rfl rfl rfl rfl rfl (decide ((((a + b).toNat / 2 : Nat) : Int) < (((((a + b).toNat / 2 : Nat) : Int) + m) - st))) ga_t _ (fun hA v602 hv603 => R_cmp (a := (((((a + b).toNat / 2 : Nat) : Int) + m) - st)) (b := b) (r := (decide ((((((a + b).toNat / 2 : Nat) : Int) + m) - st) < b))) (gv_t hA) (gv_t hA) rfl ⟨rfl, Gr.refl _ _⟩) ?_
          refine Lx_q (i := 7) rfl rfl _ (fun v604 hv605 => R_pick (t := (decide ((((a + b).toNat / 2 : Nat) : Int) < (((((a + b).toNat / 2 : Nat) : Int) + m) - st)))) (v := (.bool ((decide ((((a + b).toNat / 2 : Nat) : Int) < (((((a + b).toNat / 2 : Nat) : Int) + m) - st))) && (decide ((((((a + b).toNat / 2 : Nat) : Int) + m) - st) < b))))) rfl pk_and ⟨rfl, Gr.refl _ _⟩) ?_
          refine Lx_nil (fun w606 hw607 => ?_)
          have H608 := H556.ext hw607
          refine Then_n ?_
          refine W_cond (t := ((decide ((((a + b).toNat / 2 : Nat) : Int) < (((((a + b).toNat / 2 : Nat) : Int) + m) - st))) && (decide ((((((a + b).toNat / 2 : Nat) : Int) + m) - st) < b)))) rfl (fun hc609 => ?_) (fun hc609 => ?_)
          ·have hc609 : (((((a + b).toNat / 2 : Nat) : Int) < (((((a + b).toNat / 2 : Nat) : Int) + m) - st)) ∧ ((((((a + b).toNat / 2 : Nat) : Int) + m) - st) < b)) := (And.imp (fun h => (of_decide_eq_true h)) (fun h => (of_decide_eq_true h)) (andT hc609))
           refine W_reg ?_
           refine O_v rfl (R_move (v := (slV hs s)) rfl ?_)
           refine O_v rfl (R_move (v := (.int .i64 (((a + b).toNat / 2 : Nat) : Int))) rfl ?_)
           refine O_v rfl (R_move (v := (.int .i64 (((((a + b).toNat / 2 : Nat) : Int) + m) - st))) rfl ?_)
           refine O_v rfl (R_move (v := (.int .i64 b)) rfl ?_)
           refine O_v rfl (R_move (v := (.func (.func kcmp) #[] ccmp)) rfl ?_)
           refine O_v rfl (R_callL (vs := [(slV hs s), (.int .i64 (((a + b).toNat / 2 : Nat) : Int)), (.int .i64 (((((a + b).toNat / 2 : Nat) : Int) + m) - st)), (.int .i64 b), (.func (.func kcmp) #[] ccmp)]) symMerge_Row_c74 rfl rfl ((IH hs s (((a + b).toNat / 2 : Nat) : Int) (((((a + b).toNat / 2 : Nat) : Int) + m) - st) b kcmp ccmp f w606 (H608.getOwn 0 rfl) Kcmp (fun x hx y hy w1 he => Ccmp x ((List.Perm.refl _).mem_iff.1 hx) y ((List.Perm.refl _).mem_iff.1 hy) w1 (H608.gr.trans (he.mono (fun b hb => own_slV.trans hb)))) (by omega) (by omega) (by omega) (by omega) (by omega) (by omega)).ret ?_))
           rintro _ w610 ⟨s614, rfl, hg611, ho612, hr615⟩
           have H613 := H608.updRow 0 rfl hg611 ho612
           have hr615l := (hr615).length_eq
           refine O_nil (ret_n ?_)
           exact ret_0 Try.results74 ⟨_, rfl, H613.gr, H613.getOwn 0 rfl, hr615⟩
          ·have hc609 : (¬ ((((a + b).toNat / 2 : Nat) : Int) < (((((a + b).toNat / 2 : Nat) : Int) + m) - st)) ∨ ¬ ((((((a + b).toNat / 2 : Nat) : Int) + m) - st) < b)) := (Or.imp (fun h => (of_decide_eq_false h)) (fun h => (of_decide_eq_false h)) (andF hc609))
           refine W_skip (ret_n ?_)
           exact ret_0 Try.results74 ⟨_, rfl, H608.gr, H608.getOwn 0 rfl, (List.Perm.refl _)⟩
theorem symMerge_Row (hs : SlH) (s : List RowS) (a : Int) (m : Int) (b : Int) (kcmp : FuncId) (ccmp : Array Value) (f : RowS → RowS → Int) (w : World) (Os : OwnS 0 44 8 rowCh hs s w) (Kcmp : callable Try.prog kcmp = true) (Ccmp : ∀ x ∈ s, ∀ y ∈ s, ∀ w1, Gr (fun b => (slV hs s).ownBlock = some b) w w1 → Calls Try.prog kcmp (#[rowV x, rowV y] ++ ccmp) w1 (Ret fun v w2 => v = .int .i64 (f x y) ∧ Ext w1 w2)) (ha : 0 ≤ a) (ham : a < m) (hmb : m < b) (hb : b ≤ s.length) (hsl : s.length ≤ 1048576) :
    Calls Try.prog 74 #[(slV hs s), (.int .i64 a), (.int .i64 m), (.int .i64 b), (.func (.func kcmp) #[] ccmp)] w (Ret fun v w' => ∃ s' : List RowS, v = .tuple #[] ∧ Gr (fun b => (slV hs s).ownBlock = some b) w w' ∧ OwnS 0 44 8 rowCh hs s' w' ∧ (s'.Perm s)) := symMerge_Row_aux _ hs s a m b kcmp ccmp f w Os Kcmp Ccmp ha ham hmb hb hsl (Nat.lt_succ_self _)

end Go.Proofs.Ytiknfldhommmpaa
namespace Go.Proofs.Ytiknfldhommmpaa
open Go
set_option maxRecDepth 100000
set_option linter.unusedVariables false
set_option linter.unusedSimpArgs false
theorem stable_Row_c73 : callable Try.prog 73 = true := by kernel_rfl
theorem stable_Row_c74 : callable Try.prog 74 = true := by kernel_rfl
set_option maxHeartbeats 1000000 in
theorem stable_Row (hs : SlH) (s : List RowS) (n : Int) (kcmp : FuncId) (ccmp : Array Value) (f : RowS → RowS → Int) (w : World) (Os : OwnS 0 44 8 rowCh hs s w) (Kcmp : callable Try.prog kcmp = true) (Ccmp : ∀ x ∈ s, ∀ y ∈ s, ∀ w1, Gr (fun b => (slV hs s).ownBlock = some b) w w1 → Calls Try.prog kcmp (#[rowV x, rowV y] ++ ccmp) w1 (Ret fun v w2 => v = .int .i64 (f x y) ∧ Ext w1 w2)) (hn0 : 0 ≤ n) (hn : n ≤ s.length) (hsl : s.length ≤ 1048576) :
    Calls Try.prog 62 #[(slV hs s), (.int .i64 n), (.func (.func kcmp) #[] ccmp)] w (Ret fun v w' => ∃ s' : List RowS, v = .tuple #[] ∧ Gr (fun b => (slV hs s).ownBlock = some b) w w' ∧ OwnS 0 44 8 rowCh hs s' w' ∧ (s'.Perm s)) := by
 refine calls_W Try.func62 rfl Try.ntmps62 rfl ?_
 have H0 := Ctx.startRow Os
 have LSs := (OwnS.sl Os (fun _ => rfl)).len
 refine W_seq (W_reg ?_)
 refine O_v rfl (R_assign (v := (.int .i64 20)) rfl ?_)
 refine O_nil (Then_n (W_seq (W_reg ?_)))
 refine O_v rfl (R_move (v := (.int .i64 20)) rfl ?_)
 refine O_v rfl (R_assign (v := (.int .i64 0)) rfl ?_)
 refine O_v rfl (R_assign (v := (.int .i64 20)) rfl ?_)
 refine O_nil (Then_n (W_seq (W_block ?_)))
 refine W_loop (fun m1 e2 w3 => ∃ (a : Int), ∃ (b : Int), ∃ (cur : List RowS), m1 = (n - a).toNat ∧ (0 ≤ a ∧ a ≤ n ∧ b = a + 20) ∧ (cur.length = s.length) ∧ (cur.Perm s) ∧ ∃ eb4, e2 = envL [(0, (slV hs s)), (1, (.int .i64 n)), (2, (.func (.func kcmp) #[] ccmp)), (6, (.int .i64 20)), (7, (.int .i64 a)), (8, (.int .i64 b))] eb4 ∧ Ctx w (fun b => (slV hs s).ownBlock = some b) w3 [rowR 44 8 rowCh hs cur] []) _ ⟨0, 20, s, rfl, (by omega), rfl, (List.Perm.refl _), _, envL_self ⟨rfl, rfl, rfl, rfl, rfl, rfl, trivial⟩, H0⟩ ?_
 rintro m1 _ w3 ⟨a, b, cur, rfl, hab, hl, hp, eb4, rfl, H5⟩
 refine W_seq (W_seq (W_reg ?_))
 refine O_v rfl (R_move (v := (.int .i64 b)) rfl ?_)
 refine O_v rfl (R_move (v := (.int .i64 n)) rfl ?_)
 refine O_v rfl (R_cmp (a := b) (b := n) (r := (decide (b ≤ n))) rfl rfl rfl ?_)
 refine O_nil (Then_n ?_)
 refine W_cond (t := (decide (b ≤ n))) rfl (fun hc6 => ?_) (fun hc6 => ?_)
 ·have hc6 : (b ≤ n) := (of_decide_eq_true hc6)
  refine W_skip (Then_n (W_block (W_seq (W_reg ?_))))
  refine O_v rfl (R_move (v := (slV hs s)) rfl ?_)
  refine O_v rfl (R_move (v := (.int .i64 a)) rfl ?_)
  refine O_v rfl (R_move (v := (.int .i64 b)) rfl ?_)
  refine O_v rfl (R_move (v := (.func (.func kcmp) #[] ccmp)) rfl ?_)
  refine O_v rfl (R_callL (vs := [(slV hs cur), (.int .i64 a), (.int .i64 b), (.func (.func kcmp) #[] ccmp)]) stable_Row_c73 rfl (lst4 (slV_len (l := s) (l' := cur) (by omega)) rfl rfl rfl) ((insSort_Row hs cur a b kcmp ccmp f w3 (H5.getOwn 0 rfl) Kcmp (fun x hx y hy w1 he => Ccmp x (hp.mem_iff.1 hx) y (hp.mem_iff.1 hy) w1 (H5.gr.trans (he.mono (fun b hb => own_slV.trans hb)))) (by omega) (by omega) (by omega) (by omega)).ret ?_))
  rintro _ w7 ⟨s11, rfl, hg8, ho9, hr12⟩
  have H10 := H5.updRow 0 rfl hg8 ho9
  have hr12l := (hr12).length_eq
  refine O_nil (Then_n (W_seq (W_reg ?_)))
  refine O_v rfl (R_move (v := (.int .i64 b)) rfl ?_)
  refine O_v rfl (R_assign (v := (.int .i64 b)) rfl ?_)
  refine O_nil (Then_n (W_reg ?_))
  refine O_v rfl (R_move (v := (.int .i64 b)) rfl ?_)
  refine O_v rfl (R_move (v := (.int .i64 20)) rfl ?_)
  refine O_v rfl (R_arith (a := b) (b := 20) (r0 := b + 20) (r := b + 20) rfl rfl rfl (w64 _ (by omega)) ?_)
  refine O_v rfl (R_assign (v := (.int .i64 (b + 20))) rfl ?_)
  refine O_nil (Blk_n (Then_n ?_))
  refine ⟨_, ?_, b, (b + 20), s11, rfl, (by omega), (by omega), (hr12.trans hp), _, envL_self ⟨rfl, rfl, rfl, rfl, rfl, rfl, trivial⟩, H10⟩
  omega
 ·have hc6 : ¬ (b ≤ n) := (of_decide_eq_false hc6)
  refine W_exit (Then_x (Then_x (Blk_x (Then_n (W_seq (W_reg ?_))))))
  refine O_v rfl (R_move (v := (slV hs s)) rfl ?_)
  refine O_v rfl (R_move (v := (.int .i64 a)) rfl ?_)
  refine O_v rfl (R_move (v := (.int .i64 n)) rfl ?_)
  refine O_v rfl (R_move (v := (.func (.func kcmp) #[] ccmp)) rfl ?_)
  refine O_v rfl (R_callL (vs := [(slV hs cur), (.int .i64 a), (.int .i64 n), (.func (.func kcmp) #[] ccmp)]) stable_Row_c73 rfl (lst4 (slV_len (l := s) (l' := cur) (by omega)) rfl rfl rfl) ((insSort_Row hs cur a n kcmp ccmp f w3 (H5.getOwn 0 rfl) Kcmp (fun x hx y hy w1 he => Ccmp x (hp.mem_iff.1 hx) y (hp.mem_iff.1 hy) w1 (H5.gr.trans (he.mono (fun b hb => own_slV.trans hb)))) (by omega) (by omega) (by omega) (by omega)).ret ?_))
  rintro _ w13 ⟨s17, rfl, hg14, ho15, hr18⟩
  have H16 := H5.updRow 0 rfl hg14 ho15
  have hr18l := (hr18).length_eq
  refine O_nil (Then_n (W_block ?_))
  refine W_loop (fun m19 e20 w21 => ∃ (bs : Int), ∃ (cur2 : List RowS), m19 = (n - bs).toNat ∧ (20 ≤ bs) ∧ (cur2.length = s.length) ∧ (cur2.Perm s) ∧ ∃ eb22, e20 = envL [(0, (slV hs s)), (1, (.int .i64 n)), (2, (.func (.func kcmp) #[] ccmp)), (6, (.int .i64 bs))] eb22 ∧ Ctx w (fun b => (slV hs s).ownBlock = some b) w21 [rowR 44 8 rowCh hs cur2] []) _ ⟨20, s17, rfl, (by omega), (by omega), (hr18.trans hp), _, envL_self ⟨rfl, rfl, rfl, rfl, trivial⟩, H16⟩ ?_
  rintro m19 _ w21 ⟨bs, cur2, rfl, hbs, hl2, hp2, eb22, rfl, H23⟩
  refine W_seq (W_seq (W_reg ?_))
  refine O_v rfl (R_move (v := (.int .i64 bs)) rfl ?_)
  refine O_v rfl (R_move (v := (.int .i64 n)) rfl ?_)
  refine O_v rfl (R_cmp (a := bs) (b := n) (r := (decide (bs < n))) rfl rfl rfl ?_)
  refine O_nil (Then_n ?_)
  refine W_cond (t := (decide (bs < n))) rfl (fun hc24 => ?_) (fun hc24 => ?_)
  ·have hc24 : (bs < n) := (of_decide_eq_true hc24)
   refine W_skip (Then_n (W_block (W_seq (W_reg ?_))))
   refine O_v rfl (R_move (v := (.int .i64 bs)) rfl ?_)
   refine O_v rfl (R_arith (a := 2) (b := bs) (r0 := 2 * bs) (r := 2 * bs) rfl rfl rfl (w64 _ (by omega)) ?_)
   refine O_v rfl (R_assign (v := (.int .i64 0)) rfl ?_)
   refine O_v rfl (R_assign (v := (.int .i64 (2 * bs))) rfl ?_)
   refine O_nil (Then_n (W_seq (W_block ?_)))
   refine W_loop (fun m25 e26 w27 => ∃ (a3 : Int), ∃ (b3 : Int), ∃ (cur3 : List RowS), m25 = (n - a3).toNat ∧ (0 ≤ a3 ∧ a3 ≤ n ∧ b3 = a3 + 2 * bs) ∧ (cur3.length = s.length) ∧ (cur3.Perm s) ∧ ∃ eb28, e26 = envL [(0, (slV hs s)), (1, (.int .i64 n)), (2, (.func (.func kcmp) #[] ccmp)), (6, (.int .i64 bs)), (7, (.int .i64 a3)), (8, (.int .i64 b3)), (28, (.int .i64 bs)), (29, (.int .i64 n)), (30, (.bool (decide (bs < n)))), (31, (.int .i64 bs)), (32, (.int .i64 (2 * bs)))] eb28 ∧ Ctx w (fun b => (slV hs s).ownBlock = some b) w27 [rowR 44 8 rowCh hs cur3] []) _ ⟨0, (2 * bs), cur2, rfl, (by omega), hl2, hp2, _, envL_self ⟨rfl, rfl, rfl, rfl, rfl, rfl, rfl, rfl, rfl, rfl, rfl, trivial⟩, H23⟩ ?_
   rintro m25 _ w27 ⟨a3, b3, cur3, rfl, hab3, hl3, hp3, eb28, rfl, H29⟩
   refine W_seq (W_seq (W_reg ?_))
   refine O_v rfl (R_move (v := (.int .i64 b3)) rfl ?_)
   refine O_v rfl (R_move (v := (.int .i64 n)) rfl ?_)
   refine O_v rfl (R_cmp (a := b3) (b := n) (r := (decide (b3 ≤ n))) rfl rfl rfl ?_)
   refine O_nil (Then_n ?_)
   refine W_cond (t := (decide (b3 ≤ n))) rfl (fun hc30 => ?_) (fun hc30 => ?_)
   ·have hc30 : (b3 ≤ n) := (of_decide_eq_true hc30)
    refine W_skip (Then_n (W_block (W_seq (W_reg ?_))))
    refine O_v rfl (R_move (v := (slV hs s)) rfl ?_)
    refine O_v rfl (R_move (v := (.int .i64 a3)) rfl ?_)
    refine O_v rfl (R_move (v := (.int .i64 a3)) rfl ?_)
    refine O_v rfl (R_move (v := (.int .i64 bs)) rfl ?_)
    refine O_v rfl (R_arith (a := a3) (b := bs) (r0 := a3 + bs) (r := a3 + bs) rfl rfl rfl (w64 _ (by omega)) ?_)
    refine O_v rfl (R_move (v := (.int .i64 b3)) rfl ?_)
    refine O_v rfl (R_move (v := (.func (.func kcmp) #[] ccmp)) rfl ?_)
    refine O_v rfl (R_callL (vs := [(slV hs cur3), (.int .i64 a3), (.int .i64 (a3 + bs)), (.int .i64 b3), (.func (.func kcmp) #[] ccmp)]) stable_Row_c74 rfl (lst5 (slV_len (l := s) (l' := cur3) (by omega)) rfl rfl rfl rfl) ((symMerge_Row hs cur3 a3 (a3 + bs) b3 kcmp ccmp f w27 (H29.getOwn 0 rfl) Kcmp (fun x hx y hy w1 he => Ccmp x (hp3.mem_iff.1 hx) y (hp3.mem_iff.1 hy) w1 (H29.gr.trans (he.mono (fun b hb => own_slV.trans hb)))) (by omega) (by omega) (by omega) (by omega) (by omega)).ret ?_))
    rintro _ w31 ⟨s35, rfl, hg32, ho33, hr36⟩
    have H34 := H29.updRow 0 rfl hg32 ho33
    have hr36l := (hr36).length_eq
    refine O_nil (Then_n (W_seq (W_reg ?_)))
    refine O_v rfl (R_move (v := (.int .i64 b3)) rfl ?_)
    refine O_v rfl (R_assign (v := (.int .i64 b3)) rfl ?_)
    refine O_nil (Then_n (W_reg ?_))
    refine O_v rfl (R_move (v := (.int .i64 b3)) rfl ?_)
    refine O_v rfl (R_move (v := (.int .i64 bs)) rfl ?_)
    refine O_v rfl (R_arith (a := 2) (b := bs) (r0 := 2 * bs) (r := 2 * bs) rfl rfl rfl (w64 _ (by omega)) ?_)
    refine O_v rfl (R_arith (a := b3) (b := (2 * bs)) (r0 := b3 + (2 * bs)) (r := b3 + (2 * bs)) rfl rfl rfl (w64 _ (by omega)) ?_)
    refine O_v rfl (R_assign (v := (.int .i64 (b3 + (2 * bs)))) rfl ?_)
    refine O_nil (Blk_n (Then_n ?_))
    refine ⟨_, ?_, b3, (b3 + (2 * bs)), s35, rfl, (by omega), (by omega), (hr36.trans hp3), _, envL_self ⟨rfl, rfl, rfl, rfl, rfl, rfl, rfl, rfl, rfl, rfl, rfl, trivial⟩, H34⟩
    omega
   ·have hc30 : ¬ (b3 ≤ n) := (of_decide_eq_false hc30)
    refine W_exit (Then_x (Then_x (Blk_x (Then_n (W_seq (W_seq (W_reg ?_)))))))
    refine O_v rfl (R_move (v := (.int .i64 a3)) rfl ?_)
    refine O_v rfl (R_move (v := (.int .i64 bs)) rfl ?_)
    refine O_v rfl (R_arith (a := a3) (b := bs) (r0 := a3 + bs) (r := a3 + bs) rfl rfl rfl (w64 _ (by omega)) ?_)
    refine O_v rfl (R_assign (v := (.int .i64 (a3 + bs))) rfl ?_)
    refine O_nil (Then_n (W_seq (W_reg ?_)))
    refine O_v rfl (R_move (v := (.int .i64 (a3 + bs))) rfl ?_)
    refine O_v rfl (R_move (v := (.int .i64 n)) rfl ?_)
    refine O_v rfl (R_cmp (a := (a3 + bs)) (b := n) (r := (decide ((a3 + bs) < n))) rfl rfl rfl ?_)
    refine O_nil (Then_n ?_)
    refine W_cond (t := (decide ((a3 + bs) < n))) rfl (fun hc37 => ?_) (fun hc37 => ?_)
    ·have hc37 : ((a3 + bs) < n) := (of_decide_eq_true hc37)
     refine W_reg ?_
     refine O_v rfl (R_move (v := (slV hs s)) rfl ?_)
     refine O_v rfl (R_move (v := (.int .i64 a3)) rfl ?_)
     refine O_v rfl (R_move (v := (.int .i64 (a3 + bs))) rfl ?_)
     refine O_v rfl (R_move (v := (.int .i64 n)) rfl ?_)
     refine O_v rfl (R_move (v := (.func (.func kcmp) #[] ccmp)) rfl ?_)
     refine O_v rfl (R_callL (vs := [(slV hs cur3), (.int .i64 a3), (.int .i64 (a3 + bs)), (.int .i64 n), (.func (.func kcmp) #[] ccmp)]) stable_Row_c74 rfl (lst5 (slV_len (l := s) (l' := cur3) (by omega)) rfl rfl rfl rfl) ((symMerge_Row hs cur3 a3 (a3 + bs) n kcmp ccmp f w27 (H29.getOwn 0 rfl) Kcmp (fun x hx y hy w1 he => Ccmp x (hp3.mem_iff.1 hx) y (hp3.mem_iff.1 hy) w1 (H29.gr.trans (he.mono (fun b hb => own_slV.trans hb)))) (by omega) (by omega) (by omega) (by omega) (by omega)).ret ?_))
     rintro _ w38 ⟨s42, rfl, hg39, ho40, hr43⟩
     have H41 := H29.updRow 0 rfl hg39 ho40
     have hr43l := (hr43).length_eq
     refine O_nil (Then_n (W_reg ?_))
     refine O_v rfl (R_move (v := (.int .i64 bs)) rfl ?_)
     refine O_v rfl (R_arith (a := bs) (b := 2) (r0 := bs * 2) (r := bs * 2) rfl rfl rfl (w64 _ (by omega)) ?_)
     refine O_v rfl (R_assign (v := (.int .i64 (bs * 2))) rfl ?_)
     refine O_nil (Blk_n (Then_n ?_))
     refine ⟨_, ?_, (bs * 2), s42, rfl, (by omega), (by omega), (hr43.trans hp3), _, envL_self ⟨rfl, rfl, rfl, rfl, trivial⟩, H41⟩
     omega
    ·have hc37 : ¬ ((a3 + bs) < n) := (of_decide_eq_false hc37)
     refine W_skip (Then_n (W_reg ?_))
     refine O_v rfl (R_move (v := (.int .i64 bs)) rfl ?_)
     refine O_v rfl (R_arith (a := bs) (b := 2) (r0 := bs * 2) (r := bs * 2) rfl rfl rfl (w64 _ (by omega)) ?_)
     refine O_v rfl (R_assign (v := (.int .i64 (bs * 2))) rfl ?_)
     refine O_nil (Blk_n (Then_n ?_))
     refine ⟨_, ?_, (bs * 2), cur3, rfl, (by omega), (by omega), hp3, _, envL_self ⟨rfl, rfl, rfl, rfl, trivial⟩, H29⟩
     omega
  ·have hc24 : ¬ (bs < n) := (of_decide_eq_false hc24)
   refine W_exit (Then_x (Then_x (Blk_x (ret_n ?_))))
   exact ret_0 Try.results62 ⟨_, rfl, H23.gr, H23.getOwn 0 rfl, hp2⟩

end Go.Proofs.Ytiknfldhommmpaa
namespace Go.Proofs.Ytiknfldhommmpaa
open Go
set_option maxRecDepth 100000
set_option linter.unusedVariables false
set_option linter.unusedSimpArgs false
theorem SortStable_Row_c62 : callable Try.prog 62 = true := by kernel_rfl
set_option maxHeartbeats 1000000 in
theorem SortStable_Row (hs : SlH) (s : List RowS) (kcmp : FuncId) (ccmp : Array Value) (f : RowS → RowS → Int) (w : World) (Os : OwnS 0 44 8 rowCh hs s w) (Kcmp : callable Try.prog kcmp = true) (Ccmp : ∀ x ∈ s, ∀ y ∈ s, ∀ w1, Gr (fun b => (slV hs s).ownBlock = some b) w w1 → Calls Try.prog kcmp (#[rowV x, rowV y] ++ ccmp) w1 (Ret fun v w2 => v = .int .i64 (f x y) ∧ Ext w1 w2)) (hsl : s.length ≤ 1048576) :
    Calls Try.prog 49 #[(slV hs s), (.func (.func kcmp) #[] ccmp)] w (Ret fun v w' => ∃ s' : List RowS, v = .tuple #[] ∧ Gr (fun b => (slV hs s).ownBlock = some b) w w' ∧ OwnS 0 44 8 rowCh hs s' w' ∧ (s'.Perm s)) := by
 refine calls_W Try.func49 rfl Try.ntmps49 rfl ?_
 have H0 := Ctx.startRow Os
 have LSs := (OwnS.sl Os (fun _ => rfl)).len
 refine W_reg ?_
 refine O_v rfl (R_move (v := (slV hs s)) rfl ?_)
 refine O_v rfl (R_move (v := (slV hs s)) rfl ?_)
 refine O_v rfl (R_len_slice (a := hs.a) (n := s.length) (c := hs.c) Try.underlying22 rfl ?_)
 refine O_v rfl (R_move (v := (.func (.func kcmp) #[] ccmp)) rfl ?_)
 refine O_v rfl (R_callL (vs := [(slV hs s), (.int .i64 ((s.length : Nat) : Int)), (.func (.func kcmp) #[] ccmp)]) SortStable_Row_c62 rfl rfl ((stable_Row hs s ((s.length : Nat) : Int) kcmp ccmp f w (H0.getOwn 0 rfl) Kcmp (fun x hx y hy w1 he => Ccmp x hx y hy w1 (H0.gr.trans he)) (by omega) (by omega) (by omega)).ret ?_))
 rintro _ w1 ⟨s5, rfl, hg2, ho3, hr6⟩
 have H4 := H0.updRow 0 rfl hg2 ho3
 have hr6l := (hr6).length_eq
 refine O_nil (ret_n ?_)
 exact ret_0 Try.results49 ⟨_, rfl, H4.gr, H4.getOwn 0 rfl, hr6⟩

end Go.Proofs.Ytiknfldhommmpaa
namespace Go.Proofs.Ytiknfldhommmpaa
open Go
set_option maxRecDepth 100000
set_option linter.unusedVariables false
set_option linter.unusedSimpArgs false
set_option maxHeartbeats 1000000 in
theorem differ_trash  (w : World) :
    Calls Try.prog 26 #[] w (Ret fun v w' => v = (aggOf (stampCh (⟨0, 1⟩ : Stamp))) ∧ Ext w w') := by
 refine calls_W Try.func26 rfl Try.ntmps26 rfl ?_
 have H0 := Ctx.start w nob
 refine W_seq (W_reg ?_)
 refine O_v rfl (C_alloc H0 [[(.int .i64 0)], [(.int .i64 0)]] Try.zeroValue24 ?_)
 intro b1 w2 hb3 hx4 H5
 refine O_nil (Then_n (W_seq (W_reg ?_)))
 refine O_v rfl (R_buildL (vs := [(1, (.int .i64 1))]) (v := aggOf [[(.int .i64 0)], [(.int .i64 1)]]) rfl (fun _ => by kernel_rfl) ?_)
 refine O_u (C_storeA H5 0 rfl 0 (sub := [[(.int .i64 0)], [(.int .i64 1)]]) [[(.int .i64 0)], [(.int .i64 1)]] Try.sizeOf24 rfl rfl rfl rfl ⟨[[(.int .i64 0)], [(.int .i64 0)]], [], rfl, rfl, rfl⟩ rfl ?_)
 intro w6 hg7 H8
 refine O_nil (Then_n (W_ret ?_))
 refine ret_c Try.results26 (inMem (cs := [[(.int .i64 0)], [(.int .i64 1)]]) rfl Try.isAgg24 Try.sizeOf24 rfl (boxR_at (H8.getOwn 0 rfl))) ?_
 exact ⟨rfl, H8.gr⟩

end Go.Proofs.Ytiknfldhommmpaa
namespace Go.Proofs.Ytiknfldhommmpaa
open Go
set_option maxRecDepth 100000
set_option linter.unusedVariables false
set_option linter.unusedSimpArgs false
set_option maxHeartbeats 1000000 in
theorem differ_depth (rt : Nat) (t : List (Stamp × RowS)) (node : Stamp) (w : World) (Qt : MapQ rt (fun x : Stamp => stampV x) rowV t w) (hd : depN t (depOf t node) node) (hb : depOf t node ≤ 9223372036854775806) :
    Calls Try.prog 52 #[(.map (some rt)), (aggOf (stampCh node))] w (Ret fun v w' => v = (.int .i64 ((depOf t node : Nat) : Int)) ∧ Ext w w') := by
 refine calls_W Try.func52 rfl Try.ntmps52 rfl ?_
 have H0 := Ctx.start w nob
 have H1 := H0.addImm' (mapI (Old w) rt (MapQ.lt Qt) (fun x : Stamp => stampV x) rowV t) Qt (fun b hb => ⟨hb, fun _ ho => (nomatch ho)⟩)
 refine W_seq (W_reg ?_)
 refine O_v rfl (C_box H1 [[(.int .i64 node.T)], [(.int .i64 node.R)]] rfl ?_)
 intro b2 w3 hb4 hx5 H6
 refine O_v rfl (R_assign (v := (.int .i64 0)) rfl ?_)
 refine O_nil (Then_n (W_seq (W_reg ?_)))
 refine O_v rfl (R_assign (v := (.int .i64 0)) rfl ?_)
 refine O_nil (Then_n (W_seq (W_block ?_)))
 refine W_loop (fun m7 e8 w9 => ∃ (k : Nat), ∃ (d : Nat), ∃ (nd : Stamp), m7 = d + 1 ∧ (depN t d nd) ∧ (k + d = depOf t node) ∧ ∃ eb10, e8 = envL [(0, (.map (some rt))), (3, (.pointer (some ⟨b2, 0, none⟩))), (4, (.int .i64 0)), (5, (.int .i64 ((k : Nat) : Int)))] eb10 ∧ Ctx w nob w9 [boxR b2 24 [[(.int .i64 nd.T)], [(.int .i64 nd.R)]]] [mapI (Old w) rt (MapQ.lt Qt) (fun x : Stamp => stampV x) rowV t]) _ ⟨0, (depOf t node), node, rfl, hd, (Nat.zero_add _), _, envL_self ⟨rfl, rfl, rfl, rfl, trivial⟩, H6⟩ ?_
 rintro m7 _ w9 ⟨k, d, nd, rfl, hdn, hkd, eb10, rfl, H11⟩
 refine W_seq (W_seq (W_reg ?_))
 refine O_v rfl (R_fieldAddr (off := 0) (oo := 0) Try.underlying24 rfl rfl Try.sizeOf2 rfl rfl ?_)
 refine O_v rfl (R_load1 (v := (.int .i64 nd.T)) Try.isAgg2 rfl ((boxR_at (H11.getOwn 0 rfl)).chunks 0 1 0 0 _ rfl rfl rfl) ?_)
 refine O_v rfl (R_cmp (a := nd.T) (b := 0) (r := (!(decide (nd.T = 0)))) rfl rfl rfl ?_)
 refine O_nil (Then_n ?_)
 refine W_cond (t := (!(decide (nd.T = 0)))) rfl (fun hc12 => ?_) (fun hc12 => ?_)
 ·have hc12 : ¬ (nd.T = 0) := (of_decide_eq_false (notT hc12))
  refine W_skip (Then_n (W_block (W_seq (W_reg ?_))))
  refine O_v rfl (R_move (v := (.map (some rt))) rfl ?_)
  refine O_v rfl (R_loadA (cs := [[(.int .i64 nd.T)], [(.int .i64 nd.R)]]) Try.isAgg24 Try.sizeOf24 rfl rfl ((boxR_at (H11.getOwn 0 rfl)).chunks 0 2 0 0 _ rfl rfl rfl) ?_)
  refine O_v rfl (R_lookup (kk := nd) (z := zeroRow) keyT_Stamp24 Try.underlying56 Try.zeroValue44 (H11.getImm 0 rfl) rfl rfl ?_)
  refine O_v rfl (R_field (cs := [[(.int .i64 ((((kvGet t nd).getD zeroRow).node).T))], [(.int .i64 ((((kvGet t nd).getD zeroRow).node).R))], [(.int .i64 ((((kvGet t nd).getD zeroRow).par).T))], [(.int .i64 ((((kvGet t nd).getD zeroRow).par).R))], [(.int .i64 ((((kvGet t nd).getD zeroRow).tm).T))], [(.int .i64 ((((kvGet t nd).getD zeroRow).tm).R))], [(.string (((kvGet t nd).getD zeroRow).name))], [(slV (((kvGet t nd).getD zeroRow).hh) (((kvGet t nd).getD zeroRow).heads))]]) (sub := [[(.int .i64 ((((kvGet t nd).getD zeroRow).par).T))], [(.int .i64 ((((kvGet t nd).getD zeroRow).par).R))]]) (kk := 2) (m := 2) (off := 2) Try.underlying44 rfl rfl Try.isAgg24 Try.sizeOf24 rfl rfl rfl rfl ?_)
  refine O_u (C_storeA H11 0 rfl 0 (sub := [[(.int .i64 ((((kvGet t nd).getD zeroRow).par).T))], [(.int .i64 ((((kvGet t nd).getD zeroRow).par).R))]]) [[(.int .i64 ((((kvGet t nd).getD zeroRow).par).T))], [(.int .i64 ((((kvGet t nd).getD zeroRow).par).R))]] Try.sizeOf24 rfl rfl rfl rfl ⟨[[(.int .i64 nd.T)], [(.int .i64 nd.R)]], [], rfl, rfl, rfl⟩ rfl ?_)
  intro w13 hg14 H15
  refine O_nil (Then_n (W_reg ?_))
  refine O_v rfl (R_move (v := (.int .i64 ((k : Nat) : Int))) rfl ?_)
  refine O_v rfl (R_arith (a := ((k : Nat) : Int)) (b := 1) (r0 := ((k : Nat) : Int) + 1) (r := ((k + 1 : Nat) : Int)) rfl rfl rfl (wrapN _ (by have := (dep_step hdn (by assumption)).1; omega)) ?_)
  refine O_v rfl (R_assign (v := (.int .i64 ((k + 1 : Nat) : Int))) rfl ?_)
  refine O_nil (Blk_n (Then_n ?_))
  refine ⟨_, ?_, (k + 1), (d - 1), (((kvGet t nd).getD zeroRow).par), rfl, (dep_step hdn (by assumption)).2, (by have := (dep_step hdn (by assumption)).1; omega), _, envL_self ⟨rfl, rfl, rfl, rfl, trivial⟩, H15⟩
  have := (dep_step hdn (by assumption)).1; omega
 ·have hc12 : (nd.T = 0) := (of_decide_eq_true (notF hc12))
  refine W_exit (Then_x (Then_x (Blk_x (Then_n (W_seq (W_reg ?_))))))
  refine O_v rfl (R_move (v := (.int .i64 ((k : Nat) : Int))) rfl ?_)
  refine O_v rfl (R_assign (v := (.int .i64 ((k : Nat) : Int))) rfl ?_)
  refine O_nil (Then_n (W_ret ?_))
  refine ret_1 (v := (.int .i64 ((k : Nat) : Int))) Try.results52 rfl ?_
  exact ⟨(by rw [dep_zero hdn hkd (by omega)]), H11.gr⟩

end Go.Proofs.Ytiknfldhommmpaa
namespace Go.Proofs.Ytiknfldhommmpaa
open Go
set_option maxRecDepth 100000
set_option linter.unusedVariables false
set_option linter.unusedSimpArgs false
theorem maker_moves_1_c51 : callable Try.prog 51 = true := by kernel_rfl
theorem maker_moves_1_c52 : callable Try.prog 52 = true := by kernel_rfl
set_option maxHeartbeats 1000000 in
theorem maker_moves_1 (p : RowS) (q : RowS) (bt rt : Nat) (t : List (Stamp × RowS)) (w : World) (Bt : (boxR bt 56 [[.map (some rt)]]).q w) (Qt : MapQ rt (fun x : Stamp => stampV x) rowV t w) (hd : depN t (depOf t p.node) p.node ∧ depN t (depOf t q.node) q.node) (hb : depOf t p.node ≤ 9223372036854775806 ∧ depOf t q.node ≤ 9223372036854775806) :
    Calls Try.prog 50 #[(aggOf (rowCh p)), (aggOf (rowCh q)), (.pointer (some ⟨bt, 0, none⟩))] w (Ret fun v w' => v = (.int .i64 (cmpInt ((depOf t p.node : Nat) : Int) ((depOf t q.node : Nat) : Int))) ∧ Ext w w') := by
 refine calls_W Try.func50 rfl Try.ntmps50 rfl ?_
 have H0 := Ctx.start w nob
 have H1 := H0.addImm' (boxI (Old w) bt (boxR_lt Bt) 56 [[.map (some rt)]]) Bt (fun b hb => ⟨hb, fun _ ho => (nomatch ho)⟩)
 have H2 := H1.addImm' (mapI (Old w) rt (MapQ.lt Qt) (fun x : Stamp => stampV x) rowV t) Qt (fun b hb => ⟨hb, fun _ ho => (nomatch ho)⟩)
 refine W_seq (W_reg ?_)
 refine O_v rfl (C_box H2 [[(.int .i64 p.node.T)], [(.int .i64 p.node.R)], [(.int .i64 p.par.T)], [(.int .i64 p.par.R)], [(.int .i64 p.tm.T)], [(.int .i64 p.tm.R)], [(.string p.name)], [(slV p.hh p.heads)]] rfl ?_)
 intro b3 w4 hb5 hx6 H7
 refine O_v rfl (C_box H7 [[(.int .i64 q.node.T)], [(.int .i64 q.node.R)], [(.int .i64 q.par.T)], [(.int .i64 q.par.R)], [(.int .i64 q.tm.T)], [(.int .i64 q.tm.R)], [(.string q.name)], [(slV q.hh q.heads)]] rfl ?_)
 intro b8 w9 hb10 hx11 H12
 refine O_v rfl (R_assign (v := (.int .i64 0)) rfl ?_)
 refine O_nil (Then_n (W_seq ?_))
 refine W_rgd TryMixed [(0, .q false), (1, .q false), (2, .q false), (3, .q false), (4, .q false), (5, .q false), (6, .q false), (7, .q false), (8, .q false), (9, .q false)] (by kernel_rfl) ?_
 refine Lx_q (i := 0) rfl rfl _ (fun v13 hv14 => R_load1 (v := (.map (some rt))) Try.isAgg56 rfl ((boxR_at ((H12.ext hv14).getImm 1 rfl)).chunks 0 1 0 0 _ rfl rfl rfl) ⟨rfl, Gr.refl _ _⟩) ?_
 refine Lx_q (i := 1) rfl rfl _ (fun v15 hv16 => R_fieldAddr (off := 0) (oo := 0) Try.underlying44 rfl rfl Try.sizeOf24 rfl rfl ⟨rfl, Gr.refl _ _⟩) ?_
 refine Lx_q (i := 2) rfl rfl _ (fun v17 hv18 => R_loadA (cs := [[(.int .i64 p.node.T)], [(.int .i64 p.node.R)]]) Try.isAgg24 Try.sizeOf24 rfl rfl ((boxR_at ((H12.ext hv18).getOwn 1 rfl)).chunks 0 2 0 0 _ rfl rfl rfl) ⟨rfl, Gr.refl _ _⟩) ?_
 refine Lx_q (i := 3) rfl rfl (.int .i64 ((depOf t p.node : Nat) : Int)) (fun v19 hv20 => R_callL (vs := [(.map (some rt)), (aggOf (stampCh p.node))]) maker_moves_1_c52 rfl rfl (differ_depth rt t p.node v19 ((H12.ext hv20).getImm 0 rfl) hd.1 hb.1)) ?_
 refine Lx_q (i := 4) rfl rfl _ (fun v21 hv22 => R_load1 (v := (.map (some rt))) Try.isAgg56 rfl ((boxR_at ((H12.ext hv22).getImm 1 rfl)).chunks 0 1 0 0 _ rfl rfl rfl) ⟨rfl, Gr.refl _ _⟩) ?_
 refine Lx_q (i := 5) rfl rfl _ (fun v23 hv24 => R_fieldAddr (off := 0) (oo := 0) Try.underlying44 rfl rfl Try.sizeOf24 rfl rfl ⟨rfl, Gr.refl _ _⟩) ?_
 refine Lx_q (i := 6) rfl rfl _ (fun v25 hv26 => R_loadA (cs := [[(.int .i64 q.node.T)], [(.int .i64 q.node.R)]]) Try.isAgg24 Try.sizeOf24 rfl rfl ((boxR_at ((H12.ext hv26).getOwn 0 rfl)).chunks 0 2 0 0 _ rfl rfl rfl) ⟨rfl, Gr.refl _ _⟩) ?_
 refine Lx_q (i := 7) rfl rfl (.int .i64 ((depOf t q.node : Nat) : Int)) (fun v27 hv28 => R_callL (vs := [(.map (some rt)), (aggOf (stampCh q.node))]) maker_moves_1_c52 rfl rfl (differ_depth rt t q.node v27 ((H12.ext hv28).getImm 0 rfl) hd.2 hb.2)) ?_
 refine Lx_q (i := 8) rfl rfl (.int .i64 (cmpInt ((depOf t p.node : Nat) : Int) ((depOf t q.node : Nat) : Int))) (fun v29 hv30 => R_callL (vs := [(.int .i64 ((depOf t p.node : Nat) : Int)), (.int .i64 ((depOf t q.node : Nat) : Int))]) maker_moves_1_c51 rfl rfl (Compare_int ((depOf t p.node : Nat) : Int) ((depOf t q.node : Nat) : Int) v29 )) ?_
 refine Lx_q (i := 9) rfl rfl _ (fun v31 hv32 => R_assign (v := (.int .i64 (cmpInt ((depOf t p.node : Nat) : Int) ((depOf t q.node : Nat) : Int)))) rfl ⟨rfl, Gr.refl _ _⟩) ?_
 refine Lx_nil (fun w33 hw34 => ?_)
 have H35 := H12.ext hw34
 refine Then_n (W_ret ?_)
 refine ret_1 (v := (.int .i64 (cmpInt ((depOf t p.node : Nat) : Int) ((depOf t q.node : Nat) : Int)))) Try.results50 rfl ?_
 exact ⟨rfl, H35.gr⟩

end Go.Proofs.Ytiknfldhommmpaa
namespace Go.Proofs.Ytiknfldhommmpaa
open Go
set_option maxRecDepth 100000
set_option linter.unusedVariables false
set_option linter.unusedSimpArgs false
theorem maker_moves_c24 : callable Try.prog 24 = true := by kernel_rfl
theorem maker_moves_c26 : callable Try.prog 26 = true := by kernel_rfl
theorem maker_moves_c49 : callable Try.prog 49 = true := by kernel_rfl
theorem maker_moves_c50 : callable Try.prog 50 = true := by kernel_rfl
theorem maker_moves_c53 : callable Try.prog 53 = true := by kernel_rfl
set_option maxHeartbeats 1000000 in
theorem maker_moves (bm : Nat) (m : MakerS) (Sm : Nat → Prop) (ha : SlH) (a : List RowS) (hb : SlH) (b : List RowS) (w : World) (Qm : Ctx w (objM bm m.oh m.ops) w [boxR bm 71 (makerCh m), rowR 39 41 opCh m.oh m.ops] [deepI Sm stampCh 2 (fun x : OpS => x.oh) (fun x : OpS => x.over) m.ops]) (Fa : Nat → Prop) (Xa : ∀ c, Fa c → c < w.heap.size ∧ ¬ (objM bm m.oh m.ops) c) (Sa : Sl Fa rowCh 8 ha a w) (Fb : Nat → Prop) (Xb : ∀ c, Fb c → c < w.heap.size ∧ ¬ (objM bm m.oh m.ops) c) (Sb : Sl Fb rowCh 8 hb b w) (hla : a.length ≤ 5000) (hlb : b.length ≤ 5000) (hdep : ∀ x ∈ b, depN (tableOf b) (depOf (tableOf b) x.node) x.node ∧ depOf (tableOf b) x.node ≤ 9223372036854775806) (hT : 0 ≤ m.at_.T ∧ m.at_.T ≤ 2199023255552) (hml : m.ops.length ≤ 100000) :
    Calls Try.prog 36 #[(.pointer (some ⟨bm, 0, none⟩)), (slV ha a), (slV hb b)] w (Ret fun v w' => ∃ (m' : MakerS) (S' : Nat → Prop), v = .tuple #[] ∧ Gr (objM bm m.oh m.ops) w w' ∧ Ctx w' (objM bm m'.oh m'.ops) w' [boxR bm 71 (makerCh m'), rowR 39 41 opCh m'.oh m'.ops] [deepI S' stampCh 2 (fun x : OpS => x.oh) (fun x : OpS => x.over) m'.ops] ∧ (∀ c, (slV m'.oh m'.ops).ownBlock = some c → (slV m.oh m.ops).ownBlock = some c ∨ w.heap.size ≤ c) ∧ (∀ c, S' c → Sm c ∨ w.heap.size ≤ c) ∧ (∃ L : List RowS, L.Perm (b.filter (needs a)) ∧ m'.st = (L.map mvOp ++ (a.filter (gone b)).map trOp).foldl putC m.st)) := by
 refine calls_W Try.func36 rfl Try.ntmps36 rfl ?_
 have H0 := Qm
 have H1 := H0.addSl _ Sa (fun b hb => ⟨(Xa b hb).1, objSide (Xa b hb).2⟩)
 have LSa := Sa.len
 have H2 := H1.addSl _ Sb (fun b hb => ⟨(Xb b hb).1, objSide (Xb b hb).2⟩)
 have LSb := Sb.len
 refine W_seq (W_reg ?_)
 refine O_v rfl (R_move (v := (slV ha a)) rfl ?_)
 refine O_v rfl (R_callL (vs := [(slV ha a)]) maker_moves_c24 rfl rfl ((differ_of ha a w (H2.slOld 1 rfl)).ret ?_))
 rintro _ w4 ⟨r3, rfl, hx5, hr6, hm7⟩
 have H8 := C_addMap H2 hx5 hr6 hm7
 refine O_v rfl (R_move (v := (slV hb b)) rfl ?_)
 refine O_v rfl (R_callL (vs := [(slV hb b)]) maker_moves_c24 rfl rfl ((differ_of hb b w4 (H8.slOld 0 rfl)).ret ?_))
 rintro _ w10 ⟨r9, rfl, hx11, hr12, hm13⟩
 have H14 := C_addMap H8 hx11 hr12 hm13
 refine O_v rfl (C_alloc1 H14 (z := (.map none)) Try.zeroValue56 rfl ?_)
 intro b15 w16 hb17 hx18 H19
 refine O_v rfl (R_assign (v := (.map (some r3))) rfl ?_)
 refine O_u (C_store1 H19 0 rfl 0 (v := (.map (some r9))) [[(.map (some r9))]] Try.sizeOf56 rfl rfl rfl rfl rfl rfl rfl ?_)
 intro w20 hg21 H22
 refine O_nil (Then_n (W_seq (W_reg ?_)))
 refine O_v rfl (R_assign (v := (.slice none 0 0)) rfl ?_)
 refine O_nil (Then_n (W_seq (W_seq (W_reg ?_))))
 refine O_v rfl (R_move (v := (slV hb b)) rfl ?_)
 refine O_v rfl (R_len_slice (a := hb.a) (n := b.length) (c := hb.c) Try.underlying22 rfl ?_)
 refine O_v rfl (R_move (v := (.int .i64 0)) rfl ?_)
 refine O_nil (Then_n (W_block ?_))
 have H23 := H22.addNil 44 8 rowCh
 refine W_loop (fun m25 e26 w27 => ∃ (k : Nat), ∃ (acc : List RowS), ∃ (h24 : SlH), m25 = b.length - k ∧ (k ≤ b.length) ∧ (acc = (b.take k).filter (needs a)) ∧ (acc.length ≤ k) ∧ ∃ eb28, e26 = envL [(0, (.pointer (some ⟨bm, 0, none⟩))), (1, (slV ha a)), (6, (.map (some r3))), (7, (.pointer (some ⟨b15, 0, none⟩))), (8, (slV h24 acc)), (23, (slV hb b)), (24, (.int .i64 ((b.length : Nat) : Int))), (25, (.int .i64 ((k : Nat) : Int)))] eb28 ∧ Ctx w (objM bm m.oh m.ops) w27 [rowR 44 8 rowCh h24 acc, boxR b15 56 [[(.map (some r9))]], mapO r9 (fun x : Stamp => stampV x) rowV (tableOf b), mapO r3 (fun x : Stamp => stampV x) rowV (tableOf a), boxR bm 71 [[(.int .i64 m.at_.T)], [(.int .i64 m.at_.R)], [(slV m.oh m.ops)], [(.bool m.bad)]], rowR 39 41 opCh m.oh m.ops] [slI Fb rowCh 8 hb b, slI Fa rowCh 8 ha a, deepI Sm stampCh 2 (fun x : OpS => x.oh) (fun x : OpS => x.over) m.ops]) _ ⟨0, [], nilH, rfl, (by omega), rfl, (by simp), _, envL_self ⟨rfl, rfl, rfl, rfl, rfl, rfl, rfl, rfl, trivial⟩, H23⟩ ?_
 rintro m25 _ w27 ⟨k, acc, h24, rfl, hk, hacc, hal, eb28, rfl, H29⟩
 refine W_seq (W_reg ?_)
 refine O_v rfl (R_cmp (a := ((k : Nat) : Int)) (b := ((b.length : Nat) : Int)) (r := (decide (((k : Nat) : Int) < ((b.length : Nat) : Int)))) rfl rfl rfl ?_)
 refine O_nil (Then_n (W_seq ?_))
 refine W_cond (t := (decide (((k : Nat) : Int) < ((b.length : Nat) : Int)))) rfl (fun hc30 => ?_) (fun hc30 => ?_)
 ·have hc30 : (((k : Nat) : Int) < ((b.length : Nat) : Int)) := (of_decide_eq_true hc30)
  refine W_skip (Then_n (W_seq (W_block (W_seq (W_reg ?_)))))
  refine O_v rfl (R_index_pure (H29.sl 0 rfl) (n := b.length) rfl (j := ((k : Nat) : Int)) (oo := (hb.o + k * 8)) Try.underlying22 Try.sizeOf44 rfl rfl (by omega) (by omega) rfl ?_)
  refine O_v rfl (R_loadA (cs := [[(.int .i64 (((nth b k).node).T))], [(.int .i64 (((nth b k).node).R))], [(.int .i64 (((nth b k).par).T))], [(.int .i64 (((nth b k).par).R))], [(.int .i64 (((nth b k).tm).T))], [(.int .i64 (((nth b k).tm).R))], [(.string ((nth b k).name))], [(slV ((nth b k).hh) ((nth b k).heads))]]) Try.isAgg44 Try.sizeOf44 rfl rfl ((Sl.elem (H29.sl 0 rfl) (i := k) (by omega) rfl).chunks 0 8 0 (hb.o + k * 8) _ rfl rfl rfl) ?_)
  refine O_v rfl (C_alloc H29 [[(.int .i64 0)], [(.int .i64 0)], [(.int .i64 0)], [(.int .i64 0)], [(.int .i64 0)], [(.int .i64 0)], [(.string ByteArray.empty)], [(.slice none 0 0)]] Try.zeroValue44 ?_)
  intro b31 w32 hb33 hx34 H35
  refine O_u (C_storeA H35 0 rfl 0 (sub := [[(.int .i64 (((nth b k).node).T))], [(.int .i64 (((nth b k).node).R))], [(.int .i64 (((nth b k).par).T))], [(.int .i64 (((nth b k).par).R))], [(.int .i64 (((nth b k).tm).T))], [(.int .i64 (((nth b k).tm).R))], [(.string ((nth b k).name))], [(slV ((nth b k).hh) ((nth b k).heads))]]) [[(.int .i64 (((nth b k).node).T))], [(.int .i64 (((nth b k).node).R))], [(.int .i64 (((nth b k).par).T))], [(.int .i64 (((nth b k).par).R))], [(.int .i64 (((nth b k).tm).T))], [(.int .i64 (((nth b k).tm).R))], [(.string ((nth b k).name))], [(slV ((nth b k).hh) ((nth b k).heads))]] Try.sizeOf44 rfl rfl rfl rfl ⟨[[(.int .i64 0)], [(.int .i64 0)], [(.int .i64 0)], [(.int .i64 0)], [(.int .i64 0)], [(.int .i64 0)], [(.string ByteArray.empty)], [(.slice none 0 0)]], [], rfl, rfl, rfl⟩ rfl ?_)
  intro w36 hg37 H38
  refine O_nil (Then_n (W_seq (W_reg ?_)))
  refine O_v rfl (R_move (v := (.map (some r3))) rfl ?_)
  refine O_v rfl (R_fieldAddr (off := 0) (oo := 0) Try.underlying44 rfl rfl Try.sizeOf24 rfl rfl ?_)
  refine O_v rfl (R_loadA (cs := [[(.int .i64 (((nth b k).node).T))], [(.int .i64 (((nth b k).node).R))]]) Try.isAgg24 Try.sizeOf24 rfl rfl ((boxR_at (H38.getOwn 0 rfl)).chunks 0 2 0 0 _ rfl rfl rfl) ?_)
  refine O_v rfl (R_lookupOk (kk := ((nth b k).node)) (z := zeroRow) keyT_Stamp24 Try.underlying56 Try.zeroValue44 (H38.getOwn 4 rfl) rfl rfl ?_)
  refine O_v rfl (R_move (v := (.tuple #[(aggOf (rowCh ((kvGet (tableOf a) ((nth b k).node)).getD zeroRow))), (.bool ((kvGet (tableOf a) ((nth b k).node)).isSome))])) rfl ?_)
  refine O_v rfl (R_extract (v := (aggOf (rowCh ((kvGet (tableOf a) ((nth b k).node)).getD zeroRow)))) rfl rfl ?_)
  refine O_v rfl (R_extract (v := (.bool ((kvGet (tableOf a) ((nth b k).node)).isSome))) rfl rfl ?_)
  refine O_v rfl (C_alloc H38 [[(.int .i64 0)], [(.int .i64 0)], [(.int .i64 0)], [(.int .i64 0)], [(.int .i64 0)], [(.int .i64 0)], [(.string ByteArray.empty)], [(.slice none 0 0)]] Try.zeroValue44 ?_)
  intro b39 w40 hb41 hx42 H43
  refine O_u (C_storeA H43 0 rfl 0 (sub := [[(.int .i64 ((((kvGet (tableOf a) ((nth b k).node)).getD zeroRow).node).T))], [(.int .i64 ((((kvGet (tableOf a) ((nth b k).node)).getD zeroRow).node).R))], [(.int .i64 ((((kvGet (tableOf a) ((nth b k).node)).getD zeroRow).par).T))], [(.int .i64 ((((kvGet (tableOf a) ((nth b k).node)).getD zeroRow).par).R))], [(.int .i64 ((((kvGet (tableOf a) ((nth b k).node)).getD zeroRow).tm).T))], [(.int .i64 ((((kvGet (tableOf a) ((nth b k).node)).getD zeroRow).tm).R))], [(.string (((kvGet (tableOf a) ((nth b k).node)).getD zeroRow).name))], [(slV (((kvGet (tableOf a) ((nth b k).node)).getD zeroRow).hh) (((kvGet (tableOf a) ((nth b k).node)).getD zeroRow).heads))]]) [[(.int .i64 ((((kvGet (tableOf a) ((nth b k).node)).getD zeroRow).node).T))], [(.int .i64 ((((kvGet (tableOf a) ((nth b k).node)).getD zeroRow).node).R))], [(.int .i64 ((((kvGet (tableOf a) ((nth b k).node)).getD zeroRow).par).T))], [(.int .i64 ((((kvGet (tableOf a) ((nth b k).node)).getD zeroRow).par).R))], [(.int .i64 ((((kvGet (tableOf a) ((nth b k).node)).getD zeroRow).tm).T))], [(.int .i64 ((((kvGet (tableOf a) ((nth b k).node)).getD zeroRow).tm).R))], [(.string (((kvGet (tableOf a) ((nth b k).node)).getD zeroRow).name))], [(slV (((kvGet (tableOf a) ((nth b k).node)).getD zeroRow).hh) (((kvGet (tableOf a) ((nth b k).node)).getD zeroRow).heads))]] Try.sizeOf44 rfl rfl rfl rfl ⟨[[(.int .i64 0)], [(.int .i64 0)], [(.int .i64 0)], [(.int .i64 0)], [(.int .i64 0)], [(.int .i64 0)], [(.string ByteArray.empty)], [(.slice none 0 0)]], [], rfl, rfl, rfl⟩ rfl ?_)
  intro w44 hg45 H46
  refine O_v rfl (R_assign (v := (.bool ((kvGet (tableOf a) ((nth b k).node)).isSome))) rfl ?_)
  refine O_nil (Then_n (W_seq ?_))
  refine W_rg [(0, .q false), (1, .q false), (2, .q false), (3, .q false), (4, .q false), (5, .q false), (6, .q false), (7, .q false), (8, .q false), (9, .q false), (10, .q false), (11, .q false), (12, .q false), (13, .q false), (14, .q false), (15, .q false)] (by kernel_rfl) ?_
  refine Lx_q (i := 0) rfl rfl _ (fun v47 hv48 => R_move (v := (.bool ((kvGet (tableOf a) ((nth b k).node)).isSome))) rfl ⟨rfl, Gr.refl _ _⟩) ?_
  refine Lx_q (i := 1) rfl rfl _ (fun v49 hv50 => R_not rfl ⟨rfl, Gr.refl _ _⟩) ?_
  refine Lx_q (i := 2) rfl rfl _ (fun v51 hv52 => R_move (v := (.bool (!((kvGet (tableOf a) ((nth b k).node)).isSome)))) rfl ⟨rfl, Gr.refl _ _⟩) ?_
  refine Lx_qg (i := 3) true (!((kvGet (tableOf a) ((nth b k).node)).isSome)) rfl rfl rfl rfl rfl (!(!((kvGet (tableOf a) ((nth b k).node)).isSome))) ga_f _ (fun hA v53 hv54 => R_fieldAddr (off := 2) (oo := 2) Try.underlying44 rfl rfl Try.sizeOf24 rfl rfl ⟨rfl, Gr.refl _ _⟩) ?_
  refine Lx_qg (i := 4) true (!((kvGet (tableOf a) ((nth b k).node)).isSome)) rfl rfl rfl rfl rfl (!(!((kvGet (tableOf a) ((nth b k).node)).isSome))) ga_f _ (fun hA v55 hv56 => R_loadA (cs := [[(.int .i64 ((((kvGet (tableOf a) ((nth b k).node)).getD zeroRow).par).T))], [(.int .i64 ((((kvGet (tableOf a) ((nth b k).node)).getD zeroRow).par).R))]]) Try.isAgg24 Try.sizeOf24 rfl (gv_t hA) ((boxR_at ((H46.ext hv56).getOwn 0 rfl)).chunks 2 2 2 2 _ rfl rfl rfl) ⟨rfl, Gr.refl _ _⟩) ?_
  refine Lx_qg (i := 5) true (!((kvGet (tableOf a) ((nth b k).node)).isSome)) rfl rfl rfl rfl rfl (!(!((kvGet (tableOf a) ((nth b k).node)).isSome))) ga_f _ (fun hA v57 hv58 => R_fieldAddr (off := 2) (oo := 2) Try.underlying44 rfl rfl Try.sizeOf24 rfl rfl ⟨rfl, Gr.refl _ _⟩) ?_
  refine Lx_qg (i := 6) true (!((kvGet (tableOf a) ((nth b k).node)).isSome)) rfl rfl rfl rfl rfl (!(!((kvGet (tableOf a) ((nth b k).node)).isSome))) ga_f _ (fun hA v59 hv60 => R_loadA (cs := [[(.int .i64 (((nth b k).par).T))], [(.int .i64 (((nth b k).par).R))]]) Try.isAgg24 Try.sizeOf24 rfl (gv_t hA) ((boxR_at ((H46.ext hv60).getOwn 1 rfl)).chunks 2 2 2 2 _ rfl rfl rfl) ⟨rfl, Gr.refl _ _⟩) ?_
  refine Lx_qg (i := 7) true (!((kvGet (tableOf a) ((nth b k).node)).isSome)) rfl rfl rfl rfl rfl (!(!((kvGet (tableOf a) ((nth b k).node)).isSome))) ga_f _ (fun hA v61 hv62 => R_nev (a := (((kvGet (tableOf a) ((nth b k).node)).getD zeroRow).par)) (b := ((nth b k).par)) eqv_Stamp24 rfl Try.eqGuardType24 (gv_t hA) (gv_t hA) ⟨rfl, Gr.refl _ _⟩) ?_
  refine Lx_q (i := 8) rfl rfl _ (fun v63 hv64 => R_pick (t := (!((kvGet (tableOf a) ((nth b k).node)).isSome))) (v := (.bool ((!((kvGet (tableOf a) ((nth b k).node)).isSome)) || (!(decide ((((kvGet (tableOf a) ((nth b k).node)).getD zeroRow).par) = ((nth b k).par))))))) rfl pk_or ⟨rfl, Gr.refl _ _⟩) ?_
  refine Lx_q (i := 9) rfl rfl _ (fun v65 hv66 => R_move (v := (.bool ((!((kvGet (tableOf a) ((nth b k).node)).isSome)) || (!(decide ((((kvGet (tableOf a) ((nth b k).node)).getD zeroRow).par) = ((nth b k).par))))))) rfl ⟨rfl, Gr.refl _ _⟩) ?_
  refine Lx_qg (i := 10) true ((!((kvGet (tableOf a) ((nth b k).node)).isSome)) || (!(decide ((((kvGet (tableOf a) ((nth b k).node)).getD zeroRow).par) = ((nth b k).par))))) rfl rfl rfl rfl rfl (!((!((kvGet (tableOf a) ((nth b k).node)).isSome)) || (!(decide ((((kvGet (tableOf a) ((nth b k).node)).getD zeroRow).par) = ((nth b k).par)))))) ga_f _ (fun hA v67 hv68 => R_fieldAddr (off := 6) (oo := 6) Try.underlying44 rfl rfl Try.sizeOf9 rfl rfl ⟨rfl, Gr.refl _ _⟩) ?_
  refine Lx_qg (i := 11) true ((!((kvGet (tableOf a) ((nth b k).node)).isSome)) || (!(decide ((((kvGet (tableOf a) ((nth b k).node)).getD zeroRow).par) = ((nth b k).par))))) rfl rfl rfl rfl rfl (!((!((kvGet (tableOf a) ((nth b k).node)).isSome)) || (!(decide ((((kvGet (tableOf a) ((nth b k).node)).getD zeroRow).par) = ((nth b k).par)))))) ga_f _ (fun hA v69 hv70 => R_load1 (v := (.string (((kvGet (tableOf a) ((nth b k).node)).getD zeroRow).name))) Try.isAgg9 (gv_t hA) ((boxR_at ((H46.ext hv70).getOwn 0 rfl)).chunks 6 1 6 6 _ rfl rfl rfl) ⟨rfl, Gr.refl _ _⟩) ?_
  refine Lx_qg (i := 12) true ((!((kvGet (tableOf a) ((nth b k).node)).isSome)) || (!(decide ((((kvGet (tableOf a) ((nth b k).node)).getD zeroRow).par) = ((nth b k).par))))) rfl rfl rfl rfl rfl (!((!((kvGet (tableOf a) ((nth b k).node)).isSome)) || (!(decide ((((kvGet (tableOf a) ((nth b k).node)).getD zeroRow).par) = ((nth b k).par)))))) ga_f _ (fun hA v71 hv72 => R_fieldAddr (off := 6) (oo := 6) Try.underlying44 rfl rfl Try.sizeOf9 rfl rfl ⟨rfl, Gr.refl _ _⟩) ?_
  refine Lx_qg (i := 13) true ((!((kvGet (tableOf a) ((nth b k).node)).isSome)) || (!(decide ((((kvGet (tableOf a) ((nth b k).node)).getD zeroRow).par) = ((nth b k).par))))) rfl rfl rfl rfl rfl (!((!((kvGet (tableOf a) ((nth b k).node)).isSome)) || (!(decide ((((kvGet (tableOf a) ((nth b k).node)).getD zeroRow).par) = ((nth b k).par)))))) ga_f _ (fun hA v73 hv74 => R_load1 (v := (.string ((nth b k).name))) Try.isAgg9 (gv_t hA) ((boxR_at ((H46.ext hv74).getOwn 1 rfl)).chunks 6 1 6 6 _ rfl rfl rfl) ⟨rfl, Gr.refl _ _⟩) ?_
  refine Lx_qg (i := 14) true ((!((kvGet (tableOf a) ((nth b k).node)).isSome)) || (!(decide ((((kvGet (tableOf a) ((nth b k).node)).getD zeroRow).par) = ((nth b k).par))))) rfl rfl rfl rfl rfl (!((!((kvGet (tableOf a) ((nth b k).node)).isSome)) || (!(decide ((((kvGet (tableOf a) ((nth b k).node)).getD zeroRow).par) = ((nth b k).par)))))) ga_f _ (fun hA v75 hv76 => R_cmpS (a := ((kvGet (tableOf a) ((nth b k).node)).getD zeroRow).name) (b := (nth b k).name) (r := (!(decide (((kvGet (tableOf a) ((nth b k).node)).getD zeroRow).name = (nth b k).name)))) (gv_t hA) (gv_t hA) rfl ⟨rfl, Gr.refl _ _⟩) ?_
  refine Lx_q (i := 15) rfl rfl _ (fun v77 hv78 => R_pick (t := ((!((kvGet (tableOf a) ((nth b k).node)).isSome)) || (!(decide ((((kvGet (tableOf a) ((nth b k).node)).getD zeroRow).par) = ((nth b k).par)))))) (v := (.bool (((!((kvGet (tableOf a) ((nth b k).node)).isSome)) || (!(decide ((((kvGet (tableOf a) ((nth b k).node)).getD zeroRow).par) = ((nth b k).par))))) || (!(decide (((kvGet (tableOf a) ((nth b k).node)).getD zeroRow).name = (nth b k).name)))))) rfl pk_or ⟨rfl, Gr.refl _ _⟩) ?_
  refine Lx_nil (fun w79 hw80 => ?_)
  have H81 := H46.ext hw80
  refine Then_n ?_
  refine W_cond (t := (((!((kvGet (tableOf a) ((nth b k).node)).isSome)) || (!(decide ((((kvGet (tableOf a) ((nth b k).node)).getD zeroRow).par) = ((nth b k).par))))) || (!(decide (((kvGet (tableOf a) ((nth b k).node)).getD zeroRow).name = (nth b k).name))))) rfl (fun hc82 => ?_) (fun hc82 => ?_)
  ·have hc82 : ((((kvGet (tableOf a) ((nth b k).node)).isSome) = false ∨ ¬ ((((kvGet (tableOf a) ((nth b k).node)).getD zeroRow).par) = ((nth b k).par))) ∨ ¬ (((kvGet (tableOf a) ((nth b k).node)).getD zeroRow).name = (nth b k).name)) := (Or.imp (fun h => (Or.imp (fun h => (notT h)) (fun h => (of_decide_eq_false (notT h))) (orT h))) (fun h => (of_decide_eq_false (notT h))) (orT hc82))
   refine W_reg ?_
   refine O_v rfl (R_move (v := (slV h24 acc)) rfl ?_)
   refine O_v rfl (R_loadA (cs := [[(.int .i64 (((nth b k).node).T))], [(.int .i64 (((nth b k).node).R))], [(.int .i64 (((nth b k).par).T))], [(.int .i64 (((nth b k).par).R))], [(.int .i64 (((nth b k).tm).T))], [(.int .i64 (((nth b k).tm).R))], [(.string ((nth b k).name))], [(slV ((nth b k).hh) ((nth b k).heads))]]) Try.isAgg44 Try.sizeOf44 rfl rfl ((boxR_at (H81.getOwn 1 rfl)).chunks 0 8 0 0 _ rfl rfl rfl) ?_)
   refine O_v rfl (C_buildSliceL H81 (enc := rowCh) (val := rowV) ([(nth b k)] : List RowS) Try.underlying22 Try.sizeOf44 Try.zeroValue44 rfl (by decide) (fun _ => rfl) (fun _ => rfl) rfl rfl (by decide) ?_)
   intro b83 w84 hb85 hx86 H87
   refine O_v rfl (C_append H87 3 rfl (bytes := 88) (l := acc) (ys := ([(nth b k)] : List RowS)) Try.underlying22 rfl rfl rfl rfl rfl (by decide) rfl rfl (OwnS.sl (H87.getOwn 0 rfl) (fun _ => rfl)) (fun _ => rfl) (fun _ => rfl) (by simp only [List.length_append, List.length_cons, List.length_nil]; omega) (by decide) ?_)
   intro h88 w89 hg90 H91
   refine O_v rfl (R_assign (v := (slV h88 (acc ++ ([(nth b k)] : List RowS)))) rfl ?_)
   refine O_nil (Blk_n (Then_n (W_reg ?_)))
   refine O_v rfl (R_arith (a := ((k : Nat) : Int)) (b := 1) (r0 := ((k : Nat) : Int) + 1) (r := ((k + 1 : Nat) : Int)) rfl rfl rfl (wrapN _ (by omega)) ?_)
   refine O_v rfl (R_move (v := (.int .i64 ((k + 1 : Nat) : Int))) rfl ?_)
   refine O_nil (Then_n ?_)
   have H92 := H91.sub (B' := [rowR 44 8 rowCh h88 (acc ++ ([(nth b k)] : List RowS)), boxR b15 56 [[(.map (some r9))]], mapO r9 (fun x : Stamp => stampV x) rowV (tableOf b), mapO r3 (fun x : Stamp => stampV x) rowV (tableOf a), boxR bm 71 [[(.int .i64 m.at_.T)], [(.int .i64 m.at_.R)], [(slV m.oh m.ops)], [(.bool m.bad)]], rowR 39 41 opCh m.oh m.ops]) (I' := [slI Fb rowCh 8 hb b, slI Fa rowCh 8 ha a, deepI Sm stampCh 2 (fun x : OpS => x.oh) (fun x : OpS => x.over) m.ops]) (List.Sublist.cons _ (List.Sublist.cons _ (List.Sublist.cons _ (List.Sublist.cons_cons _ (List.Sublist.cons_cons _ (List.Sublist.cons_cons _ (List.Sublist.cons_cons _ (List.Sublist.cons_cons _ (List.Sublist.cons_cons _ List.Sublist.slnil))))))))) (List.forall_mem_cons.2 ⟨List.mem_of_getElem? (i := 0) rfl, List.forall_mem_cons.2 ⟨List.mem_of_getElem? (i := 1) rfl, List.forall_mem_cons.2 ⟨List.mem_of_getElem? (i := 2) rfl, fun _ h => (nomatch h)⟩⟩⟩)
   refine ⟨_, ?_, (k + 1), (acc ++ ([(nth b k)] : List RowS)), h88, rfl, (by omega), (needs_in hacc (by omega) (by assumption)), (by simp only [List.length_append, List.length_cons, List.length_nil]; omega), _, envL_self ⟨rfl, rfl, rfl, rfl, rfl, rfl, rfl, rfl, trivial⟩, H92⟩
   omega
  ·have hc82 : ((((kvGet (tableOf a) ((nth b k).node)).isSome) = true ∧ ((((kvGet (tableOf a) ((nth b k).node)).getD zeroRow).par) = ((nth b k).par))) ∧ (((kvGet (tableOf a) ((nth b k).node)).getD zeroRow).name = (nth b k).name)) := (And.imp (fun h => (And.imp (fun h => (notF h)) (fun h => (of_decide_eq_true (notF h))) (orF h))) (fun h => (of_decide_eq_true (notF h))) (orF hc82))
   refine W_skip (Blk_n (Then_n (W_reg ?_)))
   refine O_v rfl (R_arith (a := ((k : Nat) : Int)) (b := 1) (r0 := ((k : Nat) : Int) + 1) (r := ((k + 1 : Nat) : Int)) rfl rfl rfl (wrapN _ (by omega)) ?_)
   refine O_v rfl (R_move (v := (.int .i64 ((k + 1 : Nat) : Int))) rfl ?_)
   refine O_nil (Then_n ?_)
   have H93 := H81.sub (B' := [rowR 44 8 rowCh h24 acc, boxR b15 56 [[(.map (some r9))]], mapO r9 (fun x : Stamp => stampV x) rowV (tableOf b), mapO r3 (fun x : Stamp => stampV x) rowV (tableOf a), boxR bm 71 [[(.int .i64 m.at_.T)], [(.int .i64 m.at_.R)], [(slV m.oh m.ops)], [(.bool m.bad)]], rowR 39 41 opCh m.oh m.ops]) (I' := [slI Fb rowCh 8 hb b, slI Fa rowCh 8 ha a, deepI Sm stampCh 2 (fun x : OpS => x.oh) (fun x : OpS => x.over) m.ops]) (List.Sublist.cons _ (List.Sublist.cons _ (List.Sublist.cons_cons _ (List.Sublist.cons_cons _ (List.Sublist.cons_cons _ (List.Sublist.cons_cons _ (List.Sublist.cons_cons _ (List.Sublist.cons_cons _ List.Sublist.slnil)))))))) (List.forall_mem_cons.2 ⟨List.mem_of_getElem? (i := 0) rfl, List.forall_mem_cons.2 ⟨List.mem_of_getElem? (i := 1) rfl, List.forall_mem_cons.2 ⟨List.mem_of_getElem? (i := 2) rfl, fun _ h => (nomatch h)⟩⟩⟩)
   refine ⟨_, ?_, (k + 1), acc, h24, rfl, (by omega), (needs_out hacc (by omega) (by assumption)), (by omega), _, envL_self ⟨rfl, rfl, rfl, rfl, rfl, rfl, rfl, rfl, trivial⟩, H93⟩
   omega
 ·have hc30 : ¬ (((k : Nat) : Int) < ((b.length : Nat) : Int)) := (of_decide_eq_false hc30)
  refine W_exit (Then_x (Then_x (Blk_x (Then_n (W_seq (W_reg ?_))))))
  refine O_v rfl (R_move (v := (slV h24 acc)) rfl ?_)
  refine O_v rfl (R_makeFuncL (vs := [(.pointer (some ⟨b15, 0, none⟩))]) rfl ?_)
  refine O_v rfl (R_callL (vs := [(slV h24 acc), (.func (.func 50) #[] #[(.pointer (some ⟨b15, 0, none⟩))])]) maker_moves_c49 rfl rfl ((SortStable_Row h24 acc 50 #[(.pointer (some ⟨b15, 0, none⟩))] (fun (x y : RowS) => cmpInt ((depOf (tableOf b) x.node : Nat) : Int) ((depOf (tableOf b) y.node : Nat) : Int)) w27 (H29.getOwn 0 rfl) maker_moves_c50 (fun x hx y hy w1 he => callsCap1 (maker_moves_1 x y b15 r9 (tableOf b) w1 (H29.ownGr 1 0 (by decide) rfl rfl he (fun _ h => h)) (H29.ownGr 2 0 (by decide) rfl rfl he (fun _ h => h)) ⟨(hdep x (moved_mem hacc hx)).1, (hdep y (moved_mem hacc hy)).1⟩ ⟨(hdep x (moved_mem hacc hx)).2, (hdep y (moved_mem hacc hy)).2⟩)) (by omega)).ret ?_))
  rintro _ w94 ⟨s98, rfl, hg95, ho96, hr99⟩
  have H97 := H29.updRow 0 rfl hg95 ho96
  have hr99l := (hr99).length_eq
  refine O_nil (Then_n (W_seq (W_seq (W_reg ?_))))
  refine O_v rfl (R_move (v := (slV h24 acc)) rfl ?_)
  refine O_v rfl (R_len_slice (a := h24.a) (n := acc.length) (c := h24.c) Try.underlying22 rfl ?_)
  refine O_v rfl (R_move (v := (.int .i64 0)) rfl ?_)
  refine O_nil (Then_n (W_block ?_))
  refine W_loop (fun m100 e101 w102 => ∃ (j : Nat), ∃ (mm : MakerS), ∃ (SS : Nat → Prop), m100 = b.length + 1 - j ∧ (j ≤ s98.length) ∧ (mm.st = (([] : List OpC) ++ (s98.take j).map mvOp).foldl putC m.st) ∧ (∀ c, SS c → Sm c ∨ w.heap.size ≤ c) ∧ ∃ eb103, e101 = envL [(0, (.pointer (some ⟨bm, 0, none⟩))), (1, (slV ha a)), (7, (.pointer (some ⟨b15, 0, none⟩))), (60, (slV h24 acc)), (61, (.int .i64 ((acc.length : Nat) : Int))), (62, (.int .i64 ((j : Nat) : Int)))] eb103 ∧ Ctx w (objM bm m.oh m.ops) w102 [rowR 44 8 rowCh h24 s98, boxR b15 56 [[(.map (some r9))]], mapO r9 (fun x : Stamp => stampV x) rowV (tableOf b), mapO r3 (fun x : Stamp => stampV x) rowV (tableOf a), boxR bm 71 [[(.int .i64 mm.at_.T)], [(.int .i64 mm.at_.R)], [(slV mm.oh mm.ops)], [(.bool mm.bad)]], rowR 39 41 opCh mm.oh mm.ops] [slI Fb rowCh 8 hb b, slI Fa rowCh 8 ha a, deepI SS stampCh 2 (fun x : OpS => x.oh) (fun x : OpS => x.over) mm.ops]) _ ⟨0, m, Sm, rfl, (by omega), rfl, (fun c h => .inl h), _, envL_self ⟨rfl, rfl, rfl, rfl, rfl, rfl, trivial⟩, H97⟩ ?_
  rintro m100 _ w102 ⟨j, mm, SS, rfl, hj, hst, hSS, eb103, rfl, H104⟩
  refine W_seq (W_reg ?_)
  refine O_v rfl (R_cmp (a := ((j : Nat) : Int)) (b := ((acc.length : Nat) : Int)) (r := (decide (((j : Nat) : Int) < ((acc.length : Nat) : Int)))) rfl rfl rfl ?_)
  refine O_nil (Then_n (W_seq ?_))
  refine W_cond (t := (decide (((j : Nat) : Int) < ((acc.length : Nat) : Int)))) rfl (fun hc105 => ?_) (fun hc105 => ?_)
  ·have hc105 : (((j : Nat) : Int) < ((acc.length : Nat) : Int)) := (of_decide_eq_true hc105)
   refine W_skip (Then_n (W_seq (W_block (W_seq (W_reg ?_)))))
   refine O_v rfl (R_index_pure (OwnS.sl (H104.getOwn 0 rfl) (fun _ => rfl)) (n := acc.length) (by first | omega | (simp only [List.length_set]; omega)) (j := ((j : Nat) : Int)) (oo := (h24.o + j * 8)) Try.underlying22 Try.sizeOf44 rfl rfl (by omega) (by omega) rfl ?_)
   refine O_v rfl (R_loadA (cs := [[(.int .i64 (((nth s98 j).node).T))], [(.int .i64 (((nth s98 j).node).R))], [(.int .i64 (((nth s98 j).par).T))], [(.int .i64 (((nth s98 j).par).R))], [(.int .i64 (((nth s98 j).tm).T))], [(.int .i64 (((nth s98 j).tm).R))], [(.string ((nth s98 j).name))], [(slV ((nth s98 j).hh) ((nth s98 j).heads))]]) Try.isAgg44 Try.sizeOf44 rfl rfl ((Sl.elem (OwnS.sl (H104.getOwn 0 rfl) (fun _ => rfl)) (i := j) (by omega) rfl).chunks 0 8 0 (h24.o + j * 8) _ rfl rfl rfl) ?_)
   refine O_v rfl (C_alloc H104 [[(.int .i64 0)], [(.int .i64 0)], [(.int .i64 0)], [(.int .i64 0)], [(.int .i64 0)], [(.int .i64 0)], [(.string ByteArray.empty)], [(.slice none 0 0)]] Try.zeroValue44 ?_)
   intro b106 w107 hb108 hx109 H110
   refine O_u (C_storeA H110 0 rfl 0 (sub := [[(.int .i64 (((nth s98 j).node).T))], [(.int .i64 (((nth s98 j).node).R))], [(.int .i64 (((nth s98 j).par).T))], [(.int .i64 (((nth s98 j).par).R))], [(.int .i64 (((nth s98 j).tm).T))], [(.int .i64 (((nth s98 j).tm).R))], [(.string ((nth s98 j).name))], [(slV ((nth s98 j).hh) ((nth s98 j).heads))]]) [[(.int .i64 (((nth s98 j).node).T))], [(.int .i64 (((nth s98 j).node).R))], [(.int .i64 (((nth s98 j).par).T))], [(.int .i64 (((nth s98 j).par).R))], [(.int .i64 (((nth s98 j).tm).T))], [(.int .i64 (((nth s98 j).tm).R))], [(.string ((nth s98 j).name))], [(slV ((nth s98 j).hh) ((nth s98 j).heads))]] Try.sizeOf44 rfl rfl rfl rfl ⟨[[(.int .i64 0)], [(.int .i64 0)], [(.int .i64 0)], [(.int .i64 0)], [(.int .i64 0)], [(.int .i64 0)], [(.string ByteArray.empty)], [(.slice none 0 0)]], [], rfl, rfl, rfl⟩ rfl ?_)
   intro w111 hg112 H113
   refine O_nil (Then_n (W_reg ?_))
   refine O_v rfl (R_move (v := (.pointer (some ⟨bm, 0, none⟩))) rfl ?_)
   refine O_v rfl (R_fieldAddr (off := 0) (oo := 0) Try.underlying44 rfl rfl Try.sizeOf24 rfl rfl ?_)
   refine O_v rfl (R_loadA (cs := [[(.int .i64 (((nth s98 j).node).T))], [(.int .i64 (((nth s98 j).node).R))]]) Try.isAgg24 Try.sizeOf24 rfl rfl ((boxR_at (H113.getOwn 0 rfl)).chunks 0 2 0 0 _ rfl rfl rfl) ?_)
   refine O_v rfl (R_fieldAddr (off := 2) (oo := 2) Try.underlying44 rfl rfl Try.sizeOf24 rfl rfl ?_)
   refine O_v rfl (R_loadA (cs := [[(.int .i64 (((nth s98 j).par).T))], [(.int .i64 (((nth s98 j).par).R))]]) Try.isAgg24 Try.sizeOf24 rfl rfl ((boxR_at (H113.getOwn 0 rfl)).chunks 2 2 2 2 _ rfl rfl rfl) ?_)
   refine O_v rfl (R_fieldAddr (off := 6) (oo := 6) Try.underlying44 rfl rfl Try.sizeOf9 rfl rfl ?_)
   refine O_v rfl (R_load1 (v := (.string ((nth s98 j).name))) Try.isAgg9 rfl ((boxR_at (H113.getOwn 0 rfl)).chunks 6 1 6 6 _ rfl rfl rfl) ?_)
   refine O_v rfl (R_buildL (vs := [(0, (.int .i64 1)), (2, (aggOf (stampCh ((nth s98 j).node)))), (3, (aggOf (stampCh ((nth s98 j).par)))), (4, (.string ((nth s98 j).name)))]) (v := aggOf [[(.int .i64 1)], [(.int .i64 0)], [(.int .i64 0)], [(.int .i64 (((nth s98 j).node).T))], [(.int .i64 (((nth s98 j).node).R))], [(.int .i64 (((nth s98 j).par).T))], [(.int .i64 (((nth s98 j).par).R))], [(.string ((nth s98 j).name))], (idCells zeroId), [(.slice none 0 0)]]) rfl (fun _ => by kernel_rfl) ?_)
   refine O_v rfl (R_callL (vs := [(.pointer (some ⟨bm, 0, none⟩)), (aggOf [[(.int .i64 1)], [(.int .i64 0)], [(.int .i64 0)], [(.int .i64 (((nth s98 j).node).T))], [(.int .i64 (((nth s98 j).node).R))], [(.int .i64 (((nth s98 j).par).T))], [(.int .i64 (((nth s98 j).par).R))], [(.string ((nth s98 j).name))], (idCells zeroId), [(.slice none 0 0)]])]) maker_moves_c53 rfl rfl ((maker_put bm mm SS ({ kind := 1, tm := ({ T := 0, R := 0 } : Stamp), node := ((nth s98 j).node), par := ((nth s98 j).par), name := (nth s98 j).name, data := zeroId, over := [], oh := nilH } : OpS) w111 ((H113.pick (B' := [boxR bm 71 [[(.int .i64 mm.at_.T)], [(.int .i64 mm.at_.R)], [(slV mm.oh mm.ops)], [(.bool mm.bad)]], rowR 39 41 opCh mm.oh mm.ops]) (I' := [deepI SS stampCh 2 (fun x : OpS => x.oh) (fun x : OpS => x.over) mm.ops]) [5, 6] (by decide) rfl (List.forall_mem_cons.2 ⟨List.mem_of_getElem? (i := 2) rfl, fun _ h => (nomatch h)⟩)).objStart) nob nob_free (Sl.nil _ _ _ _) (T_room hst hT (by simp only [List.length_append, List.length_map, List.length_take, List.length_nil]; omega)) (L_room hst hml (by simp only [List.length_append, List.length_map, List.length_take, List.length_nil]; omega))).ret ?_))
   rintro _ w116 ⟨m114, S115, rfl, hg117, hQ118, hk119, hS120, hr121⟩
   have H122 := H113.obj2 5 6 (by decide) rfl rfl rfl (fun _ h => h) hg117 hQ118 rfl hk119 (fun c hc => (hS120 c hc).elim (fun h => .inl ⟨_, List.mem_of_getElem? (i := 2) rfl, h⟩) (fun h => h.elim .inr (fun h => h.elim)))
   refine O_nil (Blk_n (Then_n (W_reg ?_)))
   refine O_v rfl (R_arith (a := ((j : Nat) : Int)) (b := 1) (r0 := ((j : Nat) : Int) + 1) (r := ((j + 1 : Nat) : Int)) rfl rfl rfl (wrapN _ (by omega)) ?_)
   refine O_v rfl (R_move (v := (.int .i64 ((j + 1 : Nat) : Int))) rfl ?_)
   refine O_nil (Then_n ?_)
   have H123 := H122.sub (B' := [rowR 44 8 rowCh h24 s98, boxR b15 56 [[(.map (some r9))]], mapO r9 (fun x : Stamp => stampV x) rowV (tableOf b), mapO r3 (fun x : Stamp => stampV x) rowV (tableOf a), boxR bm 71 [[(.int .i64 m114.at_.T)], [(.int .i64 m114.at_.R)], [(slV m114.oh m114.ops)], [(.bool m114.bad)]], rowR 39 41 opCh m114.oh m114.ops]) (I' := [slI Fb rowCh 8 hb b, slI Fa rowCh 8 ha a, deepI S115 stampCh 2 (fun x : OpS => x.oh) (fun x : OpS => x.over) m114.ops]) (List.Sublist.cons _ (List.Sublist.cons_cons _ (List.Sublist.cons_cons _ (List.Sublist.cons_cons _ (List.Sublist.cons_cons _ (List.Sublist.cons_cons _ (List.Sublist.cons_cons _ List.Sublist.slnil))))))) (List.forall_mem_cons.2 ⟨List.mem_of_getElem? (i := 1) rfl, List.forall_mem_cons.2 ⟨List.mem_of_getElem? (i := 2) rfl, List.forall_mem_cons.2 ⟨List.mem_of_getElem? (i := 0) rfl, fun _ h => (nomatch h)⟩⟩⟩)
   refine ⟨_, ?_, (j + 1), m114, S115, rfl, (by omega), (moves_step hst (by omega) rfl (put_st hr121)), (SS_step hSS hS120 H113.gr.size), _, envL_self ⟨rfl, rfl, rfl, rfl, rfl, rfl, trivial⟩, H123⟩
   omega
  ·have hc105 : ¬ (((j : Nat) : Int) < ((acc.length : Nat) : Int)) := (of_decide_eq_false hc105)
   refine W_exit (Then_x (Then_x (Blk_x (Then_n (W_seq (W_reg ?_))))))
   refine O_v rfl (R_move (v := (slV ha a)) rfl ?_)
   refine O_v rfl (R_len_slice (a := ha.a) (n := a.length) (c := ha.c) Try.underlying22 rfl ?_)
   refine O_v rfl (R_move (v := (.int .i64 0)) rfl ?_)
   refine O_nil (Then_n (W_block ?_))
   refine W_loop (fun m124 e125 w126 => ∃ (i : Nat), ∃ (mm4 : MakerS), ∃ (SS4 : Nat → Prop), m124 = a.length - i ∧ (i ≤ a.length) ∧ (mm4.st = (s98.map mvOp ++ ((a.take i).filter (gone b)).map trOp).foldl putC m.st) ∧ (∀ c, SS4 c → Sm c ∨ w.heap.size ≤ c) ∧ ∃ eb127, e125 = envL [(0, (.pointer (some ⟨bm, 0, none⟩))), (7, (.pointer (some ⟨b15, 0, none⟩))), (76, (slV ha a)), (77, (.int .i64 ((a.length : Nat) : Int))), (78, (.int .i64 ((i : Nat) : Int)))] eb127 ∧ Ctx w (objM bm m.oh m.ops) w126 [rowR 44 8 rowCh h24 s98, boxR b15 56 [[(.map (some r9))]], mapO r9 (fun x : Stamp => stampV x) rowV (tableOf b), mapO r3 (fun x : Stamp => stampV x) rowV (tableOf a), boxR bm 71 [[(.int .i64 mm4.at_.T)], [(.int .i64 mm4.at_.R)], [(slV mm4.oh mm4.ops)], [(.bool mm4.bad)]], rowR 39 41 opCh mm4.oh mm4.ops] [slI Fb rowCh 8 hb b, slI Fa rowCh 8 ha a, deepI SS4 stampCh 2 (fun x : OpS => x.oh) (fun x : OpS => x.over) mm4.ops]) _ ⟨0, mm, SS, rfl, (by omega), (by rw [hst, List.take_of_length_le (by omega)]; simp), hSS, _, envL_self ⟨rfl, rfl, rfl, rfl, rfl, trivial⟩, H104⟩ ?_
   rintro m124 _ w126 ⟨i, mm4, SS4, rfl, hi, hst4, hSS4, eb127, rfl, H128⟩
   refine W_seq (W_reg ?_)
   refine O_v rfl (R_cmp (a := ((i : Nat) : Int)) (b := ((a.length : Nat) : Int)) (r := (decide (((i : Nat) : Int) < ((a.length : Nat) : Int)))) rfl rfl rfl ?_)
   refine O_nil (Then_n (W_seq ?_))
   refine W_cond (t := (decide (((i : Nat) : Int) < ((a.length : Nat) : Int)))) rfl (fun hc129 => ?_) (fun hc129 => ?_)
   ·have hc129 : (((i : Nat) : Int) < ((a.length : Nat) : Int)) := (of_decide_eq_true hc129)
    refine W_skip (Then_n (W_seq (W_block (W_seq (W_reg ?_)))))
    refine O_v rfl (R_index_pure (H128.sl 1 rfl) (n := a.length) rfl (j := ((i : Nat) : Int)) (oo := (ha.o + i * 8)) Try.underlying22 Try.sizeOf44 rfl rfl (by omega) (by omega) rfl ?_)
    refine O_v rfl (R_loadA (cs := [[(.int .i64 (((nth a i).node).T))], [(.int .i64 (((nth a i).node).R))], [(.int .i64 (((nth a i).par).T))], [(.int .i64 (((nth a i).par).R))], [(.int .i64 (((nth a i).tm).T))], [(.int .i64 (((nth a i).tm).R))], [(.string ((nth a i).name))], [(slV ((nth a i).hh) ((nth a i).heads))]]) Try.isAgg44 Try.sizeOf44 rfl rfl ((Sl.elem (H128.sl 1 rfl) (i := i) (by omega) rfl).chunks 0 8 0 (ha.o + i * 8) _ rfl rfl rfl) ?_)
    refine O_v rfl (C_alloc H128 [[(.int .i64 0)], [(.int .i64 0)], [(.int .i64 0)], [(.int .i64 0)], [(.int .i64 0)], [(.int .i64 0)], [(.string ByteArray.empty)], [(.slice none 0 0)]] Try.zeroValue44 ?_)
    intro b130 w131 hb132 hx133 H134
    refine O_u (C_storeA H134 0 rfl 0 (sub := [[(.int .i64 (((nth a i).node).T))], [(.int .i64 (((nth a i).node).R))], [(.int .i64 (((nth a i).par).T))], [(.int .i64 (((nth a i).par).R))], [(.int .i64 (((nth a i).tm).T))], [(.int .i64 (((nth a i).tm).R))], [(.string ((nth a i).name))], [(slV ((nth a i).hh) ((nth a i).heads))]]) [[(.int .i64 (((nth a i).node).T))], [(.int .i64 (((nth a i).node).R))], [(.int .i64 (((nth a i).par).T))], [(.int .i64 (((nth a i).par).R))], [(.int .i64 (((nth a i).tm).T))], [(.int .i64 (((nth a i).tm).R))], [(.string ((nth a i).name))], [(slV ((nth a i).hh) ((nth a i).heads))]] Try.sizeOf44 rfl rfl rfl rfl ⟨[[(.int .i64 0)], [(.int .i64 0)], [(.int .i64 0)], [(.int .i64 0)], [(.int .i64 0)], [(.int .i64 0)], [(.string ByteArray.empty)], [(.slice none 0 0)]], [], rfl, rfl, rfl⟩ rfl ?_)
    intro w135 hg136 H137
    refine O_nil (Then_n (W_seq (W_reg ?_)))
    refine O_v rfl (R_load1 (v := (.map (some r9))) Try.isAgg56 rfl ((boxR_at (H137.getOwn 2 rfl)).chunks 0 1 0 0 _ rfl rfl rfl) ?_)
    refine O_v rfl (R_fieldAddr (off := 0) (oo := 0) Try.underlying44 rfl rfl Try.sizeOf24 rfl rfl ?_)
    refine O_v rfl (R_loadA (cs := [[(.int .i64 (((nth a i).node).T))], [(.int .i64 (((nth a i).node).R))]]) Try.isAgg24 Try.sizeOf24 rfl rfl ((boxR_at (H137.getOwn 0 rfl)).chunks 0 2 0 0 _ rfl rfl rfl) ?_)
    refine O_v rfl (R_lookupOk (kk := ((nth a i).node)) (z := zeroRow) keyT_Stamp24 Try.underlying56 Try.zeroValue44 (H137.getOwn 3 rfl) rfl rfl ?_)
    refine O_v rfl (R_move (v := (.tuple #[(aggOf (rowCh ((kvGet (tableOf b) ((nth a i).node)).getD zeroRow))), (.bool ((kvGet (tableOf b) ((nth a i).node)).isSome))])) rfl ?_)
    refine O_v rfl (R_extract (v := (aggOf (rowCh ((kvGet (tableOf b) ((nth a i).node)).getD zeroRow)))) rfl rfl ?_)
    refine O_v rfl (R_extract (v := (.bool ((kvGet (tableOf b) ((nth a i).node)).isSome))) rfl rfl ?_)
    refine O_v rfl (C_alloc H137 [[(.int .i64 0)], [(.int .i64 0)], [(.int .i64 0)], [(.int .i64 0)], [(.int .i64 0)], [(.int .i64 0)], [(.string ByteArray.empty)], [(.slice none 0 0)]] Try.zeroValue44 ?_)
    intro b138 w139 hb140 hx141 H142
    refine O_u (C_storeA H142 0 rfl 0 (sub := [[(.int .i64 ((((kvGet (tableOf b) ((nth a i).node)).getD zeroRow).node).T))], [(.int .i64 ((((kvGet (tableOf b) ((nth a i).node)).getD zeroRow).node).R))], [(.int .i64 ((((kvGet (tableOf b) ((nth a i).node)).getD zeroRow).par).T))], [(.int .i64 ((((kvGet (tableOf b) ((nth a i).node)).getD zeroRow).par).R))], [(.int .i64 ((((kvGet (tableOf b) ((nth a i).node)).getD zeroRow).tm).T))], [(.int .i64 ((((kvGet (tableOf b) ((nth a i).node)).getD zeroRow).tm).R))], [(.string (((kvGet (tableOf b) ((nth a i).node)).getD zeroRow).name))], [(slV (((kvGet (tableOf b) ((nth a i).node)).getD zeroRow).hh) (((kvGet (tableOf b) ((nth a i).node)).getD zeroRow).heads))]]) [[(.int .i64 ((((kvGet (tableOf b) ((nth a i).node)).getD zeroRow).node).T))], [(.int .i64 ((((kvGet (tableOf b) ((nth a i).node)).getD zeroRow).node).R))], [(.int .i64 ((((kvGet (tableOf b) ((nth a i).node)).getD zeroRow).par).T))], [(.int .i64 ((((kvGet (tableOf b) ((nth a i).node)).getD zeroRow).par).R))], [(.int .i64 ((((kvGet (tableOf b) ((nth a i).node)).getD zeroRow).tm).T))], [(.int .i64 ((((kvGet (tableOf b) ((nth a i).node)).getD zeroRow).tm).R))], [(.string (((kvGet (tableOf b) ((nth a i).node)).getD zeroRow).name))], [(slV (((kvGet (tableOf b) ((nth a i).node)).getD zeroRow).hh) (((kvGet (tableOf b) ((nth a i).node)).getD zeroRow).heads))]] Try.sizeOf44 rfl rfl rfl rfl ⟨[[(.int .i64 0)], [(.int .i64 0)], [(.int .i64 0)], [(.int .i64 0)], [(.int .i64 0)], [(.int .i64 0)], [(.string ByteArray.empty)], [(.slice none 0 0)]], [], rfl, rfl, rfl⟩ rfl ?_)
    intro w143 hg144 H145
    refine O_v rfl (R_assign (v := (.bool ((kvGet (tableOf b) ((nth a i).node)).isSome))) rfl ?_)
    refine O_nil (Then_n (W_seq ?_))
    refine W_rgd TryMixed [(0, .q false), (1, .q false), (2, .q false), (3, .q false), (4, .q false), (5, .q false), (6, .q false), (7, .q false)] (by kernel_rfl) ?_
    refine Lx_q (i := 0) rfl rfl _ (fun v146 hv147 => R_move (v := (.bool ((kvGet (tableOf b) ((nth a i).node)).isSome))) rfl ⟨rfl, Gr.refl _ _⟩) ?_
    refine Lx_q (i := 1) rfl rfl _ (fun v148 hv149 => R_not rfl ⟨rfl, Gr.refl _ _⟩) ?_
    refine Lx_q (i := 2) rfl rfl _ (fun v150 hv151 => R_move (v := (.bool (!((kvGet (tableOf b) ((nth a i).node)).isSome)))) rfl ⟨rfl, Gr.refl _ _⟩) ?_
    refine Lx_qg (i := 3) true (!((kvGet (tableOf b) ((nth a i).node)).isSome)) rfl rfl rfl rfl rfl (!((kvGet (tableOf b) ((nth a i).node)).isSome)) ga_t _ (fun hA v152 hv153 => R_fieldAddr (off := 2) (oo := 2) Try.underlying44 rfl rfl Try.sizeOf24 rfl rfl ⟨rfl, Gr.refl _ _⟩) ?_
    refine Lx_qg (i := 4) true (!((kvGet (tableOf b) ((nth a i).node)).isSome)) rfl rfl rfl rfl rfl (!((kvGet (tableOf b) ((nth a i).node)).isSome)) ga_t _ (fun hA v154 hv155 => R_loadA (cs := [[(.int .i64 (((nth a i).par).T))], [(.int .i64 (((nth a i).par).R))]]) Try.isAgg24 Try.sizeOf24 rfl (gv_t hA) ((boxR_at ((H145.ext hv155).getOwn 1 rfl)).chunks 2 2 2 2 _ rfl rfl rfl) ⟨rfl, Gr.refl _ _⟩) ?_
    refine Lx_qg (i := 5) true (!((kvGet (tableOf b) ((nth a i).node)).isSome)) rfl rfl rfl rfl rfl (!((kvGet (tableOf b) ((nth a i).node)).isSome)) ga_t (aggOf (stampCh (⟨0, 1⟩ : Stamp))) (fun hA v156 hv157 => R_callL (vs := []) maker_moves_c26 rfl rfl (differ_trash  v156 )) ?_
    refine Lx_qg (i := 6) true (!((kvGet (tableOf b) ((nth a i).node)).isSome)) rfl rfl rfl rfl rfl (!((kvGet (tableOf b) ((nth a i).node)).isSome)) ga_t _ (fun hA v158 hv159 => R_nev (a := ((nth a i).par)) (b := (⟨0, 1⟩ : Stamp)) eqv_Stamp24 rfl Try.eqGuardType24 (gv_t hA) (gv_t hA) ⟨rfl, Gr.refl _ _⟩) ?_
    refine Lx_q (i := 7) rfl rfl _ (fun v160 hv161 => R_pick (t := (!((kvGet (tableOf b) ((nth a i).node)).isSome))) (v := (.bool ((!((kvGet (tableOf b) ((nth a i).node)).isSome)) && (!(decide (((nth a i).par) = (⟨0, 1⟩ : Stamp))))))) rfl pk_and ⟨rfl, Gr.refl _ _⟩) ?_
    refine Lx_nil (fun w162 hw163 => ?_)
    have H164 := H145.ext hw163
    refine Then_n ?_
    refine W_cond (t := ((!((kvGet (tableOf b) ((nth a i).node)).isSome)) && (!(decide (((nth a i).par) = (⟨0, 1⟩ : Stamp)))))) rfl (fun hc165 => ?_) (fun hc165 => ?_)
    ·have hc165 : (((kvGet (tableOf b) ((nth a i).node)).isSome) = false ∧ ¬ (((nth a i).par) = (⟨0, 1⟩ : Stamp))) := (And.imp (fun h => (notT h)) (fun h => (of_decide_eq_false (notT h))) (andT hc165))
     refine W_rgdM TryMixed (fun _ => True) (fun i => i == 7) [(0, .q true), (1, .q true), (2, .q false), (3, .q false), (4, .q true), (5, .q false), (6, .q true), (7, .c true)] (by kernel_rfl) ?_
     refine Lx_q (i := 0) rfl rfl _ (fun v166 hv167 => R_move (v := (.pointer (some ⟨bm, 0, none⟩))) rfl ⟨rfl, Gr.refl _ _⟩) ?_
     refine Lx_q (i := 1) rfl rfl _ (fun v168 hv169 => R_fieldAddr (off := 0) (oo := 0) Try.underlying44 rfl rfl Try.sizeOf24 rfl rfl ⟨rfl, Gr.refl _ _⟩) ?_
     refine Lx_q (i := 2) rfl rfl _ (fun v170 hv171 => R_loadA (cs := [[(.int .i64 (((nth a i).node).T))], [(.int .i64 (((nth a i).node).R))]]) Try.isAgg24 Try.sizeOf24 rfl rfl ((boxR_at ((H164.ext hv171).getOwn 1 rfl)).chunks 0 2 0 0 _ rfl rfl rfl) ⟨rfl, Gr.refl _ _⟩) ?_
     refine Lx_q (i := 3) rfl rfl (aggOf (stampCh (⟨0, 1⟩ : Stamp))) (fun v172 hv173 => R_callL (vs := []) maker_moves_c26 rfl rfl (differ_trash  v172 )) ?_
     refine Lx_q (i := 4) rfl rfl _ (fun v174 hv175 => R_fieldAddr (off := 6) (oo := 6) Try.underlying44 rfl rfl Try.sizeOf9 rfl rfl ⟨rfl, Gr.refl _ _⟩) ?_
     refine Lx_q (i := 5) rfl rfl _ (fun v176 hv177 => R_load1 (v := (.string ((nth a i).name))) Try.isAgg9 rfl ((boxR_at ((H164.ext hv177).getOwn 1 rfl)).chunks 6 1 6 6 _ rfl rfl rfl) ⟨rfl, Gr.refl _ _⟩) ?_
     refine Lx_q (i := 6) rfl rfl _ (fun v178 hv179 => R_buildL (vs := [(0, (.int .i64 1)), (2, (aggOf (stampCh ((nth a i).node)))), (3, (aggOf (stampCh (⟨0, 1⟩ : Stamp)))), (4, (.string ((nth a i).name)))]) (v := aggOf [[(.int .i64 1)], [(.int .i64 0)], [(.int .i64 0)], [(.int .i64 (((nth a i).node).T))], [(.int .i64 (((nth a i).node).R))], [(.int .i64 ((⟨0, 1⟩ : Stamp).T))], [(.int .i64 ((⟨0, 1⟩ : Stamp).R))], [(.string ((nth a i).name))], (idCells zeroId), [(.slice none 0 0)]]) rfl (fun _ => by kernel_rfl) ⟨rfl, Gr.refl _ _⟩) ?_
     refine Lx_c (i := 7) rfl rfl (fun w180 hw181 => ?_)
     have H182 := H164.ext hw181
     refine (R_callL (vs := [(.pointer (some ⟨bm, 0, none⟩)), (aggOf [[(.int .i64 1)], [(.int .i64 0)], [(.int .i64 0)], [(.int .i64 (((nth a i).node).T))], [(.int .i64 (((nth a i).node).R))], [(.int .i64 ((⟨0, 1⟩ : Stamp).T))], [(.int .i64 ((⟨0, 1⟩ : Stamp).R))], [(.string ((nth a i).name))], (idCells zeroId), [(.slice none 0 0)]])]) maker_moves_c53 rfl rfl ((maker_put bm mm4 SS4 ({ kind := 1, tm := ({ T := 0, R := 0 } : Stamp), node := ((nth a i).node), par := (⟨0, 1⟩ : Stamp), name := (nth a i).name, data := zeroId, over := [], oh := nilH } : OpS) w180 ((H182.pick (B' := [boxR bm 71 [[(.int .i64 mm4.at_.T)], [(.int .i64 mm4.at_.R)], [(slV mm4.oh mm4.ops)], [(.bool mm4.bad)]], rowR 39 41 opCh mm4.oh mm4.ops]) (I' := [deepI SS4 stampCh 2 (fun x : OpS => x.oh) (fun x : OpS => x.over) mm4.ops]) [6, 7] (by decide) rfl (List.forall_mem_cons.2 ⟨List.mem_of_getElem? (i := 2) rfl, fun _ h => (nomatch h)⟩)).objStart) nob nob_free (Sl.nil _ _ _ _) (T_room hst4 hT (by have h1 := List.length_filter_le (gone b) (a.take i); have h2 := hr99.length_eq; simp only [List.length_append, List.length_map, List.length_take] at *; omega)) (L_room hst4 hml (by have h1 := List.length_filter_le (gone b) (a.take i); have h2 := hr99.length_eq; simp only [List.length_append, List.length_map, List.length_take] at *; omega))).ret ?_))
     rintro _ w185 ⟨m183, S184, rfl, hg186, hQ187, hk188, hS189, hr190⟩
     have H191 := H182.obj2 6 7 (by decide) rfl rfl rfl (fun _ h => h) hg186 hQ187 rfl hk188 (fun c hc => (hS189 c hc).elim (fun h => .inl ⟨_, List.mem_of_getElem? (i := 2) rfl, h⟩) (fun h => h.elim .inr (fun h => h.elim)))
     refine ⟨Gr.mono (M' := fun _ => True) hg186 (fun _ _ => trivial), ?_⟩
     refine Lx_nil (fun w192 hw193 => ?_)
     have H194 := H191.ext hw193
     refine Blk_n (Then_n (W_reg ?_))
     refine O_v rfl (R_arith (a := ((i : Nat) : Int)) (b := 1) (r0 := ((i : Nat) : Int) + 1) (r := ((i + 1 : Nat) : Int)) rfl rfl rfl (wrapN _ (by omega)) ?_)
     refine O_v rfl (R_move (v := (.int .i64 ((i + 1 : Nat) : Int))) rfl ?_)
     refine O_nil (Then_n ?_)
     have H195 := H194.sub (B' := [rowR 44 8 rowCh h24 s98, boxR b15 56 [[(.map (some r9))]], mapO r9 (fun x : Stamp => stampV x) rowV (tableOf b), mapO r3 (fun x : Stamp => stampV x) rowV (tableOf a), boxR bm 71 [[(.int .i64 m183.at_.T)], [(.int .i64 m183.at_.R)], [(slV m183.oh m183.ops)], [(.bool m183.bad)]], rowR 39 41 opCh m183.oh m183.ops]) (I' := [slI Fb rowCh 8 hb b, slI Fa rowCh 8 ha a, deepI S184 stampCh 2 (fun x : OpS => x.oh) (fun x : OpS => x.over) m183.ops]) (List.Sublist.cons _ (List.Sublist.cons _ (List.Sublist.cons_cons _ (List.Sublist.cons_cons _ (List.Sublist.cons_cons _ (List.Sublist.cons_cons _ (List.Sublist.cons_cons _ (List.Sublist.cons_cons _ List.Sublist.slnil)))))))) (List.forall_mem_cons.2 ⟨List.mem_of_getElem? (i := 1) rfl, List.forall_mem_cons.2 ⟨List.mem_of_getElem? (i := 2) rfl, List.forall_mem_cons.2 ⟨List.mem_of_getElem? (i := 0) rfl, fun _ h => (nomatch h)⟩⟩⟩)
     refine ⟨_, ?_, (i + 1), m183, S184, rfl, (by omega), (gone_step hst4 (by omega) (by assumption) rfl (put_st hr190)), (SS_step hSS4 hS189 H182.gr.size), _, envL_self ⟨rfl, rfl, rfl, rfl, rfl, trivial⟩, H195⟩
     omega
    ·have hc165 : (((kvGet (tableOf b) ((nth a i).node)).isSome) = true ∨ (((nth a i).par) = (⟨0, 1⟩ : Stamp))) := (Or.imp (fun h => (notF h)) (fun h => (of_decide_eq_true (notF h))) (andF hc165))
     refine W_skip (Blk_n (Then_n (W_reg ?_)))
     refine O_v rfl (R_arith (a := ((i : Nat) : Int)) (b := 1) (r0 := ((i : Nat) : Int) + 1) (r := ((i + 1 : Nat) : Int)) rfl rfl rfl (wrapN _ (by omega)) ?_)
     refine O_v rfl (R_move (v := (.int .i64 ((i + 1 : Nat) : Int))) rfl ?_)
     refine O_nil (Then_n ?_)
     have H196 := H164.sub (B' := [rowR 44 8 rowCh h24 s98, boxR b15 56 [[(.map (some r9))]], mapO r9 (fun x : Stamp => stampV x) rowV (tableOf b), mapO r3 (fun x : Stamp => stampV x) rowV (tableOf a), boxR bm 71 [[(.int .i64 mm4.at_.T)], [(.int .i64 mm4.at_.R)], [(slV mm4.oh mm4.ops)], [(.bool mm4.bad)]], rowR 39 41 opCh mm4.oh mm4.ops]) (I' := [slI Fb rowCh 8 hb b, slI Fa rowCh 8 ha a, deepI SS4 stampCh 2 (fun x : OpS => x.oh) (fun x : OpS => x.over) mm4.ops]) (List.Sublist.cons _ (List.Sublist.cons _ (List.Sublist.cons_cons _ (List.Sublist.cons_cons _ (List.Sublist.cons_cons _ (List.Sublist.cons_cons _ (List.Sublist.cons_cons _ (List.Sublist.cons_cons _ List.Sublist.slnil)))))))) (List.forall_mem_cons.2 ⟨List.mem_of_getElem? (i := 0) rfl, List.forall_mem_cons.2 ⟨List.mem_of_getElem? (i := 1) rfl, List.forall_mem_cons.2 ⟨List.mem_of_getElem? (i := 2) rfl, fun _ h => (nomatch h)⟩⟩⟩)
     refine ⟨_, ?_, (i + 1), mm4, SS4, rfl, (by omega), (gone_skip hst4 (by omega) (by assumption)), hSS4, _, envL_self ⟨rfl, rfl, rfl, rfl, rfl, trivial⟩, H196⟩
     omega
   ·have hc129 : ¬ (((i : Nat) : Int) < ((a.length : Nat) : Int)) := (of_decide_eq_false hc129)
    refine W_exit (Then_x (Then_x (Blk_x (ret_n ?_))))
    refine ret_0 Try.results36 ?_
    have HQ := (H128.pick (B' := [boxR bm 71 [[(.int .i64 mm4.at_.T)], [(.int .i64 mm4.at_.R)], [(slV mm4.oh mm4.ops)], [(.bool mm4.bad)]], rowR 39 41 opCh mm4.oh mm4.ops]) (I' := [deepI SS4 stampCh 2 (fun x : OpS => x.oh) (fun x : OpS => x.over) mm4.ops]) [4, 5] (by decide) rfl (List.forall_mem_cons.2 ⟨List.mem_of_getElem? (i := 2) rfl, fun _ h => (nomatch h)⟩)).objStart
    exact ⟨mm4, _, rfl, H128.gr, HQ, H128.objBlk 4 5 (by decide) rfl rfl, hSS4, ⟨s98, (by have := hr99; rwa [hacc, List.take_of_length_le (by omega)] at this), (by rw [hst4, List.take_of_length_le (by omega)])⟩⟩

end Go.Proofs.Ytiknfldhommmpaa
namespace Go.Proofs.Ytiknfldhommmpaa
open Go
set_option maxRecDepth 100000
set_option linter.unusedVariables false
set_option linter.unusedSimpArgs false
set_option maxHeartbeats 1000000 in
theorem snap_fixed (s : Stamp) (w : World) :
    Calls Try.prog 48 #[(aggOf (stampCh s))] w (Ret fun v w' => v = (.bool (fixedSt s)) ∧ Ext w w') := by
 refine calls_W Try.func48 rfl Try.ntmps48 rfl ?_
 have H0 := Ctx.start w nob
 refine W_seq (W_reg ?_)
 refine O_v rfl (C_box H0 [[(.int .i64 s.T)], [(.int .i64 s.R)]] rfl ?_)
 intro b1 w2 hb3 hx4 H5
 refine O_v rfl (R_assign (v := (.bool false)) rfl ?_)
 refine O_nil (Then_n (W_seq ?_))
 refine W_rg [(0, .q false), (1, .q false), (2, .q false), (3, .q false), (4, .q false), (5, .q false), (6, .q false), (7, .q false), (8, .q false), (9, .q false), (10, .q false), (11, .q false), (12, .q false), (13, .q false)] (by kernel_rfl) ?_
 refine Lx_q (i := 0) rfl rfl _ (fun v6 hv7 => R_fieldAddr (off := 0) (oo := 0) Try.underlying24 rfl rfl Try.sizeOf2 rfl rfl ⟨rfl, Gr.refl _ _⟩) ?_
 refine Lx_q (i := 1) rfl rfl _ (fun v8 hv9 => R_load1 (v := (.int .i64 s.T)) Try.isAgg2 rfl ((boxR_at ((H5.ext hv9).getOwn 0 rfl)).chunks 0 1 0 0 _ rfl rfl rfl) ⟨rfl, Gr.refl _ _⟩) ?_
 refine Lx_q (i := 2) rfl rfl _ (fun v10 hv11 => R_cmp (a := s.T) (b := 0) (r := (decide (s.T = 0))) rfl rfl rfl ⟨rfl, Gr.refl _ _⟩) ?_
 refine Lx_q (i := 3) rfl rfl _ (fun v12 hv13 => R_move (v := (.bool (decide (s.T = 0)))) rfl ⟨rfl, Gr.refl _ _⟩) ?_
 refine Lx_qg (i := 4) true (decide (s.T = 0)) rfl rfl rfl rfl rfl (decide (s.T = 0)) ga_t _ (fun hA v14 hv15 => R_fieldAddr (off := 1) (oo := 1) Try.underlying24 rfl rfl Try.sizeOf3 rfl rfl ⟨rfl, Gr.refl _ _⟩) ?_
 refine Lx_qg (i := 5) true (decide (s.T = 0)) rfl rfl rfl rfl rfl (decide (s.T = 0)) ga_t _ (fun hA v16 hv17 => R_load1 (v := (.int .i64 s.R)) Try.isAgg3 (gv_t hA) ((boxR_at ((H5.ext hv17).getOwn 0 rfl)).chunks 1 1 1 1 _ rfl rfl rfl) ⟨rfl, Gr.refl _ _⟩) ?_
 refine Lx_qg (i := 6) true (decide (s.T = 0)) rfl rfl rfl rfl rfl (decide (s.T = 0)) ga_t _ (fun hA v18 hv19 => R_cmp (a := s.R) (b := 0) (r := (decide (s.R = 0))) (gv_t hA) rfl rfl ⟨rfl, Gr.refl _ _⟩) ?_
 refine Lx_qg (i := 7) true (decide (s.T = 0)) rfl rfl rfl rfl rfl (decide (s.T = 0)) ga_t _ (fun hA v20 hv21 => R_move (v := (.bool (decide (s.R = 0)))) (gv_t hA) ⟨rfl, Gr.refl _ _⟩) ?_
 refine Lx_qg (i := 8) (decide (s.T = 0)) (decide (s.R = 0)) rfl rfl rfl rfl rfl ((decide (s.T = 0)) && (!(decide (s.R = 0)))) gb_f _ (fun hA v22 hv23 => R_fieldAddr (off := 1) (oo := 1) Try.underlying24 rfl rfl Try.sizeOf3 rfl rfl ⟨rfl, Gr.refl _ _⟩) ?_
 refine Lx_qg (i := 9) (decide (s.T = 0)) (decide (s.R = 0)) rfl rfl rfl rfl rfl ((decide (s.T = 0)) && (!(decide (s.R = 0)))) gb_f _ (fun hA v24 hv25 => R_load1 (v := (.int .i64 s.R)) Try.isAgg3 (gv_t hA) ((boxR_at ((H5.ext hv25).getOwn 0 rfl)).chunks 1 1 1 1 _ rfl rfl rfl) ⟨rfl, Gr.refl _ _⟩) ?_
 refine Lx_qg (i := 10) (decide (s.T = 0)) (decide (s.R = 0)) rfl rfl rfl rfl rfl ((decide (s.T = 0)) && (!(decide (s.R = 0)))) gb_f _ (fun hA v26 hv27 => R_cmp (a := s.R) (b := 1) (r := (decide (s.R = 1))) (gv_t hA) rfl rfl ⟨rfl, Gr.refl _ _⟩) ?_
 refine Lx_qg (i := 11) true (decide (s.T = 0)) rfl rfl rfl rfl rfl (decide (s.T = 0)) ga_t _ (fun hA v28 hv29 => R_pick (t := (decide (s.R = 0))) (v := (.bool ((decide (s.R = 0)) || (decide (s.R = 1))))) (gv_t hA) (pk_orA hA) ⟨rfl, Gr.refl _ _⟩) ?_
 refine Lx_q (i := 12) rfl rfl _ (fun v30 hv31 => R_pick (t := (decide (s.T = 0))) (v := (.bool ((decide (s.T = 0)) && ((decide (s.R = 0)) || (decide (s.R = 1)))))) rfl pk_and ⟨rfl, Gr.refl _ _⟩) ?_
 refine Lx_q (i := 13) rfl rfl _ (fun v32 hv33 => R_assign (v := (.bool ((decide (s.T = 0)) && ((decide (s.R = 0)) || (decide (s.R = 1)))))) rfl ⟨rfl, Gr.refl _ _⟩) ?_
 refine Lx_nil (fun w34 hw35 => ?_)
 have H36 := H5.ext hw35
 refine Then_n (W_ret ?_)
 refine ret_1 (v := (.bool ((decide (s.T = 0)) && ((decide (s.R = 0)) || (decide (s.R = 1)))))) Try.results48 rfl ?_
 exact ⟨(boolE (by simp only [Bool.and_eq_true, Bool.or_eq_true, decide_eq_true_eq])), H36.gr⟩

end Go.Proofs.Ytiknfldhommmpaa
