/- Proved: for every input, pollardlaw04.ObjLinks returns true and leaves its arguments as they were. No condition. -/
import Derived.Test.YthjdhfoeckfmbaaGreatX2
namespace Go.Proofs.YthjdhfoeckfmbaaGreat
open Go
set_option maxRecDepth 100000
set_option linter.unusedVariables false
set_option linter.unusedSimpArgs false
set_option linter.unusedSectionVars false
variable [DD]
set_option maxHeartbeats 2000000 in
theorem Compact_ID (hs : SlH) (s : List ID) (w : World) (Os : OwnS 0 45 32 idCh hs s w) (hcap : s.length ≤ hs.c) :
    Calls Tryz.prog 56 #[(slV hs s)] w (Ret fun v w' => ∃ (hN : SlH) (N : List ID), v = slV hN N ∧ Gr (fun b => (slV hs s).ownBlock = some b) w w' ∧ Sl (fun b => (slV hs s).ownBlock = some b) idCh 32 hN N w' ∧ (N = compactL s)) := by
 refine calls_W Tryz.func56 rfl Tryz.ntmps56 rfl ?_
 have H0 := Ctx.startRow Os
 have LSs := (OwnS.sl Os (fun _ => rfl)).len
 refine W_seq (W_reg ?_)
 refine O_as (v := (.slice none 0 0)) rfl rfl ?_
 refine O_nil (Then_n (W_seq (W_seq (W_reg ?_))))
 refine O_mv (v := (slV hs s)) rfl rfl ?_
 refine O_v rfl (R_len_slice (a := hs.a) (n := s.length) (c := hs.c) Tryz.underlying39 rfl ?_)
 refine O_v rfl (R_cmp (a := (s.length : Int)) (b := 2) (r := (decide ((s.length : Int) < 2))) rfl rfl rfl ?_)
 refine O_nil (Then_n ?_)
 refine W_cond rfl (fun hc1 => ?_) (fun hc1 => ?_)
 ·have hc1 := (of_decide_eq_true hc1)
  refine W_seq (W_reg ?_)
  refine O_mv (v := (slV hs s)) rfl rfl (O_as (v := (slV hs s)) rfl rfl ?_)
  refine O_nil (Then_n (W_ret (Then_r ?_)))
  exact ret_1 (v := (slV hs s)) Tryz.results56 rfl ⟨hs, s, rfl, H0.gr, Sl.own ((OwnS.sl (H0.getOwn 0 rfl) (fun _ => rfl))), (cp_all (k0 := 1) (fun i h1 h2 => by omega) (by omega))⟩
 ·have hc1 := (of_decide_eq_false hc1)
  refine W_skip (Then_n (W_seq (W_seq (W_reg ?_))))
  refine O_as (v := (.int .i64 1)) rfl rfl ?_
  refine O_nil (Then_n (W_block ?_))
  refine W_loop (fun m2 e3 w4 => ∃ (k : Nat), m2 = s.length - k ∧ (1 ≤ k) ∧ (k ≤ s.length) ∧ (∀ i, i < k → 1 ≤ i → ¬ nth s i = nth s (i - 1)) ∧ ∃ eb5, e3 = envL [(0, (slV hs s)), (3, (.int .i64 (k : Int)))] eb5 ∧ Ctx w (fun b => (slV hs s).ownBlock = some b) w4 [rowR 45 32 idCh hs s] []) _ ⟨1, rfl, (by omega), (by omega), (fun i h1 h2 => by omega), _, envL_self ⟨rfl, rfl, trivial⟩, H0⟩ ?_
  rintro m2 _ w4 ⟨k, rfl, h1, hk, hn, eb5, rfl, H6⟩
  refine W_seq (W_seq (W_reg ?_))
  refine O_mv (v := (.int .i64 (k : Int))) rfl rfl (O_mv (v := (slV hs s)) rfl rfl ?_)
  refine O_v rfl (R_len_slice (a := hs.a) (n := s.length) (c := hs.c) Tryz.underlying39 rfl ?_)
  refine O_v rfl (R_cmp (a := (k : Int)) (b := (s.length : Int)) (r := (decide ((k : Int) < (s.length : Int)))) rfl rfl rfl ?_)
  refine O_nil (Then_n ?_)
  refine W_cond rfl (fun hc7 => ?_) (fun hc7 => ?_)
  ·have hc7 := (of_decide_eq_true hc7)
   refine W_skip (Then_n (W_seq (W_block (W_seq ?_))))
   refine W_rgd TryzMixed [(0, .q 0), (1, .q 0), (2, .q 0), (3, .q 0), (4, .q 0), (5, .q 0), (6, .q 0), (7, .q 0), (8, .q 0), (9, .q 0)] (by kernel_rfl) ?_
   refine Lx_mv (v := (slV hs s)) rfl rfl rfl (Lx_mv (v := (.int .i64 (k : Int))) rfl rfl rfl (Lx_q rfl rfl _ (fun v12 hv13 => R_index_pure (OwnS.sl (H6.getOwn 0 rfl) (fun _ => rfl)) (n := s.length) rfl (j := (k : Int)) (oo := (hs.o + k * 32)) Tryz.underlying39 Tryz.sizeOf45 rfl rfl (by omega) (by first | omega | (simp only [List.length_set, List.length_drop, List.length_append, List.length_take, List.length_replicate] at *; omega)) rfl qk) (Lx_q rfl rfl _ (fun v14 hv15 => R_loadA (cs := [(idCells (nth s k))]) Tryz.isAgg45 Tryz.sizeOf45 rfl rfl ((Sl.elem (OwnS.sl ((H6.ext hv15).getOwn 0 rfl) (fun _ => rfl)) (i := k) (by first | omega | (simp only [List.length_set, List.length_drop, List.length_append, List.length_take, List.length_replicate] at *; omega)) rfl).chunks 0 1 0 (hs.o + k * 32) _ rfl rfl rfl) qk) ?_)))
   refine Lx_mv (v := (slV hs s)) rfl rfl rfl (Lx_mv (v := (.int .i64 (k : Int))) rfl rfl rfl (Lx_q rfl rfl _ (fun v20 hv21 => R_arith (a := (k : Int)) (b := 1) (r0 := (k : Int) - 1) (r := ((k - 1 : Nat) : Int)) rfl rfl rfl (wrapP _ (by omega) (by omega)) qk) (Lx_q rfl rfl _ (fun v22 hv23 => R_index_pure (OwnS.sl (H6.getOwn 0 rfl) (fun _ => rfl)) (n := s.length) rfl (j := ((k - 1 : Nat) : Int)) (oo := (hs.o + (k - 1) * 32)) Tryz.underlying39 Tryz.sizeOf45 rfl rfl (by omega) (by first | omega | (simp only [List.length_set, List.length_drop, List.length_append, List.length_take, List.length_replicate] at *; omega)) rfl qk) ?_)))
   refine Lx_q rfl rfl _ (fun v24 hv25 => R_loadA (cs := [(idCells (nth s (k - 1)))]) Tryz.isAgg45 Tryz.sizeOf45 rfl rfl ((Sl.elem (OwnS.sl ((H6.ext hv25).getOwn 0 rfl) (fun _ => rfl)) (i := (k - 1)) (by first | omega | (simp only [List.length_set, List.length_drop, List.length_append, List.length_take, List.length_replicate] at *; omega)) rfl).chunks 0 1 0 (hs.o + (k - 1) * 32) _ rfl rfl rfl) qk) (Lx_q rfl rfl _ (fun v26 hv27 => R_eqv (a := (nth s k)) (b := (nth s (k - 1))) eqv_ID45 rfl Tryz.eqGuardType45 rfl rfl qk) ?_)
   refine Lx_nil (fun w28 hw29 => ?_)
   have H30 := H6.ext hw29
   refine Then_n ?_
   refine W_cond rfl (fun hc31 => ?_) (fun hc31 => ?_)
   ·have hc31 := (of_decide_eq_true hc31)
    have hE := hc31
    refine W_seq (W_reg ?_)
    refine O_mv (v := (slV hs s)) rfl rfl (O_mv (v := (.int .i64 (k : Int))) rfl rfl ?_)
    refine O_v rfl (R_sliceS (h := hs) (l := s) (a := k) (b := s.length) (m := hs.c) (s.drop k) Tryz.underlying39 Tryz.sizeOf45 rfl rfl rfl rfl (by decide) (by first | omega | (simp only [List.length_set, List.length_drop, List.length_append, List.length_take, List.length_replicate] at *; omega)) (by first | omega | (simp only [List.length_set, List.length_drop, List.length_append, List.length_take, List.length_replicate] at *; omega)) (by first | omega | (simp only [List.length_set, List.length_drop, List.length_append, List.length_take, List.length_replicate] at *; omega)) (by first | omega | exact Nat.le_refl _ | (have := Sl.cap (OwnS.sl (H30.getOwn 0 rfl) (fun _ => rfl)); omega)) (by rw [List.take_length])  ?_)
    refine O_as (v := (slV (hSub hs 32 k hs.c) (s.drop k))) rfl rfl ?_
    refine O_nil (Then_n (W_seq (W_seq (W_reg ?_))))
    refine O_as (v := (.int .i64 1)) rfl rfl ?_
    refine O_nil (Then_n (W_block ?_))
    refine W_loop (fun m32 e33 w34 => ∃ (j : Nat), ∃ (kk : Nat), ∃ (t : List ID), m32 = s.length - (k + j) ∧ (1 ≤ j) ∧ (kk + 1 ≤ k + j) ∧ (k + j ≤ s.length) ∧ (t.length = s.length) ∧ (t.take kk = compactTo s (k + j)) ∧ (∀ i, k + j - 1 ≤ i → nth t i = nth s i) ∧ ∃ eb35, e33 = envL [(0, (slV hs s)), (3, (.int .i64 (kk : Int))), (4, (slV (hSub hs 32 k hs.c) (s.drop k))), (5, (.int .i64 (j : Int))), (10, (.int .i64 (k : Int))), (11, (slV hs s)), (12, (.int .i64 (s.length : Int))), (13, (.bool (decide ((k : Int) < (s.length : Int))))), (16, (slV hs s)), (17, (.int .i64 (k : Int))), (18, (.pointer (some ⟨hs.b, (hs.o + k * 32), none⟩))), (19, (aggOf (idCh (nth s k)))), (20, (slV hs s)), (21, (.int .i64 (k : Int))), (22, (.int .i64 ((k - 1 : Nat) : Int))), (23, (.pointer (some ⟨hs.b, (hs.o + (k - 1) * 32), none⟩))), (24, (aggOf (idCh (nth s (k - 1))))), (25, (.bool (decide ((nth s k) = (nth s (k - 1)))))), (26, (slV hs s)), (27, (.int .i64 (k : Int))), (28, (slV (hSub hs 32 k hs.c) (s.drop k)))] eb35 ∧ Ctx w (fun b => (slV hs s).ownBlock = some b) w34 [rowR 45 32 idCh hs t] []) _ ⟨1, k, s, rfl, (by omega), (by omega), (by omega), rfl, (cp_start hn h1 (by omega) hE), (fun _ _ => rfl), _, envL_self ⟨rfl, rfl, rfl, rfl, rfl, rfl, rfl, rfl, rfl, rfl, rfl, rfl, rfl, rfl, rfl, rfl, rfl, rfl, rfl, rfl, rfl, trivial⟩, H30⟩ ?_
    rintro m32 _ w34 ⟨j, kk, t, rfl, hj1, hkk, hj, hlt, hp, hrest, eb35, rfl, H36⟩
    refine W_seq (W_seq (W_reg ?_))
    refine O_mv (v := (.int .i64 (j : Int))) rfl rfl (O_mv (v := (slV (hSub hs 32 k hs.c) (s.drop k))) rfl rfl ?_)
    refine O_v rfl (R_len_slice (a := (hSub hs 32 k hs.c).a) (n := (s.drop k).length) (c := (hSub hs 32 k hs.c).c) Tryz.underlying39 rfl ?_)
    refine O_v rfl (R_cmp (a := (j : Int)) (b := (((s.drop k).length : Nat) : Int)) (r := (decide ((j : Int) < (((s.drop k).length : Nat) : Int)))) rfl rfl rfl ?_)
    refine O_nil (Then_n ?_)
    refine W_cond rfl (fun hc37 => ?_) (fun hc37 => ?_)
    ·have hc37 := (of_decide_eq_true hc37)
     refine W_skip (Then_n (W_seq (W_block (W_seq ?_))))
     refine W_rgd TryzMixed [(0, .q 0), (1, .q 0), (2, .q 0), (3, .q 0), (4, .q 0), (5, .q 0), (6, .q 0), (7, .q 0), (8, .q 0), (9, .q 0)] (by kernel_rfl) ?_
     refine Lx_mv (v := (slV (hSub hs 32 k hs.c) (s.drop k))) rfl rfl rfl (Lx_mv (v := (.int .i64 (j : Int))) rfl rfl rfl (Lx_q rfl rfl _ (fun v42 hv43 => R_index_pure (Sl.sub (OwnS.sl (H36.getOwn 0 rfl) (fun _ => rfl)) k t.length hs.c (by omega) (by omega) (by omega) (Nat.le_refl _) (by rw [List.take_length])) (n := (s.drop k).length) (by first | omega | (simp only [List.length_set, List.length_drop, List.length_append, List.length_take, List.length_replicate] at *; omega)) (j := (j : Int)) (oo := ((hSub hs 32 k hs.c).o + j * 32)) Tryz.underlying39 Tryz.sizeOf45 rfl rfl (by omega) (by first | omega | (simp only [List.length_set, List.length_drop, List.length_append, List.length_take, List.length_replicate] at *; omega)) rfl qk) (Lx_q rfl rfl _ (fun v44 hv45 => R_loadA (cs := [(idCells (nth (t.drop k) j))]) Tryz.isAgg45 Tryz.sizeOf45 rfl rfl ((Sl.elem (Sl.sub (OwnS.sl ((H36.ext hv45).getOwn 0 rfl) (fun _ => rfl)) k t.length hs.c (by omega) (by omega) (by omega) (Nat.le_refl _) (by rw [List.take_length])) (i := j) (by first | omega | (simp only [List.length_set, List.length_drop, List.length_append, List.length_take, List.length_replicate] at *; omega)) rfl).chunks 0 1 0 ((hSub hs 32 k hs.c).o + j * 32) _ rfl rfl rfl) qk) ?_)))
     refine Lx_mv (v := (slV (hSub hs 32 k hs.c) (s.drop k))) rfl rfl rfl (Lx_mv (v := (.int .i64 (j : Int))) rfl rfl rfl (Lx_q rfl rfl _ (fun v50 hv51 => R_arith (a := (j : Int)) (b := 1) (r0 := (j : Int) - 1) (r := ((j - 1 : Nat) : Int)) rfl rfl rfl (wrapP _ (by omega) (by omega)) qk) (Lx_q rfl rfl _ (fun v52 hv53 => R_index_pure (Sl.sub (OwnS.sl (H36.getOwn 0 rfl) (fun _ => rfl)) k t.length hs.c (by omega) (by omega) (by omega) (Nat.le_refl _) (by rw [List.take_length])) (n := (s.drop k).length) (by first | omega | (simp only [List.length_set, List.length_drop, List.length_append, List.length_take, List.length_replicate] at *; omega)) (j := ((j - 1 : Nat) : Int)) (oo := ((hSub hs 32 k hs.c).o + (j - 1) * 32)) Tryz.underlying39 Tryz.sizeOf45 rfl rfl (by omega) (by first | omega | (simp only [List.length_set, List.length_drop, List.length_append, List.length_take, List.length_replicate] at *; omega)) rfl qk) ?_)))
     refine Lx_q rfl rfl _ (fun v54 hv55 => R_loadA (cs := [(idCells (nth (t.drop k) (j - 1)))]) Tryz.isAgg45 Tryz.sizeOf45 rfl rfl ((Sl.elem (Sl.sub (OwnS.sl ((H36.ext hv55).getOwn 0 rfl) (fun _ => rfl)) k t.length hs.c (by omega) (by omega) (by omega) (Nat.le_refl _) (by rw [List.take_length])) (i := (j - 1)) (by first | omega | (simp only [List.length_set, List.length_drop, List.length_append, List.length_take, List.length_replicate] at *; omega)) rfl).chunks 0 1 0 ((hSub hs 32 k hs.c).o + (j - 1) * 32) _ rfl rfl rfl) qk) (Lx_q rfl rfl _ (fun v56 hv57 => R_nev (a := (nth (t.drop k) j)) (b := (nth (t.drop k) (j - 1))) eqv_ID45 rfl Tryz.eqGuardType45 rfl rfl qk) ?_)
     refine Lx_nil (fun w58 hw59 => ?_)
     have H60 := H36.ext hw59
     refine Then_n ?_
     refine W_cond rfl (fun hc61 => ?_) (fun hc61 => ?_)
     ·have hc61 : ¬ ((nth (t.drop k) j) = (nth (t.drop k) (j - 1))) := (of_decide_eq_false (notT hc61))
      refine W_seq (W_reg ?_)
      refine O_mv (v := (slV hs s)) rfl rfl (O_mv (v := (.int .i64 (kk : Int))) rfl rfl (O_mv (v := (slV (hSub hs 32 k hs.c) (s.drop k))) rfl rfl (O_mv (v := (.int .i64 (j : Int))) rfl rfl ?_)))
      refine O_v rfl (R_index_pure (Sl.sub (OwnS.sl (H60.getOwn 0 rfl) (fun _ => rfl)) k t.length hs.c (by omega) (by omega) (by omega) (Nat.le_refl _) (by rw [List.take_length])) (n := (s.drop k).length) (by first | omega | (simp only [List.length_set, List.length_drop, List.length_append, List.length_take, List.length_replicate] at *; omega)) (j := (j : Int)) (oo := ((hSub hs 32 k hs.c).o + j * 32)) Tryz.underlying39 Tryz.sizeOf45 rfl rfl (by omega) (by first | omega | (simp only [List.length_set, List.length_drop, List.length_append, List.length_take, List.length_replicate] at *; omega)) rfl ?_)
      refine O_v rfl (R_loadA (cs := [(idCells (nth (t.drop k) j))]) Tryz.isAgg45 Tryz.sizeOf45 rfl rfl ((Sl.elem (Sl.sub (OwnS.sl (H60.getOwn 0 rfl) (fun _ => rfl)) k t.length hs.c (by omega) (by omega) (by omega) (Nat.le_refl _) (by rw [List.take_length])) (i := j) (by first | omega | (simp only [List.length_set, List.length_drop, List.length_append, List.length_take, List.length_replicate] at *; omega)) rfl).chunks 0 1 0 ((hSub hs 32 k hs.c).o + j * 32) _ rfl rfl rfl) ?_)
      refine O_v rfl (R_index_pure (OwnS.sl (H60.getOwn 0 rfl) (fun _ => rfl)) (n := s.length) (by first | omega | (simp only [List.length_set, List.length_drop, List.length_append, List.length_take, List.length_replicate] at *; omega)) (j := (kk : Int)) (oo := (hs.o + kk * 32)) Tryz.underlying39 Tryz.sizeOf45 rfl rfl (by omega) (by first | omega | (simp only [List.length_set, List.length_drop, List.length_append, List.length_take, List.length_replicate] at *; omega)) rfl ?_)
      refine O_u (C_storeEl H60 0 rfl (j := kk) (v := (aggOf (idCh (nth (t.drop k) j)))) (nth (t.drop k) j) ([] : List Value) ([(idCells (nth t kk))]).flatten ([] : List Value) ([(idCells (nth (t.drop k) j))]).flatten (fun _ => rfl) (by first | omega | (simp only [List.length_set, List.length_drop, List.length_append, List.length_take, List.length_replicate] at *; omega)) Tryz.sizeOf45 rfl rfl rfl rfl rfl rfl rfl rfl rfl ?_)
      intro w62 hg63 H64
      refine O_nil (Then_n (W_reg ?_))
      refine O_mv (v := (.int .i64 (kk : Int))) rfl rfl ?_
      refine O_v rfl (R_arith (a := (kk : Int)) (b := 1) (r0 := (kk : Int) + 1) (r := ((kk + 1 : Nat) : Int)) rfl rfl rfl (wrapN _ (by omega)) ?_)
      refine O_as (v := (.int .i64 ((kk + 1 : Nat) : Int))) rfl rfl ?_
      refine O_nil (Blk_n (Then_n (W_reg ?_)))
      refine O_mv (v := (.int .i64 (j : Int))) rfl rfl ?_
      refine O_v rfl (R_arith (a := (j : Int)) (b := 1) (r0 := (j : Int) + 1) (r := ((j + 1 : Nat) : Int)) rfl rfl rfl (wrapN _ (by omega)) ?_)
      refine O_as (v := (.int .i64 ((j + 1 : Nat) : Int))) rfl rfl ?_
      refine O_nil (Then_n ?_)
      refine ⟨_, ?_, (j + 1), (kk + 1), (t.set kk (nth (t.drop k) j)), rfl, (by omega), (by omega), (by first | omega | (simp only [List.length_set, List.length_drop, List.length_append, List.length_take, List.length_replicate] at *; omega)), (by first | exact hlt | rwa [List.length_set]), (cp_next_y hp hrest hlt (by first | omega | (simp only [List.length_set, List.length_drop, List.length_append, List.length_take, List.length_replicate] at *; omega)) hj1 h1 hkk (by assumption)), (cp_rest hrest hkk), _, envL_self ⟨rfl, rfl, rfl, rfl, rfl, rfl, rfl, rfl, rfl, rfl, rfl, rfl, rfl, rfl, rfl, rfl, rfl, rfl, rfl, rfl, rfl, trivial⟩, H64⟩
      first | omega | (simp only [List.length_set, List.length_drop] at *; omega)
     ·have hc61 : ((nth (t.drop k) j) = (nth (t.drop k) (j - 1))) := (of_decide_eq_true (notF hc61))
      refine W_skip (Blk_n (Then_n (W_reg ?_)))
      refine O_mv (v := (.int .i64 (j : Int))) rfl rfl ?_
      refine O_v rfl (R_arith (a := (j : Int)) (b := 1) (r0 := (j : Int) + 1) (r := ((j + 1 : Nat) : Int)) rfl rfl rfl (wrapN _ (by omega)) ?_)
      refine O_as (v := (.int .i64 ((j + 1 : Nat) : Int))) rfl rfl ?_
      refine O_nil (Then_n ?_)
      refine ⟨_, ?_, (j + 1), kk, t, rfl, (by omega), (by omega), (by first | omega | (simp only [List.length_set, List.length_drop, List.length_append, List.length_take, List.length_replicate] at *; omega)), (by first | exact hlt | rwa [List.length_set]), (cp_next_n hp hrest hlt (by first | omega | (simp only [List.length_set, List.length_drop, List.length_append, List.length_take, List.length_replicate] at *; omega)) hj1 h1 (by assumption)), (fun i hi => hrest i (by omega)), _, envL_self ⟨rfl, rfl, rfl, rfl, rfl, rfl, rfl, rfl, rfl, rfl, rfl, rfl, rfl, rfl, rfl, rfl, rfl, rfl, rfl, rfl, rfl, trivial⟩, H60⟩
      first | omega | (simp only [List.length_set, List.length_drop] at *; omega)
    ·have hc37 := (of_decide_eq_false hc37)
     refine W_exit (Then_x (Then_x (Blk_x (Then_n (W_seq (W_reg ?_))))))
     refine O_mv (v := (slV hs s)) rfl rfl (O_mv (v := (.int .i64 (kk : Int))) rfl rfl ?_)
     refine O_v rfl (R_sliceS (h := hs) (l := t) (a := kk) (b := t.length) (m := hs.c) (t.drop kk) Tryz.underlying39 Tryz.sizeOf45 (slV_len (l := s) (l' := t) (by first | omega | (simp only [List.length_set, List.length_drop, List.length_append, List.length_take, List.length_replicate] at *; omega))) rfl rfl rfl (by decide) (by first | omega | (simp only [List.length_set, List.length_drop, List.length_append, List.length_take, List.length_replicate] at *; omega)) (by first | omega | (simp only [List.length_set, List.length_drop, List.length_append, List.length_take, List.length_replicate] at *; omega)) (by first | omega | (simp only [List.length_set, List.length_drop, List.length_append, List.length_take, List.length_replicate] at *; omega)) (by first | omega | exact Nat.le_refl _ | (have := Sl.cap (OwnS.sl (H36.getOwn 0 rfl) (fun _ => rfl)); omega)) (by rw [List.take_length])  ?_)
     refine O_u (C_clear H36 0 rfl (a := kk) zeroId (fun _ => rfl) rfl Tryz.underlying39 Tryz.zeroValue45 rfl (by decide) (by first | omega | (simp only [List.length_set, List.length_drop, List.length_append, List.length_take, List.length_replicate] at *; omega)) (Sl.cap (OwnS.sl (H36.getOwn 0 rfl) (fun _ => rfl))) rfl (by simp only [List.length_drop]) ?_)
     intro w65 hg66 H67
     refine O_nil (Then_n (W_seq (W_reg ?_)))
     refine O_mv (v := (slV hs s)) rfl rfl (O_mv (v := (.int .i64 (kk : Int))) rfl rfl ?_)
     refine O_v rfl (R_sliceS (h := hs) (l := t.take kk ++ List.replicate (t.length - kk) zeroId) (a := 0) (b := kk) (m := hs.c) ((t.take kk ++ List.replicate (t.length - kk) zeroId).take kk) Tryz.underlying39 Tryz.sizeOf45 (slV_len (l := s) (l' := (t.take kk ++ List.replicate (t.length - kk) zeroId)) (by first | omega | (simp only [List.length_set, List.length_drop, List.length_append, List.length_take, List.length_replicate] at *; omega))) rfl rfl rfl (by decide) (by first | omega | (simp only [List.length_set, List.length_drop, List.length_append, List.length_take, List.length_replicate] at *; omega)) (by first | omega | (simp only [List.length_set, List.length_drop, List.length_append, List.length_take, List.length_replicate] at *; omega)) (by first | omega | (simp only [List.length_set, List.length_drop, List.length_append, List.length_take, List.length_replicate] at *; omega)) (by first | omega | exact Nat.le_refl _ | (have := Sl.cap (OwnS.sl (H67.getOwn 0 rfl) (fun _ => rfl)); omega)) rfl  ?_)
     refine O_as (v := (slV (hSub hs 32 0 hs.c) ((t.take kk ++ List.replicate (t.length - kk) zeroId).take kk))) rfl rfl ?_
     refine O_nil (Then_n (W_ret (Blk_r (Then_r (Then_r (Blk_r (Then_r ?_)))))))
     exact ret_1 (v := (slV (hSub hs 32 0 hs.c) ((t.take kk ++ List.replicate (t.length - kk) zeroId).take kk))) Tryz.results56 rfl ⟨hSub hs 32 0 hs.c, ((t.take kk ++ List.replicate (t.length - kk) zeroId).take kk), rfl, H67.gr, Sl.own ((Sl.sub (OwnS.sl (H67.getOwn 0 rfl) (fun _ => rfl)) 0 kk hs.c (by first | omega | (simp only [List.length_set, List.length_drop, List.length_append, List.length_take, List.length_replicate] at *; omega)) (by first | omega | (simp only [List.length_set, List.length_drop, List.length_append, List.length_take, List.length_replicate] at *; omega)) (by first | omega | (simp only [List.length_set, List.length_drop, List.length_append, List.length_take, List.length_replicate] at *; omega)) (by first | omega | exact Nat.le_refl _ | (have := Sl.cap (OwnS.sl (H67.getOwn 0 rfl) (fun _ => rfl)); omega)) rfl)), (cp_end hp hlt (by first | omega | (simp only [List.length_set, List.length_drop, List.length_append, List.length_take, List.length_replicate] at *; omega)) (by omega) (by omega))⟩
   ·have hc31 := (of_decide_eq_false hc31)
    have HNE := hc31
    refine W_skip (Blk_n (Then_n (W_reg ?_)))
    refine O_mv (v := (.int .i64 (k : Int))) rfl rfl ?_
    refine O_v rfl (R_arith (a := (k : Int)) (b := 1) (r0 := (k : Int) + 1) (r := ((k + 1 : Nat) : Int)) rfl rfl rfl (wrapN _ (by omega)) ?_)
    refine O_as (v := (.int .i64 ((k + 1 : Nat) : Int))) rfl rfl ?_
    refine O_nil (Then_n ?_)
    refine ⟨_, ?_, (k + 1), rfl, (by omega), (by omega), (fun i hi h1 => if hik : i = k then hik ▸ HNE else hn i (by omega) h1), _, envL_self ⟨rfl, rfl, trivial⟩, H30⟩
    omega
  ·have hc7 := (of_decide_eq_false hc7)
   refine W_exit (Then_x (Then_x (Blk_x (Then_n (W_seq (W_reg ?_))))))
   refine O_mv (v := (slV hs s)) rfl rfl (O_as (v := (slV hs s)) rfl rfl ?_)
   refine O_nil (Then_n (W_ret ?_))
   exact ret_1 (v := (slV hs s)) Tryz.results56 rfl ⟨hs, s, rfl, H6.gr, Sl.own ((OwnS.sl (H6.getOwn 0 rfl) (fun _ => rfl))), (cp_all hn (by omega))⟩
set_option maxHeartbeats 1000000 in
theorem bits_Len64 (x : Nat) (w : World) (hx : x ≤ 1) :
    Calls Tryz.prog 126 #[(.int .u64 ((x : Nat) : Int))] w (Ret fun v w' => v = (.int .i64 ((x : Nat) : Int)) ∧ Ext w w') := by
 refine calls_W Tryz.func126 rfl Tryz.ntmps126 rfl ?_
 have H0 := Ctx.start w nob
 refine W_seq (W_reg ?_)
 refine O_as (v := (.int .i64 0)) rfl rfl ?_
 refine O_nil (Then_n (W_seq (W_seq (W_reg ?_))))
 refine O_mv (v := (.int .u64 (x : Int))) rfl rfl ?_
 refine O_v rfl (R_cmp (a := (x : Int)) (b := 4294967296) (r := (decide (4294967296 ≤ (x : Int)))) rfl rfl rfl ?_)
 refine O_nil (Then_n ?_)
 refine W_cond rfl (fun hc1 => ?_) (fun hc1 => ?_)
 ·have hc1 := (of_decide_eq_true hc1)
  exfalso; omega
 ·have hc1 := (of_decide_eq_false hc1)
  refine W_skip (Then_n (W_seq (W_seq (W_reg ?_))))
  refine O_mv (v := (.int .u64 (x : Int))) rfl rfl ?_
  refine O_v rfl (R_cmp (a := (x : Int)) (b := 65536) (r := (decide (65536 ≤ (x : Int)))) rfl rfl rfl ?_)
  refine O_nil (Then_n ?_)
  refine W_cond rfl (fun hc2 => ?_) (fun hc2 => ?_)
  ·have hc2 := (of_decide_eq_true hc2)
   exfalso; omega
  ·have hc2 := (of_decide_eq_false hc2)
   refine W_skip (Then_n (W_seq (W_seq (W_reg ?_))))
   refine O_mv (v := (.int .u64 (x : Int))) rfl rfl ?_
   refine O_v rfl (R_cmp (a := (x : Int)) (b := 256) (r := (decide (256 ≤ (x : Int)))) rfl rfl rfl ?_)
   refine O_nil (Then_n ?_)
   refine W_cond rfl (fun hc3 => ?_) (fun hc3 => ?_)
   ·have hc3 := (of_decide_eq_true hc3)
    exfalso; omega
   ·have hc3 := (of_decide_eq_false hc3)
    refine W_skip (Then_n (W_seq (W_reg ?_)))
    refine O_mv (v := (.int .i64 0)) rfl rfl (O_mv (v := (.int .u64 (x : Int))) rfl rfl ?_)
    refine O_v rfl (R_conv_int (a := (x : Int)) (r := ((UInt8.ofNat x).toNat : Int)) Tryz.underlying126 Tryz.underlying5 rfl (conv_u8 _) ?_)
    refine O_v rfl (R_index_s (s := lenTab) (k := (UInt8.ofNat x).toNat) Tryz.underlying9 rfl rfl rfl (by have := u8_lt (UInt8.ofNat x); show _ < 256; omega) ?_)
    refine O_v rfl (R_conv_int (a := ((sbyte lenTab ((UInt8.ofNat x).toNat)).toNat : Int)) (r := ((sbyte lenTab ((UInt8.ofNat x).toNat)).toNat : Int)) Tryz.underlying5 Tryz.underlying3 rfl (w64 _ (by have h1 := u8_lt (sbyte lenTab (UInt8.ofNat x).toNat); omega)) ?_)
    refine O_v rfl (R_arith (a := 0) (b := ((sbyte lenTab ((UInt8.ofNat x).toNat)).toNat : Int)) (r0 := 0 + ((sbyte lenTab ((UInt8.ofNat x).toNat)).toNat : Int)) (r := 0 + ((sbyte lenTab ((UInt8.ofNat x).toNat)).toNat : Int)) rfl rfl rfl (w64 _ (by have h1 := u8_lt (sbyte lenTab (UInt8.ofNat x).toNat); omega)) ?_)
    refine O_as (v := (.int .i64 (0 + ((sbyte lenTab ((UInt8.ofNat x).toNat)).toNat : Int)))) rfl rfl ?_
    refine O_nil (Then_n (W_ret ?_))
    refine ret_1 (v := (.int .i64 (0 + ((sbyte lenTab ((UInt8.ofNat x).toNat)).toNat : Int)))) Tryz.results126 rfl ?_
    exact ⟨(len01 hx), H0.gr⟩
theorem cF126 : callable Tryz.prog 126 = true := by kernel_rfl
set_option maxHeartbeats 1000000 in
theorem bits_Len (x : Nat) (w : World) (hx : x ≤ 1) :
    Calls Tryz.prog 93 #[(.int .u64 ((x : Nat) : Int))] w (Ret fun v w' => v = (.int .i64 ((x : Nat) : Int)) ∧ Ext w w') := by
 refine calls_W Tryz.func93 rfl Tryz.ntmps93 rfl ?_
 have H0 := Ctx.start w nob
 refine W_seq (W_reg ?_)
 refine O_as (v := (.int .i64 0)) rfl rfl ?_
 refine O_nil (Then_n (W_seq ?_))
 refine W_cond_f rfl ?_
 refine W_skip (Then_n (W_seq (W_reg ?_)))
 refine O_mv (v := (.int .u64 (x : Int))) rfl rfl ?_
 refine O_v rfl (R_callL (vs := [(.int .u64 (x : Int))]) cF126 rfl rfl ((bits_Len64 x w (by omega)).ret ?_))
 rintro _ w1 ⟨rfl, hx2⟩
 have H3 := H0.ext hx2
 refine O_as (v := (.int .i64 (x : Int))) rfl rfl ?_
 refine O_nil (Then_n (W_ret ?_))
 refine ret_1 (v := (.int .i64 (x : Int))) Tryz.results93 rfl ?_
 exact ⟨rfl, H3.gr⟩
set_option maxHeartbeats 1000000 in
theorem insSort_ID (hs : SlH) (s : List ID) (a : Int) (b : Int) (kcmp : FuncId) (ccmp : Array Value) (w : World) (Os : OwnS 0 45 32 idCh hs s w) (Kcmp : callable Tryz.prog kcmp = true) (Ccmp : True) (ha : a = 0 ∧ b ≤ 1) :
    Calls Tryz.prog 117 #[(slV hs s), (.int .i64 a), (.int .i64 b), (.func (.func kcmp) #[] ccmp)] w (Ret fun v w' => v = .tuple #[] ∧ Gr (fun b => (slV hs s).ownBlock = some b) w w' ∧ OwnS 0 45 32 idCh hs (s) w') := by
 refine calls_W Tryz.func117 rfl Tryz.ntmps117 rfl ?_
 have H0 := Ctx.startRow Os
 have LSs := (OwnS.sl Os (fun _ => rfl)).len
 refine W_seq (W_reg ?_)
 refine O_mv (v := (.int .i64 a)) rfl rfl ?_
 refine O_v rfl (R_arith (a := a) (b := 1) (r0 := a + 1) (r := a + 1) rfl rfl rfl (w64 _ (by omega)) ?_)
 refine O_as (v := (.int .i64 (a + 1))) rfl rfl ?_
 refine O_nil (Then_n (W_block ?_))
 refine W_loop (fun m1 e2 w3 => ∃ (i : Int), m1 = 0 ∧ (1 ≤ i) ∧ ∃ eb4, e2 = envL [(0, (slV hs s)), (1, (.int .i64 a)), (2, (.int .i64 b)), (3, (.func (.func kcmp) #[] ccmp)), (8, (.int .i64 i))] eb4 ∧ Ctx w (fun b => (slV hs s).ownBlock = some b) w3 [rowR 45 32 idCh hs s] []) _ ⟨(a + 1), rfl, (by omega), _, envL_self ⟨rfl, rfl, rfl, rfl, rfl, trivial⟩, H0⟩ ?_
 rintro m1 _ w3 ⟨i, rfl, hi, eb4, rfl, H5⟩
 refine W_seq (W_seq (W_reg ?_))
 refine O_mv (v := (.int .i64 i)) rfl rfl (O_mv (v := (.int .i64 b)) rfl rfl ?_)
 refine O_v rfl (R_cmp (a := i) (b := b) (r := (decide (i < b))) rfl rfl rfl ?_)
 refine O_nil (Then_n ?_)
 refine W_cond rfl (fun hc6 => ?_) (fun hc6 => ?_)
 ·have hc6 := (of_decide_eq_true hc6)
  refine W_skip (Then_n ?_)
  exfalso; omega
 ·have hc6 := (of_decide_eq_false hc6)
  refine W_exit (Then_x (Then_x (Blk_x (ret_n ?_))))
  refine ret_0 Tryz.results117 ⟨rfl, H5.gr, ?_⟩
  exact H5.getOwn 0 rfl
theorem cF117 : callable Tryz.prog 117 = true := by kernel_rfl
set_option maxHeartbeats 1000000 in
theorem pdq_ID (hs : SlH) (s : List ID) (a : Int) (b : Int) (limit : Int) (kcmp : FuncId) (ccmp : Array Value) (w : World) (Os : OwnS 0 45 32 idCh hs s w) (Kcmp : callable Tryz.prog kcmp = true) (Ccmp : True) (ha : a = 0 ∧ 0 ≤ b ∧ b ≤ 1) :
    Calls Tryz.prog 92 #[(slV hs s), (.int .i64 a), (.int .i64 b), (.int .i64 limit), (.func (.func kcmp) #[] ccmp)] w (Ret fun v w' => v = .tuple #[] ∧ Gr (fun b => (slV hs s).ownBlock = some b) w w' ∧ OwnS 0 45 32 idCh hs (s) w') := by
 refine calls_W Tryz.func92 rfl Tryz.ntmps92 rfl ?_
 have H0 := Ctx.startRow Os
 have LSs := (OwnS.sl Os (fun _ => rfl)).len
 refine W_seq (W_reg ?_)
 refine O_as (v := (.bool true)) rfl rfl ?_
 refine O_nil (Then_n (W_seq (W_reg ?_)))
 refine O_as (v := (.bool true)) rfl rfl ?_
 refine O_nil (Then_n (W_block ?_))
 refine W_loop (fun m1 e2 w3 => m1 = 0 ∧ ∃ eb4, e2 = envL [(0, (slV hs s)), (1, (.int .i64 a)), (2, (.int .i64 b)), (3, (.int .i64 limit)), (4, (.func (.func kcmp) #[] ccmp)), (10, (.bool true)), (11, (.bool true))] eb4 ∧ Ctx w (fun b => (slV hs s).ownBlock = some b) w3 [rowR 45 32 idCh hs s] []) _ ⟨rfl, _, envL_self ⟨rfl, rfl, rfl, rfl, rfl, rfl, rfl, trivial⟩, H0⟩ ?_
 rintro m1 _ w3 ⟨rfl, eb4, rfl, H5⟩
 refine W_block (W_seq (W_reg ?_))
 refine O_mv (v := (.int .i64 b)) rfl rfl (O_mv (v := (.int .i64 a)) rfl rfl ?_)
 refine O_v rfl (R_arith (a := b) (b := a) (r0 := b - a) (r := b - a) rfl rfl rfl (w64 _ (by omega)) ?_)
 refine O_as (v := (.int .i64 (b - a))) rfl rfl ?_
 refine O_nil (Then_n (W_seq (W_seq (W_reg ?_))))
 refine O_mv (v := (.int .i64 (b - a))) rfl rfl ?_
 refine O_v rfl (R_cmp (a := (b - a)) (b := 12) (r := (decide ((b - a) ≤ 12))) rfl rfl rfl ?_)
 refine O_nil (Then_n ?_)
 refine W_cond rfl (fun hc6 => ?_) (fun hc6 => ?_)
 ·have hc6 := (of_decide_eq_true hc6)
  refine W_seq (W_reg ?_)
  refine O_mv (v := (slV hs s)) rfl rfl (O_mv (v := (.int .i64 a)) rfl rfl (O_mv (v := (.int .i64 b)) rfl rfl (O_mv (v := (.func (.func kcmp) #[] ccmp)) rfl rfl ?_)))
  refine O_v rfl (R_callL (vs := [(slV hs s), (.int .i64 a), (.int .i64 b), (.func (.func kcmp) #[] ccmp)]) cF117 rfl rfl ((insSort_ID hs s a b kcmp ccmp w3 (H5.getOwn 0 rfl) Kcmp trivial (by omega)).ret ?_))
  rintro _ w7 ⟨rfl, hg8, ho9⟩
  have H10 := H5.updRow 0 rfl hg8 ho9
  refine O_nil (Then_n (W_ret (Then_r (Blk_r (Then_r (Blk_r ?_))))))
  refine ret_0 Tryz.results92 ⟨rfl, H10.gr, ?_⟩
  exact H10.getOwn 0 rfl
 ·have hc6 := (of_decide_eq_false hc6)
  refine W_skip (Then_n ?_)
  exfalso; omega
theorem cF92 : callable Tryz.prog 92 = true := by kernel_rfl
theorem cF93 : callable Tryz.prog 93 = true := by kernel_rfl
set_option maxHeartbeats 1000000 in
theorem SortFunc_ID1 (hs : SlH) (s : List ID) (kcmp : FuncId) (ccmp : Array Value) (w : World) (Os : OwnS 0 45 32 idCh hs s w) (Kcmp : callable Tryz.prog kcmp = true) (Ccmp : True) (hl : s.length ≤ 1) :
    Calls Tryz.prog 54 #[(slV hs s), (.func (.func kcmp) #[] ccmp)] w (Ret fun v w' => v = .tuple #[] ∧ Gr (fun b => (slV hs s).ownBlock = some b) w w' ∧ OwnS 0 45 32 idCh hs (s) w') := by
 refine calls_W Tryz.func54 rfl Tryz.ntmps54 rfl ?_
 have H0 := Ctx.startRow Os
 have LSs := (OwnS.sl Os (fun _ => rfl)).len
 refine W_seq (W_reg ?_)
 refine O_mv (v := (slV hs s)) rfl rfl ?_
 refine O_v rfl (R_len_slice (a := hs.a) (n := s.length) (c := hs.c) Tryz.underlying39 rfl ?_)
 refine O_as (v := (.int .i64 (s.length : Int))) rfl rfl ?_
 refine O_nil (Then_n (W_reg ?_))
 refine O_mv (v := (slV hs s)) rfl rfl (O_mv (v := (.int .i64 (s.length : Int))) rfl rfl (O_mv (v := (.int .i64 (s.length : Int))) rfl rfl ?_))
 refine O_v rfl (R_conv_int (a := (s.length : Int)) (r := (s.length : Int)) Tryz.underlying3 Tryz.underlying127 rfl (u64_in _ (by omega)) ?_)
 refine O_v rfl (R_callL (vs := [(.int .u64 (s.length : Int))]) cF93 rfl rfl ((bits_Len s.length w (by omega)).ret ?_))
 rintro _ w1 ⟨rfl, hx2⟩
 have H3 := H0.ext hx2
 refine O_mv (v := (.func (.func kcmp) #[] ccmp)) rfl rfl ?_
 refine O_v rfl (R_callL (vs := [(slV hs s), (.int .i64 0), (.int .i64 (s.length : Int)), (.int .i64 (s.length : Int)), (.func (.func kcmp) #[] ccmp)]) cF92 rfl rfl ((pdq_ID hs s 0 (s.length : Int) (s.length : Int) kcmp ccmp w1 (H3.getOwn 0 rfl) Kcmp trivial (by omega)).ret ?_))
 rintro _ w4 ⟨rfl, hg5, ho6⟩
 have H7 := H3.updRow 0 rfl hg5 ho6
 refine O_nil (ret_n ?_)
 refine ret_0 Tryz.results54 ⟨rfl, H7.gr, ?_⟩
 exact H7.getOwn 0 rfl
def laysSI : Go.Shelf.Ren := ⟨fun | 6 => 54 | 14 => 92 | 15 => 93 | 20 => 117 | 21 => 118 | 22 => 119 | 23 => 120 | 24 => 121 | 25 => 122 | 26 => 123 | 27 => 124 | 28 => 125 | 29 => 126 | 46 => 135 | 47 => 136 | 48 => 137 | 49 => 138 | 50 => 139 | 57 => 142 | n => n, fun | 0 => 0 | 3 => 3 | 4 => 4 | 5 => 5 | 9 => 9 | 22 => 39 | 24 => 45 | 25 => 95 | 39 => 127 | 45 => 154 | 46 => 155 | 50 => 159 | 53 => 162 | 55 => 126 | 66 => 170 | 70 => 174 | 76 => 177 | 77 => 178 | n => n, fun | n => n⟩
theorem laysSI6 : SlLaysF0.n6 Tryz.prog laysSI := {
  mixed := by kernel_rfl
  f6 := ⟨ "slices.SortFunc[[]pollard/api.ID,pollard/api.ID]", by decide, Tryz.func54.trans (congrArg some (by kernel_rfl))⟩
  f14 := ⟨ "slices.pdqsortCmpFunc[pollard/api.ID]", by decide, Tryz.func92.trans (congrArg some (by kernel_rfl))⟩
  f15 := Tryz.func93.trans (congrArg some (by kernel_rfl))
  f20 := ⟨ "slices.insertionSortCmpFunc[pollard/api.ID]", by decide, Tryz.func117.trans (congrArg some (by kernel_rfl))⟩
  f21 := ⟨ "slices.heapSortCmpFunc[pollard/api.ID]", by decide, Tryz.func118.trans (congrArg some (by kernel_rfl))⟩
  f22 := ⟨ "slices.breakPatternsCmpFunc[pollard/api.ID]", by decide, Tryz.func119.trans (congrArg some (by kernel_rfl))⟩
  f23 := ⟨ "slices.choosePivotCmpFunc[pollard/api.ID]", by decide, Tryz.func120.trans (congrArg some (by kernel_rfl))⟩
  f24 := ⟨ "slices.reverseRangeCmpFunc[pollard/api.ID]", by decide, Tryz.func121.trans (congrArg some (by kernel_rfl))⟩
  f25 := ⟨ "slices.partialInsertionSortCmpFunc[pollard/api.ID]", by decide, Tryz.func122.trans (congrArg some (by kernel_rfl))⟩
  f26 := ⟨ "slices.partitionEqualCmpFunc[pollard/api.ID]", by decide, Tryz.func123.trans (congrArg some (by kernel_rfl))⟩
  f27 := ⟨ "slices.partitionCmpFunc[pollard/api.ID]", by decide, Tryz.func124.trans (congrArg some (by kernel_rfl))⟩
  f28 := Tryz.func125.trans (congrArg some (by kernel_rfl))
  f29 := Tryz.func126.trans (congrArg some (by kernel_rfl))
  f46 := ⟨ "slices.siftDownCmpFunc[pollard/api.ID]", by decide, Tryz.func135.trans (congrArg some (by kernel_rfl))⟩
  f47 := Tryz.func136.trans (congrArg some (by kernel_rfl))
  f48 := Tryz.func137.trans (congrArg some (by kernel_rfl))
  f49 := ⟨ "slices.medianAdjacentCmpFunc[pollard/api.ID]", by decide, Tryz.func138.trans (congrArg some (by kernel_rfl))⟩
  f50 := ⟨ "slices.medianCmpFunc[pollard/api.ID]", by decide, Tryz.func139.trans (congrArg some (by kernel_rfl))⟩
  f57 := ⟨ "slices.order2CmpFunc[pollard/api.ID]", by decide, Tryz.func142.trans (congrArg some (by kernel_rfl))⟩
  t0 := Tryz.underlying0
  a0 := Tryz.isAgg0
  z0 := Tryz.sizeOf0
  v0 := Tryz.zeroValue0
  t3 := Tryz.underlying3
  a3 := Tryz.isAgg3
  z3 := Tryz.sizeOf3
  v3 := Tryz.zeroValue3
  t4 := Tryz.underlying4
  a4 := Tryz.isAgg4
  z4 := Tryz.sizeOf4
  v4 := Tryz.zeroValue4
  t5 := Tryz.underlying5
  a5 := Tryz.isAgg5
  z5 := Tryz.sizeOf5
  v5 := Tryz.zeroValue5
  t9 := Tryz.underlying9
  a9 := Tryz.isAgg9
  z9 := Tryz.sizeOf9
  v9 := Tryz.zeroValue9
  t22 := Tryz.underlying39
  a22 := Tryz.isAgg39
  z22 := Tryz.sizeOf39
  v22 := Tryz.zeroValue39
  t25 := Tryz.underlying95
  a25 := Tryz.isAgg95
  z25 := Tryz.sizeOf95
  v25 := Tryz.zeroValue95
  t39 := Tryz.underlying127
  a39 := Tryz.isAgg127
  z39 := Tryz.sizeOf127
  v39 := Tryz.zeroValue127
  t45 := Tryz.underlying154
  a45 := Tryz.isAgg154
  z45 := Tryz.sizeOf154
  v45 := Tryz.zeroValue154
  t46 := Tryz.underlying155
  a46 := Tryz.isAgg155
  z46 := Tryz.sizeOf155
  v46 := Tryz.zeroValue155
  t50 := Tryz.underlying159
  a50 := Tryz.isAgg159
  z50 := Tryz.sizeOf159
  v50 := Tryz.zeroValue159
  t53 := Tryz.underlying162
  a53 := Tryz.isAgg162
  z53 := Tryz.sizeOf162
  v53 := Tryz.zeroValue162
  t55 := Tryz.underlying126
  a55 := Tryz.isAgg126
  z55 := Tryz.sizeOf126
  v55 := Tryz.zeroValue126
  t66 := Tryz.underlying170
  a66 := Tryz.isAgg170
  z66 := Tryz.sizeOf170
  v66 := Tryz.zeroValue170
  t70 := Tryz.underlying174
  a70 := Tryz.isAgg174
  z70 := Tryz.sizeOf174
  v70 := Tryz.zeroValue174
  t76 := Tryz.underlying177
  a76 := Tryz.isAgg177
  z76 := Tryz.sizeOf177
  v76 := Tryz.zeroValue177
  t77 := Tryz.underlying178
  a77 := Tryz.isAgg178
  z77 := Tryz.sizeOf178
  v77 := Tryz.zeroValue178 }
set_option maxHeartbeats 1000000 in
theorem SortFunc_ID (hs : SlH) (s : List ID) (kcmp : FuncId) (ccmp : Array Value) (f : ID → ID → Int) (w : World) (Os : OwnS 0 45 32 idCh hs s w) (Kcmp : callable Tryz.prog kcmp = true) (Ccmp : ∀ w1, @Gr ddT (fun b => (slV hs s).ownBlock = some b) w w1 → (∃ l, OwnS 0 45 32 idCh hs l w1) → ∀ x y, Calls Tryz.prog kcmp (#[idV x, idV y] ++ ccmp) w1 (Ret fun v w2 => v = .int .i64 (f x y) ∧ @Gr ddT nob w1 w2)) (hO : Go.Sort.SWO (Go.Proofs.ltOf f)) (hl : s.length < 4611686018427387904) :
    Calls Tryz.prog 54 #[(slV hs s), (.func (.func kcmp) #[] ccmp)] w (Ret fun v w' => ∃ s' : List ID, v = .tuple #[] ∧ Gr (fun b => (slV hs s).ownBlock = some b) w w' ∧ OwnS 0 45 32 idCh hs s' w' ∧ (s'.Perm s ∧ ∀ i j, i < j → j < s'.length → ¬ f (nth s' j) (nth s' i) < 0)) := by
  by_cases h1 : s.length ≤ 1
  · refine (SortFunc_ID1 hs s kcmp ccmp w Os Kcmp trivial h1).mono ?_
    rintro e w' ⟨v, rfl, rfl, hg, ho⟩
    exact ⟨_, rfl, s, rfl, hg, ho, List.Perm.refl _, fun i j hij hj => by omega⟩
  · have h := sort_own (P := Tryz.prog) laysSI6 (enc := idCh) (k := 32) Tryz.isAgg45 Tryz.sizeOf45 (fun _ => rfl) (fun _ => rfl) f hO kcmp ccmp (enters_callable Kcmp) Os (by omega) hl Ccmp
    refine h.mono ?_
    rintro e w' ⟨v, rfl, l', rfl, hg, ho, hr⟩
    exact ⟨_, rfl, l', rfl, gr_ofT hg, ho, hr⟩
end Go.Proofs.YthjdhfoeckfmbaaGreat
namespace Go.Proofs.YthjdhfoeckfmbaaGreat
open Go
set_option linter.unusedVariables false
set_option linter.unusedSimpArgs false
section
variable {b : List UInt8} {acc acc2 out s N : List ID} {l : List ItemS} {X : ChangeS} {k j : Nat} {e : Int}
theorem kind2_ok (hk : kindOf b = 2) : (dirOf b).2 = 0 := by
  unfold kindOf at hk
  repeat' split at hk
  all_goals first
    | assumption
    | (exfalso; omega)
theorem kind3_ok (hk : kindOf b = 3) : (changeOf b).2 = 0 := by
  unfold kindOf at hk
  repeat' split at hk
  all_goals first
    | assumption
    | (exfalso; omega)
theorem dirOf_ok (h : (dirOf b).2 = 0) : dirOkC (dirOf b).1 = true := by
  unfold dirOf at h ⊢
  split at h
  · rename_i hh; rw [if_pos hh]; exact hh.2
  · cases h
theorem changeOf_ok (h : (changeOf b).2 = 0) : changeOkC (changeOf b).1 = true := by
  unfold changeOf at h ⊢
  split at h
  · rename_i hh; rw [if_pos hh]; exact hh.2
  · cases h
theorem links_dok (hk : kindOf b = 2) (hr : (l.map ItemS.core, e) = dirOf b) : dirOk l = true := by
  have h := dirOf_ok (kind2_ok hk)
  rw [← hr] at h
  rw [dirOk_core]; exact h
theorem links_cok (hk : kindOf b = 3) (hr : (X.core, e) = changeOf b) : changeOk X = true := by
  have h := changeOf_ok (kind3_ok hk)
  rw [← hr] at h
  rw [changeOk_core]; exact h
theorem raw_start (ha : acc = rawTo (l.map ItemS.core) k) : acc ++ [(nth l k).sub] = acc ++ (itemIds (nth l k).core).take 1 := rfl
theorem raw_head (ha : acc2 = acc ++ (itemIds (nth l k).core).take (j + 1)) (hj : j < (nth l k).heads.length) : acc2 ++ [(nth (nth l k).heads j).data] = acc ++ (itemIds (nth l k).core).take (j + 1 + 1) := by
  rw [ha, List.append_assoc]
  refine congrArg _ ?_
  have e1 : (itemIds (nth l k).core).length = (nth l k).heads.length + 1 := by simp [itemIds, ItemS.core]
  rw [take_snoc (k := j + 1) (by omega)]
  refine congrArg (fun z => _ ++ [z]) ?_
  show _ = nth (((nth l k).heads).map (·.data)) j
  rw [nth_map _ hj]
theorem raw_next (ha : acc = rawTo (l.map ItemS.core) k) (hlt : k < l.length) (h2 : acc2 = acc ++ (itemIds (nth l k).core).take (j + 1)) (hj : (nth l k).heads.length ≤ j) : acc2 = rawTo (l.map ItemS.core) (k + 1) := by
  have e1 : (itemIds (nth l k).core).length = (nth l k).heads.length + 1 := by simp [itemIds, ItemS.core]
  rw [rawTo_succ (by simpa using hlt), nth_map _ hlt, h2, ha, List.take_of_length_le (by omega)]
theorem rawTo_len {l : List ItemS} (h : dirOk l = true) : ∀ k, k ≤ l.length → (rawTo (l.map ItemS.core) k).length ≤ 1001 * k
  | 0, _ => by simp [rawTo]
  | k + 1, hk => by
    have ih := rawTo_len h k (by omega)
    have h2 := (dir_lens h).2 _ (nth_mem (show k < l.length by omega))
    rw [rawTo_succ (by rw [List.length_map]; omega), nth_map _ (by omega), List.length_append]
    have e1 : (itemIds (nth l k).core).length = (nth l k).heads.length + 1 := by simp [itemIds, ItemS.core]
    omega
theorem ops_step (ha : acc2 = acc ++ (X.ops.take j).map (·.data)) (hj : j < X.ops.length) : acc2 ++ [(nth X.ops j).data] = acc ++ (X.ops.take (j + 1)).map (·.data) := by
  rw [ha, take_snoc hj, List.map_append, List.append_assoc]; rfl
theorem links_chgG (hk : kindOf b = 3) (hr : (X.core, e) = changeOf b) (ha : acc = (X.parents ++ [X.tree]) ++ (X.ops.take j).map (·.data)) (hj : X.ops.length ≤ j) : acc = linksRaw b := by
  rw [links_chg hk hr, ha, List.take_of_length_le hj]
theorem raw_len (h : out = linksRaw b) : out.length ≤ 1100000 := by
  subst h
  unfold linksRaw
  split
  · rename_i h2
    have h3 := dirOf_ok (kind2_ok h2)
    generalize (dirOf b).1 = l at h3
    have h4 : dirOk (l.map ItemC.toS) = true := h3
    have h5 := rawTo_len h4 _ (Nat.le_refl _)
    have h6 := (dir_lens h4).1
    have e : (l.map ItemC.toS).map ItemS.core = l := by rw [List.map_map]; exact (List.map_congr_left (fun x _ => rfl)).trans (List.map_id l)
    rw [e, rawTo] at h5
    simp only [List.length_map] at h5 h6
    rw [List.take_length] at h5
    omega
  · split
    · rename_i h2
      have h3 := changeOf_ok (kind3_ok h2)
      generalize (changeOf b).1 = c at h3
      have h4 := change_lens (c := c.toS) h3
      simp only [ChangeC.toS, List.length_map] at h4
      simp only [List.length_append, List.length_map, List.length_cons, List.length_nil]
      omega
    · split
      · simp
      · simp
theorem links_y (hN : N = compactL s) (hr : s.Perm out ∧ ∀ i j, i < j → j < s.length → ¬ cmpId (nth s j) (nth s i) < 0) (ho : out = linksRaw b) (hz : (0 : Int) < ((N.length : Nat) : Int) ∧ nth N 0 = zeroId) : N.drop 1 = linksOf b := by
  rw [← links_eq (ho ▸ hr.1) hr.2, ← hN, dropZ, if_pos ⟨by omega, hz.2⟩]
theorem links_n2 (hN : N = compactL s) (hr : s.Perm out ∧ ∀ i j, i < j → j < s.length → ¬ cmpId (nth s j) (nth s i) < 0) (ho : out = linksRaw b) (hz : ¬ (0 : Int) < ((N.length : Nat) : Int) ∨ ¬ nth N 0 = zeroId) : N = linksOf b := by
  rw [← links_eq (ho ▸ hr.1) hr.2, ← hN, dropZ, if_neg]
  rintro ⟨h1, h2⟩
  rcases hz with hz | hz
  · omega
  · exact hz h2
theorem perm_nil : ([] : List ID).Perm [] ∧ ∀ i j, i < j → j < ([] : List ID).length → ¬ cmpId (nth ([] : List ID) j) (nth [] i) < 0 := ⟨List.Perm.refl _, fun i j _ h => absurd h (Nat.not_lt_zero _)⟩
end
end Go.Proofs.YthjdhfoeckfmbaaGreat
namespace Go.Proofs.YthjdhfoeckfmbaaGreat
open Go
set_option maxRecDepth 100000
set_option linter.unusedVariables false
set_option linter.unusedSimpArgs false
set_option linter.unusedSectionVars false
theorem cF14 : callable Tryz.prog 14 = true := by kernel_rfl
theorem cF53 : callable Tryz.prog 53 = true := by kernel_rfl
theorem cF54 : callable Tryz.prog 54 = true := by kernel_rfl
theorem cF56 : callable Tryz.prog 56 = true := by kernel_rfl
set_option maxHeartbeats 4000000 in
theorem obj_LinksG (hb : SlH) (b : List UInt8) (w : World) (Sb : Sl (Old w) encB 1 hb b w) (hl : b.length ≤ 140737488355328) :
    Calls Tryz.prog 21 #[(slV hb b)] w (Ret fun v w' => ∃ (hN : SlH) (SN : Nat → Prop), v = slV hN (linksOf b) ∧ Ext w w' ∧ (∀ b, SN b → w.heap.size ≤ b ∧ b < w'.heap.size) ∧ Sl SN idCh 32 hN (linksOf b) w') := by
 refine calls_W Tryz.func21 rfl Tryz.ntmps21 rfl ?_
 have H0 := Ctx.start w nob
 have H1 := H0.addSl _ Sb (fun b hb => ⟨hb, fun _ ho => (nomatch ho)⟩)
 have LSb := Sb.len
 refine W_seq (W_reg ?_)
 refine O_as (v := (.slice none 0 0)) rfl rfl ?_
 refine O_nil (Then_n (W_seq (W_reg ?_)))
 refine O_as (v := (.slice none 0 0)) rfl rfl ?_
 refine O_nil (Then_n (W_seq (W_seq (W_reg ?_))))
 refine O_mv (v := (slV hb b)) rfl rfl ?_
 refine O_v rfl (R_callL (vs := [(slV hb b)]) cF14 rfl rfl ((obj_Kind hb b w (H1.slOld 0 rfl) (by omega)).ret ?_))
 rintro _ w2 ⟨rfl, hx3⟩
 have H4 := H1.ext hx3
 refine O_nil (Then_n (W_block (W_seq (W_reg ?_))))
 refine O_v rfl (R_cmp (a := kindOf b) (b := 2) (r := (decide (kindOf b = 2))) rfl rfl rfl ?_)
 refine O_as (v := (.bool (decide (kindOf b = 2)))) rfl rfl ?_
 refine O_nil (Then_n ?_)
 refine W_cond rfl (fun hc5 => ?_) (fun hc5 => ?_)
 ·have hc5 := (of_decide_eq_true hc5)
  have hK := hc5
  refine W_seq (W_reg ?_)
  refine O_mv (v := (slV hb b)) rfl rfl ?_
  refine O_v rfl (R_callL (vs := [(slV hb b)]) cF17 rfl rfl ((obj_Dir hb b w2 (H4.slOld 0 rfl) (by omega)).ret ?_))
  rintro _ w9 ⟨h6, l7, S8, e16, rfl, hx10, ho11, hS12, hd13, hr14⟩
  have H15 := H4.addRowDeep (h := fun x : ItemS => x.hh) (f := fun x : ItemS => x.heads) hx10 ho11 hS12 hd13
  refine O_mv (v := (.tuple #[(slV h6 l7), (.int .i64 e16)])) rfl rfl (O_ex (v := (slV h6 l7)) rfl rfl rfl (O_ex (v := (.int .i64 e16)) rfl rfl rfl (O_as (v := (slV h6 l7)) rfl rfl ?_)))
  refine O_as (v := (.int .i64 e16)) rfl rfl ?_
  refine O_nil (Then_n (W_seq (W_reg ?_)))
  refine O_mv (v := (slV h6 l7)) rfl rfl ?_
  refine O_v rfl (R_len_slice (a := h6.a) (n := l7.length) (c := h6.c) Tryz.underlying31 rfl ?_)
  refine O_mv (v := (.int .i64 0)) rfl rfl ?_
  refine O_nil (Then_n (W_block ?_))
  have H17 := H15.addNil 45 32 idCh
  refine W_loop (fun m19 e20 w21 => ∃ (k : Nat), ∃ (acc : List ID), ∃ (h18 : SlH), m19 = l7.length - k ∧ (k ≤ l7.length) ∧ (acc = rawTo (l7.map ItemS.core) k) ∧ (acc.length ≤ 1001 * k) ∧ ∃ eb22, e20 = envL [(2, (.slice none 0 0)), (3, (slV h18 acc)), (25, (slV h6 l7)), (26, (.int .i64 (l7.length : Int))), (27, (.int .i64 (k : Int)))] eb22 ∧ Ctx w nob w21 [rowR 45 32 idCh h18 acc, rowR 77 38 itemCh h6 l7] [deepI S8 headCh 34 (fun x : ItemS => x.hh) (fun x : ItemS => x.heads) l7, slI (Old w) encB 1 hb b]) _ ⟨0, [], nilH, rfl, (by omega), rfl, (Nat.zero_le _), _, envL_self ⟨rfl, rfl, rfl, rfl, rfl, trivial⟩, H17⟩ ?_
  rintro m19 _ w21 ⟨k, acc, h18, rfl, hk, ha, hal, eb22, rfl, H23⟩
  refine W_seq (W_reg ?_)
  refine O_v rfl (R_cmp (a := (k : Int)) (b := (l7.length : Int)) (r := (decide ((k : Int) < (l7.length : Int)))) rfl rfl rfl ?_)
  refine O_nil (Then_n (W_seq ?_))
  refine W_cond rfl (fun hc24 => ?_) (fun hc24 => ?_)
  ·have hc24 := (of_decide_eq_true hc24)
   refine W_skip (Then_n (W_seq (W_block (W_seq (W_reg ?_)))))
   refine O_v rfl (R_index_pure (OwnS.sl (H23.getOwn 1 rfl) (fun _ => rfl)) (n := l7.length) rfl (j := (k : Int)) (oo := (h6.o + k * 38)) Tryz.underlying31 Tryz.sizeOf77 rfl rfl (by omega) (by omega) rfl ?_)
   refine O_v rfl (R_loadA (cs := [[(.int .i64 (((nth l7 k).node).T))], [(.int .i64 (((nth l7 k).node).R))], [(.int .i64 (((nth l7 k).tm).T))], [(.int .i64 (((nth l7 k).tm).R))], [(.string ((nth l7 k).name))], (idCells ((nth l7 k).sub)), [(slV ((nth l7 k).hh) ((nth l7 k).heads))]]) Tryz.isAgg77 Tryz.sizeOf77 rfl rfl ((Sl.elem (OwnS.sl (H23.getOwn 1 rfl) (fun _ => rfl)) (i := k) (by omega) rfl).chunks 0 7 0 (h6.o + k * 38) _ rfl rfl rfl) ?_)
   refine O_v rfl (C_alloc H23 [[(.int .i64 0)], [(.int .i64 0)], [(.int .i64 0)], [(.int .i64 0)], [(.string ByteArray.empty)], (idCells zeroId), [(.slice none 0 0)]] Tryz.zeroValue77 ?_)
   intro b25 w26 hb27 hx28 H29
   refine O_u (C_storeW H29 0 rfl (sub := [[(.int .i64 (((nth l7 k).node).T))], [(.int .i64 (((nth l7 k).node).R))], [(.int .i64 (((nth l7 k).tm).T))], [(.int .i64 (((nth l7 k).tm).R))], [(.string ((nth l7 k).name))], (idCells ((nth l7 k).sub)), [(slV ((nth l7 k).hh) ((nth l7 k).heads))]]) Tryz.sizeOf77 rfl rfl rfl rfl rfl ?_)
   intro w30 hg31 H32
   refine O_nil (Then_n (W_seq (W_reg ?_)))
   refine O_mv (v := (slV h18 acc)) rfl rfl ?_
   refine O_v rfl (R_fieldAddr (off := 5) (oo := 5) Tryz.underlying77 rfl rfl Tryz.sizeOf45 rfl rfl ?_)
   refine O_v rfl (R_loadA (cs := [(idCells ((nth l7 k).sub))]) Tryz.isAgg45 Tryz.sizeOf45 rfl rfl (H32.bx 0 rfl 5 1 5 5 _ rfl rfl rfl) ?_)
   refine O_v rfl (C_buildSliceL H32 (enc := idCh) (val := idV) ([(nth l7 k).sub] : List ID) Tryz.underlying39 Tryz.sizeOf45 Tryz.zeroValue45 rfl (by decide) (fun _ => rfl) (fun _ => rfl) rfl rfl (by decide) ?_)
   intro b33 w34 hb35 hx36 H37
   refine O_v rfl (C_append H37 2 rfl (bytes := 32) (l := acc) (ys := ([(nth l7 k).sub] : List ID)) Tryz.underlying39 rfl rfl rfl rfl rfl (by decide) rfl rfl (OwnS.sl (H37.getOwn 0 rfl) (fun _ => rfl)) (fun _ => rfl) (fun _ => rfl) (by have hd := links_dok hK hr14; have h5 := (dir_lens hd).1; have h6 := (dir_lens hd).2 _ (nth_mem (show k < l7.length by omega)); simp only [List.length_append, List.length_cons, List.length_nil]; omega) (by decide) ?_)
   intro h38 w39 hg40 H41
   refine O_as (v := (slV h38 (acc ++ ([(nth l7 k).sub] : List ID)))) rfl rfl ?_
   refine O_nil (Then_n (W_seq (W_reg ?_)))
   refine O_v rfl (R_fieldAddr (off := 37) (oo := 37) Tryz.underlying77 rfl rfl Tryz.sizeOf75 rfl rfl ?_)
   refine O_v rfl (R_load1 (v := (slV ((nth l7 k).hh) ((nth l7 k).heads))) Tryz.isAgg75 rfl (H41.bx 1 rfl 6 1 37 37 _ rfl rfl rfl) ?_)
   refine O_v rfl (R_len_slice (a := ((nth l7 k).hh).a) (n := ((nth l7 k).heads).length) (c := ((nth l7 k).hh).c) Tryz.underlying75 rfl ?_)
   refine O_mv (v := (.int .i64 0)) rfl rfl ?_
   refine O_nil (Then_n (W_block ?_))
   refine W_loop (fun m43 e44 w45 => ∃ (j : Nat), ∃ (acc2 : List ID), ∃ (h42 : SlH), m43 = (nth l7 k).heads.length - j ∧ (j ≤ (nth l7 k).heads.length) ∧ (acc2 = acc ++ (itemIds (nth l7 k).core).take (j + 1)) ∧ (acc2.length ≤ acc.length + 1 + j) ∧ ∃ eb46, e44 = envL [(2, (.slice none 0 0)), (3, (slV h42 acc2)), (7, (.pointer (some ⟨b25, 0, none⟩))), (25, (slV h6 l7)), (26, (.int .i64 (l7.length : Int))), (27, (.int .i64 (k : Int))), (28, (.bool (decide ((k : Int) < (l7.length : Int))))), (29, (.pointer (some ⟨h6.b, (h6.o + k * 38), none⟩))), (30, (aggOf (itemCh (nth l7 k)))), (31, (slV h18 acc)), (32, (.pointer (some ⟨b25, 5, none⟩))), (33, (aggOf (idCh ((nth l7 k).sub)))), (34, (slV ⟨some ⟨b33, 0, none⟩, b33, 0, 1⟩ ([(nth l7 k).sub] : List ID))), (35, (slV h38 (acc ++ ([(nth l7 k).sub] : List ID)))), (36, (.pointer (some ⟨b25, 37, none⟩))), (37, (slV ((nth l7 k).hh) ((nth l7 k).heads))), (38, (.int .i64 ((((nth l7 k).heads).length : Nat) : Int))), (39, (.int .i64 (j : Int)))] eb46 ∧ Ctx w nob w45 [rowR 45 32 idCh ⟨some ⟨b33, 0, none⟩, b33, 0, 1⟩ ([(nth l7 k).sub] : List ID), boxR b25 77 [[(.int .i64 (((nth l7 k).node).T))], [(.int .i64 (((nth l7 k).node).R))], [(.int .i64 (((nth l7 k).tm).T))], [(.int .i64 (((nth l7 k).tm).R))], [(.string ((nth l7 k).name))], (idCells ((nth l7 k).sub)), [(slV ((nth l7 k).hh) ((nth l7 k).heads))]], rowR 45 32 idCh h42 acc2, rowR 77 38 itemCh h6 l7] [deepI S8 headCh 34 (fun x : ItemS => x.hh) (fun x : ItemS => x.heads) l7, slI (Old w) encB 1 hb b]) _ ⟨0, (acc ++ ([(nth l7 k).sub] : List ID)), h38, rfl, (by omega), (raw_start ha), (by simp only [List.length_append, List.length_cons, List.length_nil]; omega), _, envL_self ⟨rfl, rfl, rfl, rfl, rfl, rfl, rfl, rfl, rfl, rfl, rfl, rfl, rfl, rfl, rfl, rfl, rfl, rfl, trivial⟩, H41⟩ ?_
   rintro m43 _ w45 ⟨j, acc2, h42, rfl, hj, ha2, hal2, eb46, rfl, H47⟩
   refine W_seq (W_reg ?_)
   refine O_v rfl (R_cmp (a := (j : Int)) (b := ((((nth l7 k).heads).length : Nat) : Int)) (r := (decide ((j : Int) < ((((nth l7 k).heads).length : Nat) : Int)))) rfl rfl rfl ?_)
   refine O_nil (Then_n (W_seq ?_))
   refine W_cond rfl (fun hc48 => ?_) (fun hc48 => ?_)
   ·have hc48 := (of_decide_eq_true hc48)
    refine W_skip (Then_n (W_seq (W_block (W_seq (W_reg ?_)))))
    refine O_v rfl (R_index_pure (Sl.as ((nth l7 k).hh) ((nth l7 k).heads) ((H47.getImm 0 rfl) _ (nth_mem (by omega)))) (n := ((nth l7 k).heads).length) rfl (j := (j : Int)) (oo := (((nth l7 k).hh).o + j * 34)) Tryz.underlying75 Tryz.sizeOf84 rfl rfl (by omega) (by omega) rfl ?_)
    refine O_v rfl (R_loadA (cs := [[(.int .i64 (((nth ((nth l7 k).heads) j).tm).T))], [(.int .i64 (((nth ((nth l7 k).heads) j).tm).R))], (idCells ((nth ((nth l7 k).heads) j).data))]) Tryz.isAgg84 Tryz.sizeOf84 rfl rfl ((Sl.elem (Sl.as ((nth l7 k).hh) ((nth l7 k).heads) ((H47.getImm 0 rfl) _ (nth_mem (by omega)))) (i := j) (by omega) rfl).chunks 0 3 0 (((nth l7 k).hh).o + j * 34) _ rfl rfl rfl) ?_)
    refine O_v rfl (C_alloc H47 [[(.int .i64 0)], [(.int .i64 0)], (idCells zeroId)] Tryz.zeroValue84 ?_)
    intro b49 w50 hb51 hx52 H53
    refine O_u (C_storeW H53 0 rfl (sub := [[(.int .i64 (((nth ((nth l7 k).heads) j).tm).T))], [(.int .i64 (((nth ((nth l7 k).heads) j).tm).R))], (idCells ((nth ((nth l7 k).heads) j).data))]) Tryz.sizeOf84 rfl rfl rfl rfl rfl ?_)
    intro w54 hg55 H56
    refine O_nil (Then_n (W_reg ?_))
    refine O_mv (v := (slV h42 acc2)) rfl rfl ?_
    refine O_v rfl (R_fieldAddr (off := 2) (oo := 2) Tryz.underlying84 rfl rfl Tryz.sizeOf45 rfl rfl ?_)
    refine O_v rfl (R_loadA (cs := [(idCells ((nth ((nth l7 k).heads) j).data))]) Tryz.isAgg45 Tryz.sizeOf45 rfl rfl (H56.bx 0 rfl 2 1 2 2 _ rfl rfl rfl) ?_)
    refine O_v rfl (C_buildSliceL H56 (enc := idCh) (val := idV) ([(nth ((nth l7 k).heads) j).data] : List ID) Tryz.underlying39 Tryz.sizeOf45 Tryz.zeroValue45 rfl (by decide) (fun _ => rfl) (fun _ => rfl) rfl rfl (by decide) ?_)
    intro b57 w58 hb59 hx60 H61
    refine O_v rfl (C_append H61 4 rfl (bytes := 32) (l := acc2) (ys := ([(nth ((nth l7 k).heads) j).data] : List ID)) Tryz.underlying39 rfl rfl rfl rfl rfl (by decide) rfl rfl (OwnS.sl (H61.getOwn 0 rfl) (fun _ => rfl)) (fun _ => rfl) (fun _ => rfl) (by have hd := links_dok hK hr14; have h5 := (dir_lens hd).1; have h6 := (dir_lens hd).2 _ (nth_mem (show k < l7.length by omega)); simp only [List.length_append, List.length_cons, List.length_nil]; omega) (by decide) ?_)
    intro h62 w63 hg64 H65
    refine O_as (v := (slV h62 (acc2 ++ ([(nth ((nth l7 k).heads) j).data] : List ID)))) rfl rfl ?_
    refine O_nil (Blk_n (Then_n (W_reg ?_)))
    refine O_v rfl (R_arith (a := (j : Int)) (b := 1) (r0 := (j : Int) + 1) (r := ((j + 1 : Nat) : Int)) rfl rfl rfl (wrapN _ (by have hd := links_dok hK hr14; have h5 := (dir_lens hd).1; have h6 := (dir_lens hd).2 _ (nth_mem (show k < l7.length by omega)); omega)) ?_)
    refine O_mv (v := (.int .i64 ((j + 1 : Nat) : Int))) rfl rfl ?_
    refine O_nil (Then_n ?_)
    have H66 := H65.sub (List.Sublist.cons _ (List.Sublist.cons _ (List.Sublist.cons_cons _ (List.Sublist.cons_cons _ (List.Sublist.cons_cons _ (List.Sublist.cons_cons _ List.Sublist.slnil)))))) (List.forall_mem_cons.2 ⟨List.mem_of_getElem? (i := 0) rfl, List.forall_mem_cons.2 ⟨List.mem_of_getElem? (i := 1) rfl, memN⟩⟩)
    refine ⟨_, ?_, (j + 1), (acc2 ++ ([(nth ((nth l7 k).heads) j).data] : List ID)), h62, rfl, (by omega), (raw_head ha2 (by omega)), (by simp only [List.length_append, List.length_cons, List.length_nil]; omega), _, envL_self ⟨rfl, rfl, rfl, rfl, rfl, rfl, rfl, rfl, rfl, rfl, rfl, rfl, rfl, rfl, rfl, rfl, rfl, rfl, trivial⟩, H66⟩
    omega
   ·have hc48 := (of_decide_eq_false hc48)
    refine W_exit (Then_x (Then_x (Blk_x (Blk_n (Then_n (W_reg ?_))))))
    refine O_v rfl (R_arith (a := (k : Int)) (b := 1) (r0 := (k : Int) + 1) (r := ((k + 1 : Nat) : Int)) rfl rfl rfl (wrapN _ (by have hd := links_dok hK hr14; have h5 := (dir_lens hd).1; have h6 := (dir_lens hd).2 _ (nth_mem (show k < l7.length by omega)); omega)) ?_)
    refine O_mv (v := (.int .i64 ((k + 1 : Nat) : Int))) rfl rfl ?_
    refine O_nil (Then_n ?_)
    have H67 := H47.sub (List.Sublist.cons _ (List.Sublist.cons _ (List.Sublist.cons_cons _ (List.Sublist.cons_cons _ List.Sublist.slnil)))) (List.forall_mem_cons.2 ⟨List.mem_of_getElem? (i := 0) rfl, List.forall_mem_cons.2 ⟨List.mem_of_getElem? (i := 1) rfl, memN⟩⟩)
    refine ⟨_, ?_, (k + 1), acc2, h42, rfl, (by omega), (raw_next ha (by omega) ha2 (by omega)), (by rw [raw_next ha (by omega) ha2 (by omega)]; exact rawTo_len (links_dok hK hr14) _ (by omega)), _, envL_self ⟨rfl, rfl, rfl, rfl, rfl, trivial⟩, H67⟩
    omega
  ·have hc24 := (of_decide_eq_false hc24)
   refine W_exit (Then_x (Then_x (Blk_x (Blk_n (Then_n (W_seq (W_reg ?_)))))))
   refine O_mv (v := (slV h18 acc)) rfl rfl ?_
   refine O_v rfl (R_callL (vs := [(slV h18 acc), (.func (.func 55) #[] #[])]) cF54 rfl rfl ((SortFunc_ID h18 acc 55 #[] cmpId w21 (H23.getOwn 0 rfl) cF55 (fun w1 _ _ x y => callsCap0 (@sha_Cmp ddT x y w1)) swo_id (Nat.lt_of_le_of_lt (raw_len (links_dirE hK hr14 ha (by omega))) (by decide))).ret ?_))
   rintro _ w68 ⟨s72, rfl, hg69, ho70, hr73⟩
   have H71 := H23.updRow 0 rfl hg69 ho70
   have hr73l := (hr73).1.length_eq
   refine O_nil (Then_n (W_seq (W_reg ?_)))
   refine O_mv (v := (slV h18 acc)) rfl rfl ?_
   refine O_v rfl (R_callL (vs := [(slV h18 s72)]) cF56 rfl (lst1 (slV_len (l := acc) (l' := s72) (by omega))) ((Compact_ID h18 s72 w68 (H71.getOwn 0 rfl) (Sl.cap (OwnS.sl (H71.getOwn 0 rfl) (fun _ => rfl)))).ret ?_))
   have hn81 := H71.newRow 0 rfl
   rintro _ w74 ⟨h78, s79, rfl, hg75, ho76, hr80⟩
   have H77 := H71.consume 0 rfl hg75 ho76
   refine O_as (v := (slV h78 s79)) rfl rfl ?_
   refine O_nil (Then_n (W_seq (W_seq ?_)))
   refine W_rg [(0, .q 0), (1, .q 0), (2, .q 0), (3, .q 0), (4, .q 0), (5, .q 0), (6, .q 0), (7, .q 0), (8, .q 0), (9, .q 0)] (by kernel_rfl) ?_
   refine Lx_mv (v := (slV h78 s79)) rfl rfl rfl (Lx_q rfl rfl _ (fun v84 hv85 => R_len_slice (a := h78.a) (n := s79.length) (c := h78.c) Tryz.underlying39 rfl qk) (Lx_q rfl rfl _ (fun v86 hv87 => R_cmp (a := (s79.length : Int)) (b := 0) (r := (decide (0 < (s79.length : Int)))) rfl rfl rfl qk) (Lx_mv (v := (.bool (decide (0 < (s79.length : Int))))) rfl rfl rfl ?_)))
   refine Lx_qt rfl rfl rfl rfl rfl _ (fun hA v90 hv91 => R_move (v := (slV h78 s79)) rfl qk) ?_
   refine Lx_qt rfl rfl rfl rfl rfl _ (fun hA v92 hv93 => by
          have hP : (0 < (s79.length : Int)) := (of_decide_eq_true hA)
          exact R_index_pure (H77.sl 0 rfl) (n := s79.length) rfl (j := 0) (oo := (h78.o + 0 * 32)) Tryz.underlying39 Tryz.sizeOf45 (gv_t hA) rfl (by omega) (by omega) rfl qk) ?_
   refine Lx_qt rfl rfl rfl rfl rfl _ (fun hA v94 hv95 => by
          have hP : (0 < (s79.length : Int)) := (of_decide_eq_true hA)
          exact R_loadA (cs := [(idCells (nth s79 0))]) Tryz.isAgg45 Tryz.sizeOf45 rfl (gv_t hA) ((Sl.elem ((H77.ext hv95).sl 0 rfl) (i := 0) (by omega) rfl).chunks 0 1 0 (h78.o + 0 * 32) _ rfl rfl rfl) qk) ?_
   refine Lx_qt rfl rfl rfl rfl rfl _ (fun hA v96 hv97 => R_buildL (vs := []) (v := aggOf [(idCells zeroId)]) rfl (fun _ => by kernel_rfl) qk) (Lx_qt rfl rfl rfl rfl rfl _ (fun hA v98 hv99 => R_eqv (a := (nth s79 0)) (b := zeroId) eqv_ID45 rfl Tryz.eqGuardType45 (gv_t hA) (gv_t hA) qk) (Lx_q rfl rfl _ (fun v100 hv101 => R_pick rfl pk_and qk) ?_))
   refine Lx_nil (fun w102 hw103 => ?_)
   have H104 := H77.ext hw103
   refine Then_n ?_
   refine W_cond rfl (fun hc105 => ?_) (fun hc105 => ?_)
   ·have hc105 : ((0 < (s79.length : Int)) ∧ ((nth s79 0) = zeroId)) := (And.imp (fun h => (of_decide_eq_true h)) (fun h => (of_decide_eq_true h)) (andT hc105))
    refine W_reg ?_
    refine O_mv (v := (slV h78 s79)) rfl rfl ?_
    refine O_v rfl (R_sliceS (h := h78) (l := s79) (a := 1) (b := s79.length) (m := h78.c) (s79.drop 1) Tryz.underlying39 Tryz.sizeOf45 rfl rfl rfl rfl (by decide) (by omega) (by first | omega | exact Nat.le_refl _) (by have := Sl.cap (H104.sl 0 rfl); omega) (by first | omega | exact Nat.le_refl _ | (have := Sl.cap (H104.sl 0 rfl); omega)) (by rw [List.take_length])  ?_)
    refine O_as (v := (slV (hSub h78 32 1 h78.c) (s79.drop 1))) rfl rfl ?_
    refine O_nil (Then_n (W_seq (W_reg ?_)))
    refine O_mv (v := (slV (hSub h78 32 1 h78.c) (s79.drop 1))) rfl rfl (O_as (v := (slV (hSub h78 32 1 h78.c) (s79.drop 1))) rfl rfl ?_)
    refine O_nil (Then_n (W_ret ?_))
    refine ret_1 (v := (slV (hSub h78 32 1 h78.c) (s79.drop 1))) Tryz.results21 rfl ?_
    have hE : s79.drop 1 = linksOf b := (links_y hr80 hr73 (links_dirE hK hr14 ha (by omega)) hc105)
    exact hE ▸ ⟨hSub h78 32 1 h78.c, (fun z_ => (slV h18 s72).ownBlock = some z_), rfl, H104.gr, fun b hb => ⟨hn81 b hb, (H104.imm _ (List.mem_of_getElem? (i := 0) rfl)).2 b hb⟩, (Sl.sub (H104.sl 0 rfl) 1 s79.length h78.c (by omega) (by first | omega | exact Nat.le_refl _) (by have := Sl.cap (H104.sl 0 rfl); omega) (by first | omega | exact Nat.le_refl _ | (have := Sl.cap (H104.sl 0 rfl); omega)) (by rw [List.take_length]))⟩
   ·have hc105 : (¬ (0 < (s79.length : Int)) ∨ ¬ ((nth s79 0) = zeroId)) := (Or.imp (fun h => (of_decide_eq_false h)) (fun h => (of_decide_eq_false h)) (andF hc105))
    refine W_skip (Then_n (W_seq (W_reg ?_)))
    refine O_mv (v := (slV h78 s79)) rfl rfl (O_as (v := (slV h78 s79)) rfl rfl ?_)
    refine O_nil (Then_n (W_ret ?_))
    refine ret_1 (v := (slV h78 s79)) Tryz.results21 rfl ?_
    have hE : s79 = linksOf b := (links_n2 hr80 hr73 (links_dirE hK hr14 ha (by omega)) hc105)
    exact hE ▸ ⟨h78, (fun z_ => (slV h18 s72).ownBlock = some z_), rfl, H104.gr, fun b hb => ⟨hn81 b hb, (H104.imm _ (List.mem_of_getElem? (i := 0) rfl)).2 b hb⟩, (H104.sl 0 rfl)⟩
 ·have hc5 := (of_decide_eq_false hc5)
  have h2 := hc5
  refine W_seq (W_reg ?_)
  refine O_v rfl (R_cmp (a := kindOf b) (b := 3) (r := (decide (kindOf b = 3))) rfl rfl rfl ?_)
  refine O_as (v := (.bool (decide (kindOf b = 3)))) rfl rfl ?_
  refine O_nil (Then_n ?_)
  refine W_cond rfl (fun hc106 => ?_) (fun hc106 => ?_)
  ·have hc106 := (of_decide_eq_true hc106)
   have hK := hc106
   refine W_seq (W_reg ?_)
   refine O_mv (v := (slV hb b)) rfl rfl ?_
   refine O_v rfl (R_callL (vs := [(slV hb b)]) cF25 rfl rfl ((obj_Change hb b w2 (H4.slOld 0 rfl) (by omega)).ret ?_))
   rintro _ w110 ⟨x107, S108, e109, rfl, hx111, hS112, hs113, hs114, hs115, hr116⟩
   have H118 := H4.addImm hx111 (slI S108 idCh 32 x107.ph x107.parents) hs113 hS112
   have H119 := H118.immOf 0 rfl (slI S108 opCh 41 x107.oh x107.ops) (fun _ h => h) (fun _ => hs114)
   have H120 := H119.immOf 0 rfl (deepI S108 stampCh 2 (fun x : OpS => x.oh) (fun x : OpS => x.over) x107.ops) (fun _ h => h) (fun _ => hs115)
   refine O_mv (v := (.tuple #[(aggOf (changeCh x107)), (.int .i64 e109)])) rfl rfl (O_ex (v := (aggOf (changeCh x107))) rfl rfl rfl (O_ex (v := (.int .i64 e109)) rfl rfl rfl ?_))
   refine O_v rfl (C_alloc H120 [[(.slice none 0 0)], [(.int .i64 0)], [(.int .i64 0)], [(.slice none 0 0)], (idCells zeroId), [(.string ByteArray.empty)]] Tryz.zeroValue47 ?_)
   intro b121 w122 hb123 hx124 H125
   refine O_u (C_storeW H125 0 rfl (sub := [[(slV x107.ph x107.parents)], [(.int .i64 x107.time)], [(.int .i64 x107.r)], [(slV x107.oh x107.ops)], (idCells x107.tree), [(.string x107.msg)]]) Tryz.sizeOf47 rfl rfl rfl rfl rfl ?_)
   intro w126 hg127 H128
   refine O_as (v := (.int .i64 e109)) rfl rfl ?_
   refine O_nil (Then_n (W_seq ?_))
   refine W_forkd TryzMixed nob (fun i => if i == 6 then 2 else 0) [(0, .q 2), (1, .q 0), (3, .q 2), (4, .q 0)] [(2, .c 0), (5, .c 0), (6, .c 2), (7, .q 2)] [(5, .c 0), (2, .c 0), (6, .c 2), (7, .q 2)] (by kernel_rfl) ?_
   refine Lx_q rfl rfl _ (fun v129 hv130 => R_fieldAddr (off := 0) (oo := 0) Tryz.underlying47 rfl rfl Tryz.sizeOf39 rfl rfl qk) (Lx_q rfl rfl _ (fun v131 hv132 => R_load1 (v := (slV x107.ph x107.parents)) Tryz.isAgg39 rfl ((H128.ext hv132).bx 0 rfl 0 1 0 0 _ rfl rfl rfl) qk) (Lx_q rfl rfl _ (fun v133 hv134 => R_fieldAddr (off := 4) (oo := 4) Tryz.underlying47 rfl rfl Tryz.sizeOf45 rfl rfl qk) (Lx_q rfl rfl _ (fun v135 hv136 => R_loadA (cs := [(idCells x107.tree)]) Tryz.isAgg45 Tryz.sizeOf45 rfl rfl ((H128.ext hv136).bx 0 rfl 4 1 4 4 _ rfl rfl rfl) qk) ?_)))
   refine Lx_nil (fun w137 hw138 => ⟨?_, ?_⟩)
   ·have H139 := H128.ext hw138
    refine Lx_c rfl rfl (fun w140 hw141 => ?_)
    have H142 := H139.ext hw141
    refine (R_callL (vs := [(slV x107.ph x107.parents)]) cF53 rfl rfl ((Clone_ID x107.ph x107.parents w140 (H142.slOld 2 rfl) (by have h5 := change_lens (links_cok hK hr116); omega)).ret ?_))
    rintro _ w144 ⟨h143, rfl, hx145, ho146⟩
    have H147 := H142.addRow hx145 ho146
    refine ⟨GrF.ofExt hx145, ?_⟩
    refine Lx_c rfl rfl (fun w148 hw149 => ?_)
    have H150 := H147.ext hw149
    refine (C_buildSliceL H150 (enc := idCh) (val := idV) ([x107.tree] : List ID) Tryz.underlying39 Tryz.sizeOf45 Tryz.zeroValue45 rfl (by decide) (fun _ => rfl) (fun _ => rfl) rfl rfl (by decide) ?_)
    intro b151 w152 hb153 hx154 H155
    refine ⟨GrF.ofExt hx154, ?_⟩
    refine Lx_c rfl rfl (fun w156 hw157 => ?_)
    have H158 := H155.ext hw157
    refine (C_append H158 1 rfl (bytes := 32) (l := x107.parents) (ys := ([x107.tree] : List ID)) Tryz.underlying39 rfl rfl rfl rfl rfl (by decide) rfl rfl (OwnS.sl (H158.getOwn 0 rfl) (fun _ => rfl)) (fun _ => rfl) (fun _ => rfl) (by have h5 := change_lens (links_cok hK hr116); simp only [List.length_append, List.length_cons, List.length_nil]; omega) (by decide) ?_)
    intro h159 w160 hg161 H162
    refine ⟨Gr.mono (M' := fun _ => True) hg161 (fun _ _ => trivial), ?_⟩
    refine Lx_q rfl rfl _ (fun v163 hv164 => R_assign (v := (slV h159 (x107.parents ++ ([x107.tree] : List ID)))) rfl qk) ?_
    refine Lx_nil (fun w165 hw166 => ?_)
    have H167 := H162.ext hw166
    refine Then_n (W_seq (W_reg ?_))
    refine O_v rfl (R_fieldAddr (off := 3) (oo := 3) Tryz.underlying47 rfl rfl Tryz.sizeOf43 rfl rfl ?_)
    refine O_v rfl (R_load1 (v := (slV x107.oh x107.ops)) Tryz.isAgg43 rfl (H167.bx 2 rfl 3 1 3 3 _ rfl rfl rfl) ?_)
    refine O_v rfl (R_len_slice (a := x107.oh.a) (n := x107.ops.length) (c := x107.oh.c) Tryz.underlying43 rfl ?_)
    refine O_mv (v := (.int .i64 0)) rfl rfl ?_
    refine O_nil (Then_n (W_block ?_))
    refine W_loop (fun m169 e170 w171 => ∃ (j : Nat), ∃ (acc3 : List ID), ∃ (h168 : SlH), m169 = x107.ops.length - j ∧ (j ≤ x107.ops.length) ∧ (acc3 = (x107.parents ++ [x107.tree]) ++ (x107.ops.take j).map (·.data)) ∧ (acc3.length ≤ 3 + j) ∧ ∃ eb172, e170 = envL [(2, (.slice none 0 0)), (3, (slV h168 acc3)), (65, (slV x107.oh x107.ops)), (66, (.int .i64 (x107.ops.length : Int))), (67, (.int .i64 (j : Int)))] eb172 ∧ Ctx w nob w171 [rowR 45 32 idCh ⟨some ⟨b151, 0, none⟩, b151, 0, 1⟩ ([x107.tree] : List ID), rowR 45 32 idCh h168 acc3, boxR b121 47 [[(slV x107.ph x107.parents)], [(.int .i64 x107.time)], [(.int .i64 x107.r)], [(slV x107.oh x107.ops)], (idCells x107.tree), [(.string x107.msg)]]] [deepI S108 stampCh 2 (fun x : OpS => x.oh) (fun x : OpS => x.over) x107.ops, slI S108 opCh 41 x107.oh x107.ops, slI S108 idCh 32 x107.ph x107.parents, slI (Old w) encB 1 hb b]) _ ⟨0, (x107.parents ++ ([x107.tree] : List ID)), h159, rfl, (by omega), (by rw [List.take_zero, List.map_nil, List.append_nil]), (by have h5 := change_lens (links_cok hK hr116); simp only [List.length_append, List.length_cons, List.length_nil]; omega), _, envL_self ⟨rfl, rfl, rfl, rfl, rfl, trivial⟩, H167⟩ ?_
    rintro m169 _ w171 ⟨j, acc3, h168, rfl, hj, ha3, hal3, eb172, rfl, H173⟩
    refine W_seq (W_reg ?_)
    refine O_v rfl (R_cmp (a := (j : Int)) (b := (x107.ops.length : Int)) (r := (decide ((j : Int) < (x107.ops.length : Int)))) rfl rfl rfl ?_)
    refine O_nil (Then_n (W_seq ?_))
    refine W_cond rfl (fun hc174 => ?_) (fun hc174 => ?_)
    ·have hc174 := (of_decide_eq_true hc174)
     refine W_skip (Then_n (W_seq (W_block (W_seq (W_reg ?_)))))
     refine O_v rfl (R_index_pure (H173.sl 1 rfl) (n := x107.ops.length) rfl (j := (j : Int)) (oo := (x107.oh.o + j * 41)) Tryz.underlying43 Tryz.sizeOf72 rfl rfl (by omega) (by omega) rfl ?_)
     refine O_v rfl (R_loadA (cs := [[(.int .i64 ((nth x107.ops j).kind))], [(.int .i64 (((nth x107.ops j).tm).T))], [(.int .i64 (((nth x107.ops j).tm).R))], [(.int .i64 (((nth x107.ops j).node).T))], [(.int .i64 (((nth x107.ops j).node).R))], [(.int .i64 (((nth x107.ops j).par).T))], [(.int .i64 (((nth x107.ops j).par).R))], [(.string ((nth x107.ops j).name))], (idCells ((nth x107.ops j).data)), [(slV ((nth x107.ops j).oh) ((nth x107.ops j).over))]]) Tryz.isAgg72 Tryz.sizeOf72 rfl rfl ((Sl.elem (H173.sl 1 rfl) (i := j) (by omega) rfl).chunks 0 10 0 (x107.oh.o + j * 41) _ rfl rfl rfl) ?_)
     refine O_v rfl (C_alloc H173 [[(.int .i64 0)], [(.int .i64 0)], [(.int .i64 0)], [(.int .i64 0)], [(.int .i64 0)], [(.int .i64 0)], [(.int .i64 0)], [(.string ByteArray.empty)], (idCells zeroId), [(.slice none 0 0)]] Tryz.zeroValue72 ?_)
     intro b175 w176 hb177 hx178 H179
     refine O_u (C_storeW H179 0 rfl (sub := [[(.int .i64 ((nth x107.ops j).kind))], [(.int .i64 (((nth x107.ops j).tm).T))], [(.int .i64 (((nth x107.ops j).tm).R))], [(.int .i64 (((nth x107.ops j).node).T))], [(.int .i64 (((nth x107.ops j).node).R))], [(.int .i64 (((nth x107.ops j).par).T))], [(.int .i64 (((nth x107.ops j).par).R))], [(.string ((nth x107.ops j).name))], (idCells ((nth x107.ops j).data)), [(slV ((nth x107.ops j).oh) ((nth x107.ops j).over))]]) Tryz.sizeOf72 rfl rfl rfl rfl rfl ?_)
     intro w180 hg181 H182
     refine O_nil (Then_n (W_reg ?_))
     refine O_mv (v := (slV h168 acc3)) rfl rfl ?_
     refine O_v rfl (R_fieldAddr (off := 8) (oo := 8) Tryz.underlying72 rfl rfl Tryz.sizeOf45 rfl rfl ?_)
     refine O_v rfl (R_loadA (cs := [(idCells ((nth x107.ops j).data))]) Tryz.isAgg45 Tryz.sizeOf45 rfl rfl (H182.bx 0 rfl 8 1 8 8 _ rfl rfl rfl) ?_)
     refine O_v rfl (C_buildSliceL H182 (enc := idCh) (val := idV) ([(nth x107.ops j).data] : List ID) Tryz.underlying39 Tryz.sizeOf45 Tryz.zeroValue45 rfl (by decide) (fun _ => rfl) (fun _ => rfl) rfl rfl (by decide) ?_)
     intro b183 w184 hb185 hx186 H187
     refine O_v rfl (C_append H187 3 rfl (bytes := 32) (l := acc3) (ys := ([(nth x107.ops j).data] : List ID)) Tryz.underlying39 rfl rfl rfl rfl rfl (by decide) rfl rfl (OwnS.sl (H187.getOwn 0 rfl) (fun _ => rfl)) (fun _ => rfl) (fun _ => rfl) (by have h5 := change_lens (links_cok hK hr116); simp only [List.length_append, List.length_cons, List.length_nil]; omega) (by decide) ?_)
     intro h188 w189 hg190 H191
     refine O_as (v := (slV h188 (acc3 ++ ([(nth x107.ops j).data] : List ID)))) rfl rfl ?_
     refine O_nil (Blk_n (Then_n (W_reg ?_)))
     refine O_v rfl (R_arith (a := (j : Int)) (b := 1) (r0 := (j : Int) + 1) (r := ((j + 1 : Nat) : Int)) rfl rfl rfl (wrapN _ (by have h5 := change_lens (links_cok hK hr116); omega)) ?_)
     refine O_mv (v := (.int .i64 ((j + 1 : Nat) : Int))) rfl rfl ?_
     refine O_nil (Then_n ?_)
     have H192 := H191.sub (List.Sublist.cons _ (List.Sublist.cons _ (List.Sublist.cons_cons _ (List.Sublist.cons_cons _ (List.Sublist.cons_cons _ List.Sublist.slnil))))) (List.forall_mem_cons.2 ⟨List.mem_of_getElem? (i := 0) rfl, List.forall_mem_cons.2 ⟨List.mem_of_getElem? (i := 1) rfl, List.forall_mem_cons.2 ⟨List.mem_of_getElem? (i := 2) rfl, List.forall_mem_cons.2 ⟨List.mem_of_getElem? (i := 3) rfl, memN⟩⟩⟩⟩)
     refine ⟨_, ?_, (j + 1), (acc3 ++ ([(nth x107.ops j).data] : List ID)), h188, rfl, (by omega), (ops_step ha3 (by omega)), (by simp only [List.length_append, List.length_cons, List.length_nil]; omega), _, envL_self ⟨rfl, rfl, rfl, rfl, rfl, trivial⟩, H192⟩
     omega
    ·have hc174 := (of_decide_eq_false hc174)
     refine W_exit (Then_x (Then_x (Blk_x (Blk_n (Then_n (W_seq (W_reg ?_)))))))
     refine O_mv (v := (slV h168 acc3)) rfl rfl ?_
     refine O_v rfl (R_callL (vs := [(slV h168 acc3), (.func (.func 55) #[] #[])]) cF54 rfl rfl ((SortFunc_ID h168 acc3 55 #[] cmpId w171 (H173.getOwn 1 rfl) cF55 (fun w1 _ _ x y => callsCap0 (@sha_Cmp ddT x y w1)) swo_id (Nat.lt_of_le_of_lt (raw_len (links_chgG hK hr116 ha3 (by omega))) (by decide))).ret ?_))
     rintro _ w193 ⟨s197, rfl, hg194, ho195, hr198⟩
     have H196 := H173.updRow 1 rfl hg194 ho195
     have hr198l := (hr198).1.length_eq
     refine O_nil (Then_n (W_seq (W_reg ?_)))
     refine O_mv (v := (slV h168 acc3)) rfl rfl ?_
     refine O_v rfl (R_callL (vs := [(slV h168 s197)]) cF56 rfl (lst1 (slV_len (l := acc3) (l' := s197) (by omega))) ((Compact_ID h168 s197 w193 (H196.getOwn 1 rfl) (Sl.cap (OwnS.sl (H196.getOwn 1 rfl) (fun _ => rfl)))).ret ?_))
     have hn206 := H196.newRow 1 rfl
     rintro _ w199 ⟨h203, s204, rfl, hg200, ho201, hr205⟩
     have H202 := H196.consume 1 rfl hg200 ho201
     refine O_as (v := (slV h203 s204)) rfl rfl ?_
     refine O_nil (Then_n (W_seq (W_seq ?_)))
     refine W_rg [(0, .q 0), (1, .q 0), (2, .q 0), (3, .q 0), (4, .q 0), (5, .q 0), (6, .q 0), (7, .q 0), (8, .q 0), (9, .q 0)] (by kernel_rfl) ?_
     refine Lx_mv (v := (slV h203 s204)) rfl rfl rfl (Lx_q rfl rfl _ (fun v209 hv210 => R_len_slice (a := h203.a) (n := s204.length) (c := h203.c) Tryz.underlying39 rfl qk) (Lx_q rfl rfl _ (fun v211 hv212 => R_cmp (a := (s204.length : Int)) (b := 0) (r := (decide (0 < (s204.length : Int)))) rfl rfl rfl qk) (Lx_mv (v := (.bool (decide (0 < (s204.length : Int))))) rfl rfl rfl ?_)))
     refine Lx_qt rfl rfl rfl rfl rfl _ (fun hA v215 hv216 => R_move (v := (slV h203 s204)) rfl qk) ?_
     refine Lx_qt rfl rfl rfl rfl rfl _ (fun hA v217 hv218 => by
              have hP : (0 < (s204.length : Int)) := (of_decide_eq_true hA)
              exact R_index_pure (H202.sl 0 rfl) (n := s204.length) rfl (j := 0) (oo := (h203.o + 0 * 32)) Tryz.underlying39 Tryz.sizeOf45 (gv_t hA) rfl (by omega) (by omega) rfl qk) ?_
     refine Lx_qt rfl rfl rfl rfl rfl _ (fun hA v219 hv220 => by
              have hP : (0 < (s204.length : Int)) := (of_decide_eq_true hA)
              exact R_loadA (cs := [(idCells (nth s204 0))]) Tryz.isAgg45 Tryz.sizeOf45 rfl (gv_t hA) ((Sl.elem ((H202.ext hv220).sl 0 rfl) (i := 0) (by omega) rfl).chunks 0 1 0 (h203.o + 0 * 32) _ rfl rfl rfl) qk) ?_
     refine Lx_qt rfl rfl rfl rfl rfl _ (fun hA v221 hv222 => R_buildL (vs := []) (v := aggOf [(idCells zeroId)]) rfl (fun _ => by kernel_rfl) qk) (Lx_qt rfl rfl rfl rfl rfl _ (fun hA v223 hv224 => R_eqv (a := (nth s204 0)) (b := zeroId) eqv_ID45 rfl Tryz.eqGuardType45 (gv_t hA) (gv_t hA) qk) (Lx_q rfl rfl _ (fun v225 hv226 => R_pick rfl pk_and qk) ?_))
     refine Lx_nil (fun w227 hw228 => ?_)
     have H229 := H202.ext hw228
     refine Then_n ?_
     refine W_cond rfl (fun hc230 => ?_) (fun hc230 => ?_)
     ·have hc230 : ((0 < (s204.length : Int)) ∧ ((nth s204 0) = zeroId)) := (And.imp (fun h => (of_decide_eq_true h)) (fun h => (of_decide_eq_true h)) (andT hc230))
      refine W_reg ?_
      refine O_mv (v := (slV h203 s204)) rfl rfl ?_
      refine O_v rfl (R_sliceS (h := h203) (l := s204) (a := 1) (b := s204.length) (m := h203.c) (s204.drop 1) Tryz.underlying39 Tryz.sizeOf45 rfl rfl rfl rfl (by decide) (by omega) (by first | omega | exact Nat.le_refl _) (by have := Sl.cap (H229.sl 0 rfl); omega) (by first | omega | exact Nat.le_refl _ | (have := Sl.cap (H229.sl 0 rfl); omega)) (by rw [List.take_length])  ?_)
      refine O_as (v := (slV (hSub h203 32 1 h203.c) (s204.drop 1))) rfl rfl ?_
      refine O_nil (Then_n (W_seq (W_reg ?_)))
      refine O_mv (v := (slV (hSub h203 32 1 h203.c) (s204.drop 1))) rfl rfl (O_as (v := (slV (hSub h203 32 1 h203.c) (s204.drop 1))) rfl rfl ?_)
      refine O_nil (Then_n (W_ret ?_))
      refine ret_1 (v := (slV (hSub h203 32 1 h203.c) (s204.drop 1))) Tryz.results21 rfl ?_
      have hE : s204.drop 1 = linksOf b := (links_y hr205 hr198 (links_chgG hK hr116 ha3 (by omega)) hc230)
      exact hE ▸ ⟨hSub h203 32 1 h203.c, (fun z_ => (slV h168 s197).ownBlock = some z_), rfl, H229.gr, fun b hb => ⟨hn206 b hb, (H229.imm _ (List.mem_of_getElem? (i := 0) rfl)).2 b hb⟩, (Sl.sub (H229.sl 0 rfl) 1 s204.length h203.c (by omega) (by first | omega | exact Nat.le_refl _) (by have := Sl.cap (H229.sl 0 rfl); omega) (by first | omega | exact Nat.le_refl _ | (have := Sl.cap (H229.sl 0 rfl); omega)) (by rw [List.take_length]))⟩
     ·have hc230 : (¬ (0 < (s204.length : Int)) ∨ ¬ ((nth s204 0) = zeroId)) := (Or.imp (fun h => (of_decide_eq_false h)) (fun h => (of_decide_eq_false h)) (andF hc230))
      refine W_skip (Then_n (W_seq (W_reg ?_)))
      refine O_mv (v := (slV h203 s204)) rfl rfl (O_as (v := (slV h203 s204)) rfl rfl ?_)
      refine O_nil (Then_n (W_ret ?_))
      refine ret_1 (v := (slV h203 s204)) Tryz.results21 rfl ?_
      have hE : s204 = linksOf b := (links_n2 hr205 hr198 (links_chgG hK hr116 ha3 (by omega)) hc230)
      exact hE ▸ ⟨h203, (fun z_ => (slV h168 s197).ownBlock = some z_), rfl, H229.gr, fun b hb => ⟨hn206 b hb, (H229.imm _ (List.mem_of_getElem? (i := 0) rfl)).2 b hb⟩, (H229.sl 0 rfl)⟩
   ·have H139 := H128.ext hw138
    refine Lx_c rfl rfl (fun w231 hw232 => ?_)
    have H233 := H139.ext hw232
    refine (C_buildSliceL H233 (enc := idCh) (val := idV) ([x107.tree] : List ID) Tryz.underlying39 Tryz.sizeOf45 Tryz.zeroValue45 rfl (by decide) (fun _ => rfl) (fun _ => rfl) rfl rfl (by decide) ?_)
    intro b234 w235 hb236 hx237 H238
    refine ⟨GrF.ofExt hx237, ?_⟩
    refine Lx_c rfl rfl (fun w239 hw240 => ?_)
    have H241 := H238.ext hw240
    refine (R_callL (vs := [(slV x107.ph x107.parents)]) cF53 rfl rfl ((Clone_ID x107.ph x107.parents w239 (H241.slOld 2 rfl) (by have h5 := change_lens (links_cok hK hr116); omega)).ret ?_))
    rintro _ w243 ⟨h242, rfl, hx244, ho245⟩
    have H246 := H241.addRow hx244 ho245
    refine ⟨GrF.ofExt hx244, ?_⟩
    refine Lx_c rfl rfl (fun w247 hw248 => ?_)
    have H249 := H246.ext hw248
    refine (C_append H249 0 rfl (bytes := 32) (l := x107.parents) (ys := ([x107.tree] : List ID)) Tryz.underlying39 rfl rfl rfl rfl rfl (by decide) rfl rfl (OwnS.sl (H249.getOwn 1 rfl) (fun _ => rfl)) (fun _ => rfl) (fun _ => rfl) (by have h5 := change_lens (links_cok hK hr116); simp only [List.length_append, List.length_cons, List.length_nil]; omega) (by decide) ?_)
    intro h250 w251 hg252 H253
    refine ⟨Gr.mono (M' := fun _ => True) hg252 (fun _ _ => trivial), ?_⟩
    refine Lx_q rfl rfl _ (fun v254 hv255 => R_assign (v := (slV h250 (x107.parents ++ ([x107.tree] : List ID)))) rfl qk) ?_
    refine Lx_nil (fun w256 hw257 => ?_)
    have H258 := H253.ext hw257
    refine Then_n (W_seq (W_reg ?_))
    refine O_v rfl (R_fieldAddr (off := 3) (oo := 3) Tryz.underlying47 rfl rfl Tryz.sizeOf43 rfl rfl ?_)
    refine O_v rfl (R_load1 (v := (slV x107.oh x107.ops)) Tryz.isAgg43 rfl (H258.bx 2 rfl 3 1 3 3 _ rfl rfl rfl) ?_)
    refine O_v rfl (R_len_slice (a := x107.oh.a) (n := x107.ops.length) (c := x107.oh.c) Tryz.underlying43 rfl ?_)
    refine O_mv (v := (.int .i64 0)) rfl rfl ?_
    refine O_nil (Then_n (W_block ?_))
    refine W_loop (fun m260 e261 w262 => ∃ (j : Nat), ∃ (acc3 : List ID), ∃ (h259 : SlH), m260 = x107.ops.length - j ∧ (j ≤ x107.ops.length) ∧ (acc3 = (x107.parents ++ [x107.tree]) ++ (x107.ops.take j).map (·.data)) ∧ (acc3.length ≤ 3 + j) ∧ ∃ eb263, e261 = envL [(2, (.slice none 0 0)), (3, (slV h259 acc3)), (65, (slV x107.oh x107.ops)), (66, (.int .i64 (x107.ops.length : Int))), (67, (.int .i64 (j : Int)))] eb263 ∧ Ctx w nob w262 [rowR 45 32 idCh h259 acc3, rowR 45 32 idCh ⟨some ⟨b234, 0, none⟩, b234, 0, 1⟩ ([x107.tree] : List ID), boxR b121 47 [[(slV x107.ph x107.parents)], [(.int .i64 x107.time)], [(.int .i64 x107.r)], [(slV x107.oh x107.ops)], (idCells x107.tree), [(.string x107.msg)]]] [deepI S108 stampCh 2 (fun x : OpS => x.oh) (fun x : OpS => x.over) x107.ops, slI S108 opCh 41 x107.oh x107.ops, slI S108 idCh 32 x107.ph x107.parents, slI (Old w) encB 1 hb b]) _ ⟨0, (x107.parents ++ ([x107.tree] : List ID)), h250, rfl, (by omega), (by rw [List.take_zero, List.map_nil, List.append_nil]), (by have h5 := change_lens (links_cok hK hr116); simp only [List.length_append, List.length_cons, List.length_nil]; omega), _, envL_self ⟨rfl, rfl, rfl, rfl, rfl, trivial⟩, H258⟩ ?_
    rintro m260 _ w262 ⟨j, acc3, h259, rfl, hj, ha3, hal3, eb263, rfl, H264⟩
    refine W_seq (W_reg ?_)
    refine O_v rfl (R_cmp (a := (j : Int)) (b := (x107.ops.length : Int)) (r := (decide ((j : Int) < (x107.ops.length : Int)))) rfl rfl rfl ?_)
    refine O_nil (Then_n (W_seq ?_))
    refine W_cond rfl (fun hc265 => ?_) (fun hc265 => ?_)
    ·have hc265 := (of_decide_eq_true hc265)
     refine W_skip (Then_n (W_seq (W_block (W_seq (W_reg ?_)))))
     refine O_v rfl (R_index_pure (H264.sl 1 rfl) (n := x107.ops.length) rfl (j := (j : Int)) (oo := (x107.oh.o + j * 41)) Tryz.underlying43 Tryz.sizeOf72 rfl rfl (by omega) (by omega) rfl ?_)
     refine O_v rfl (R_loadA (cs := [[(.int .i64 ((nth x107.ops j).kind))], [(.int .i64 (((nth x107.ops j).tm).T))], [(.int .i64 (((nth x107.ops j).tm).R))], [(.int .i64 (((nth x107.ops j).node).T))], [(.int .i64 (((nth x107.ops j).node).R))], [(.int .i64 (((nth x107.ops j).par).T))], [(.int .i64 (((nth x107.ops j).par).R))], [(.string ((nth x107.ops j).name))], (idCells ((nth x107.ops j).data)), [(slV ((nth x107.ops j).oh) ((nth x107.ops j).over))]]) Tryz.isAgg72 Tryz.sizeOf72 rfl rfl ((Sl.elem (H264.sl 1 rfl) (i := j) (by omega) rfl).chunks 0 10 0 (x107.oh.o + j * 41) _ rfl rfl rfl) ?_)
     refine O_v rfl (C_alloc H264 [[(.int .i64 0)], [(.int .i64 0)], [(.int .i64 0)], [(.int .i64 0)], [(.int .i64 0)], [(.int .i64 0)], [(.int .i64 0)], [(.string ByteArray.empty)], (idCells zeroId), [(.slice none 0 0)]] Tryz.zeroValue72 ?_)
     intro b266 w267 hb268 hx269 H270
     refine O_u (C_storeW H270 0 rfl (sub := [[(.int .i64 ((nth x107.ops j).kind))], [(.int .i64 (((nth x107.ops j).tm).T))], [(.int .i64 (((nth x107.ops j).tm).R))], [(.int .i64 (((nth x107.ops j).node).T))], [(.int .i64 (((nth x107.ops j).node).R))], [(.int .i64 (((nth x107.ops j).par).T))], [(.int .i64 (((nth x107.ops j).par).R))], [(.string ((nth x107.ops j).name))], (idCells ((nth x107.ops j).data)), [(slV ((nth x107.ops j).oh) ((nth x107.ops j).over))]]) Tryz.sizeOf72 rfl rfl rfl rfl rfl ?_)
     intro w271 hg272 H273
     refine O_nil (Then_n (W_reg ?_))
     refine O_mv (v := (slV h259 acc3)) rfl rfl ?_
     refine O_v rfl (R_fieldAddr (off := 8) (oo := 8) Tryz.underlying72 rfl rfl Tryz.sizeOf45 rfl rfl ?_)
     refine O_v rfl (R_loadA (cs := [(idCells ((nth x107.ops j).data))]) Tryz.isAgg45 Tryz.sizeOf45 rfl rfl (H273.bx 0 rfl 8 1 8 8 _ rfl rfl rfl) ?_)
     refine O_v rfl (C_buildSliceL H273 (enc := idCh) (val := idV) ([(nth x107.ops j).data] : List ID) Tryz.underlying39 Tryz.sizeOf45 Tryz.zeroValue45 rfl (by decide) (fun _ => rfl) (fun _ => rfl) rfl rfl (by decide) ?_)
     intro b274 w275 hb276 hx277 H278
     refine O_v rfl (C_append H278 2 rfl (bytes := 32) (l := acc3) (ys := ([(nth x107.ops j).data] : List ID)) Tryz.underlying39 rfl rfl rfl rfl rfl (by decide) rfl rfl (OwnS.sl (H278.getOwn 0 rfl) (fun _ => rfl)) (fun _ => rfl) (fun _ => rfl) (by have h5 := change_lens (links_cok hK hr116); simp only [List.length_append, List.length_cons, List.length_nil]; omega) (by decide) ?_)
     intro h279 w280 hg281 H282
     refine O_as (v := (slV h279 (acc3 ++ ([(nth x107.ops j).data] : List ID)))) rfl rfl ?_
     refine O_nil (Blk_n (Then_n (W_reg ?_)))
     refine O_v rfl (R_arith (a := (j : Int)) (b := 1) (r0 := (j : Int) + 1) (r := ((j + 1 : Nat) : Int)) rfl rfl rfl (wrapN _ (by have h5 := change_lens (links_cok hK hr116); omega)) ?_)
     refine O_mv (v := (.int .i64 ((j + 1 : Nat) : Int))) rfl rfl ?_
     refine O_nil (Then_n ?_)
     have H283 := H282.sub (List.Sublist.cons _ (List.Sublist.cons _ (List.Sublist.cons_cons _ (List.Sublist.cons_cons _ (List.Sublist.cons_cons _ List.Sublist.slnil))))) (List.forall_mem_cons.2 ⟨List.mem_of_getElem? (i := 0) rfl, List.forall_mem_cons.2 ⟨List.mem_of_getElem? (i := 1) rfl, List.forall_mem_cons.2 ⟨List.mem_of_getElem? (i := 2) rfl, List.forall_mem_cons.2 ⟨List.mem_of_getElem? (i := 3) rfl, memN⟩⟩⟩⟩)
     refine ⟨_, ?_, (j + 1), (acc3 ++ ([(nth x107.ops j).data] : List ID)), h279, rfl, (by omega), (ops_step ha3 (by omega)), (by simp only [List.length_append, List.length_cons, List.length_nil]; omega), _, envL_self ⟨rfl, rfl, rfl, rfl, rfl, trivial⟩, H283⟩
     omega
    ·have hc265 := (of_decide_eq_false hc265)
     refine W_exit (Then_x (Then_x (Blk_x (Blk_n (Then_n (W_seq (W_reg ?_)))))))
     refine O_mv (v := (slV h259 acc3)) rfl rfl ?_
     refine O_v rfl (R_callL (vs := [(slV h259 acc3), (.func (.func 55) #[] #[])]) cF54 rfl rfl ((SortFunc_ID h259 acc3 55 #[] cmpId w262 (H264.getOwn 0 rfl) cF55 (fun w1 _ _ x y => callsCap0 (@sha_Cmp ddT x y w1)) swo_id (Nat.lt_of_le_of_lt (raw_len (links_chgG hK hr116 ha3 (by omega))) (by decide))).ret ?_))
     rintro _ w284 ⟨s288, rfl, hg285, ho286, hr289⟩
     have H287 := H264.updRow 0 rfl hg285 ho286
     have hr289l := (hr289).1.length_eq
     refine O_nil (Then_n (W_seq (W_reg ?_)))
     refine O_mv (v := (slV h259 acc3)) rfl rfl ?_
     refine O_v rfl (R_callL (vs := [(slV h259 s288)]) cF56 rfl (lst1 (slV_len (l := acc3) (l' := s288) (by omega))) ((Compact_ID h259 s288 w284 (H287.getOwn 0 rfl) (Sl.cap (OwnS.sl (H287.getOwn 0 rfl) (fun _ => rfl)))).ret ?_))
     have hn297 := H287.newRow 0 rfl
     rintro _ w290 ⟨h294, s295, rfl, hg291, ho292, hr296⟩
     have H293 := H287.consume 0 rfl hg291 ho292
     refine O_as (v := (slV h294 s295)) rfl rfl ?_
     refine O_nil (Then_n (W_seq (W_seq ?_)))
     refine W_rg [(0, .q 0), (1, .q 0), (2, .q 0), (3, .q 0), (4, .q 0), (5, .q 0), (6, .q 0), (7, .q 0), (8, .q 0), (9, .q 0)] (by kernel_rfl) ?_
     refine Lx_mv (v := (slV h294 s295)) rfl rfl rfl (Lx_q rfl rfl _ (fun v300 hv301 => R_len_slice (a := h294.a) (n := s295.length) (c := h294.c) Tryz.underlying39 rfl qk) (Lx_q rfl rfl _ (fun v302 hv303 => R_cmp (a := (s295.length : Int)) (b := 0) (r := (decide (0 < (s295.length : Int)))) rfl rfl rfl qk) (Lx_mv (v := (.bool (decide (0 < (s295.length : Int))))) rfl rfl rfl ?_)))
     refine Lx_qt rfl rfl rfl rfl rfl _ (fun hA v306 hv307 => R_move (v := (slV h294 s295)) rfl qk) ?_
     refine Lx_qt rfl rfl rfl rfl rfl _ (fun hA v308 hv309 => by
              have hP : (0 < (s295.length : Int)) := (of_decide_eq_true hA)
              exact R_index_pure (H293.sl 0 rfl) (n := s295.length) rfl (j := 0) (oo := (h294.o + 0 * 32)) Tryz.underlying39 Tryz.sizeOf45 (gv_t hA) rfl (by omega) (by omega) rfl qk) ?_
     refine Lx_qt rfl rfl rfl rfl rfl _ (fun hA v310 hv311 => by
              have hP : (0 < (s295.length : Int)) := (of_decide_eq_true hA)
              exact R_loadA (cs := [(idCells (nth s295 0))]) Tryz.isAgg45 Tryz.sizeOf45 rfl (gv_t hA) ((Sl.elem ((H293.ext hv311).sl 0 rfl) (i := 0) (by omega) rfl).chunks 0 1 0 (h294.o + 0 * 32) _ rfl rfl rfl) qk) ?_
     refine Lx_qt rfl rfl rfl rfl rfl _ (fun hA v312 hv313 => R_buildL (vs := []) (v := aggOf [(idCells zeroId)]) rfl (fun _ => by kernel_rfl) qk) (Lx_qt rfl rfl rfl rfl rfl _ (fun hA v314 hv315 => R_eqv (a := (nth s295 0)) (b := zeroId) eqv_ID45 rfl Tryz.eqGuardType45 (gv_t hA) (gv_t hA) qk) (Lx_q rfl rfl _ (fun v316 hv317 => R_pick rfl pk_and qk) ?_))
     refine Lx_nil (fun w318 hw319 => ?_)
     have H320 := H293.ext hw319
     refine Then_n ?_
     refine W_cond rfl (fun hc321 => ?_) (fun hc321 => ?_)
     ·have hc321 : ((0 < (s295.length : Int)) ∧ ((nth s295 0) = zeroId)) := (And.imp (fun h => (of_decide_eq_true h)) (fun h => (of_decide_eq_true h)) (andT hc321))
      refine W_reg ?_
      refine O_mv (v := (slV h294 s295)) rfl rfl ?_
      refine O_v rfl (R_sliceS (h := h294) (l := s295) (a := 1) (b := s295.length) (m := h294.c) (s295.drop 1) Tryz.underlying39 Tryz.sizeOf45 rfl rfl rfl rfl (by decide) (by omega) (by first | omega | exact Nat.le_refl _) (by have := Sl.cap (H320.sl 0 rfl); omega) (by first | omega | exact Nat.le_refl _ | (have := Sl.cap (H320.sl 0 rfl); omega)) (by rw [List.take_length])  ?_)
      refine O_as (v := (slV (hSub h294 32 1 h294.c) (s295.drop 1))) rfl rfl ?_
      refine O_nil (Then_n (W_seq (W_reg ?_)))
      refine O_mv (v := (slV (hSub h294 32 1 h294.c) (s295.drop 1))) rfl rfl (O_as (v := (slV (hSub h294 32 1 h294.c) (s295.drop 1))) rfl rfl ?_)
      refine O_nil (Then_n (W_ret ?_))
      refine ret_1 (v := (slV (hSub h294 32 1 h294.c) (s295.drop 1))) Tryz.results21 rfl ?_
      have hE : s295.drop 1 = linksOf b := (links_y hr296 hr289 (links_chgG hK hr116 ha3 (by omega)) hc321)
      exact hE ▸ ⟨hSub h294 32 1 h294.c, (fun z_ => (slV h259 s288).ownBlock = some z_), rfl, H320.gr, fun b hb => ⟨hn297 b hb, (H320.imm _ (List.mem_of_getElem? (i := 0) rfl)).2 b hb⟩, (Sl.sub (H320.sl 0 rfl) 1 s295.length h294.c (by omega) (by first | omega | exact Nat.le_refl _) (by have := Sl.cap (H320.sl 0 rfl); omega) (by first | omega | exact Nat.le_refl _ | (have := Sl.cap (H320.sl 0 rfl); omega)) (by rw [List.take_length]))⟩
     ·have hc321 : (¬ (0 < (s295.length : Int)) ∨ ¬ ((nth s295 0) = zeroId)) := (Or.imp (fun h => (of_decide_eq_false h)) (fun h => (of_decide_eq_false h)) (andF hc321))
      refine W_skip (Then_n (W_seq (W_reg ?_)))
      refine O_mv (v := (slV h294 s295)) rfl rfl (O_as (v := (slV h294 s295)) rfl rfl ?_)
      refine O_nil (Then_n (W_ret ?_))
      refine ret_1 (v := (slV h294 s295)) Tryz.results21 rfl ?_
      have hE : s295 = linksOf b := (links_n2 hr296 hr289 (links_chgG hK hr116 ha3 (by omega)) hc321)
      exact hE ▸ ⟨h294, (fun z_ => (slV h259 s288).ownBlock = some z_), rfl, H320.gr, fun b hb => ⟨hn297 b hb, (H320.imm _ (List.mem_of_getElem? (i := 0) rfl)).2 b hb⟩, (H320.sl 0 rfl)⟩
  ·have hc106 := (of_decide_eq_false hc106)
   have h3 := hc106
   refine W_seq (W_reg ?_)
   refine O_v rfl (R_cmp (a := kindOf b) (b := 4) (r := (decide (kindOf b = 4))) rfl rfl rfl ?_)
   refine O_as (v := (.bool (decide (kindOf b = 4)))) rfl rfl ?_
   refine O_nil (Then_n ?_)
   refine W_cond rfl (fun hc322 => ?_) (fun hc322 => ?_)
   ·have hc322 := (of_decide_eq_true hc322)
    have hK := hc322
    refine W_seq (W_reg ?_)
    refine O_mv (v := (slV hb b)) rfl rfl ?_
    refine O_v rfl (R_callL (vs := [(slV hb b)]) cF30 rfl rfl ((obj_Label hb b w2 (H4.slOld 0 rfl) (by omega)).ret ?_))
    rintro _ w323 ⟨rfl, hx324⟩
    have H325 := H4.ext hx324
    refine O_mv (v := (.tuple #[(aggOf (labelCh ((labelOf b).1))), (.int .i64 ((labelOf b).2))])) rfl rfl (O_ex (v := (aggOf (labelCh ((labelOf b).1)))) rfl rfl rfl (O_ex (v := (.int .i64 ((labelOf b).2))) rfl rfl rfl ?_))
    refine O_v rfl (C_alloc H325 [(idCells zeroId), [(.string ByteArray.empty)], [(.string ByteArray.empty)]] Tryz.zeroValue55 ?_)
    intro b326 w327 hb328 hx329 H330
    refine O_u (C_storeW H330 0 rfl (sub := [(idCells (((labelOf b).1).target)), [(.string (((labelOf b).1).name))], [(.string (((labelOf b).1).msg))]]) Tryz.sizeOf55 rfl rfl rfl rfl rfl ?_)
    intro w331 hg332 H333
    refine O_as (v := (.int .i64 ((labelOf b).2))) rfl rfl ?_
    refine O_nil (Then_n (W_reg ?_))
    refine O_mv (v := (.slice none 0 0)) rfl rfl ?_
    refine O_v rfl (R_fieldAddr (off := 0) (oo := 0) Tryz.underlying55 rfl rfl Tryz.sizeOf45 rfl rfl ?_)
    refine O_v rfl (R_loadA (cs := [(idCells (((labelOf b).1).target))]) Tryz.isAgg45 Tryz.sizeOf45 rfl rfl (H333.bx 0 rfl 0 1 0 0 _ rfl rfl rfl) ?_)
    refine O_v rfl (C_buildSliceL H333 (enc := idCh) (val := idV) ([((labelOf b).1).target] : List ID) Tryz.underlying39 Tryz.sizeOf45 Tryz.zeroValue45 rfl (by decide) (fun _ => rfl) (fun _ => rfl) rfl rfl (by decide) ?_)
    intro b334 w335 hb336 hx337 H338
    have H339 := H338.addNil 45 32 idCh
    refine O_v rfl (C_append H339 0 rfl (bytes := 32) (l := ([] : List ID)) (ys := ([((labelOf b).1).target] : List ID)) Tryz.underlying39 rfl rfl rfl rfl rfl (by decide) rfl rfl (OwnS.sl (H339.getOwn 1 rfl) (fun _ => rfl)) (fun _ => rfl) (fun _ => rfl) (by simp only [List.length_append, List.length_cons, List.length_nil]; omega) (by decide) ?_)
    intro h340 w341 hg342 H343
    refine O_as (v := (slV h340 (([] : List ID) ++ ([((labelOf b).1).target] : List ID)))) rfl rfl ?_
    refine O_nil (Blk_n (Then_n (W_seq (W_reg ?_))))
    refine O_mv (v := (slV h340 (([] : List ID) ++ ([((labelOf b).1).target] : List ID)))) rfl rfl ?_
    refine O_v rfl (R_callL (vs := [(slV h340 (([] : List ID) ++ ([((labelOf b).1).target] : List ID))), (.func (.func 55) #[] #[])]) cF54 rfl rfl ((SortFunc_ID h340 (([] : List ID) ++ ([((labelOf b).1).target] : List ID)) 55 #[] cmpId w341 (H343.getOwn 0 rfl) cF55 (fun w1 _ _ x y => callsCap0 (@sha_Cmp ddT x y w1)) swo_id (Nat.lt_of_le_of_lt (raw_len (links_lab hK).symm) (by decide))).ret ?_))
    rintro _ w344 ⟨s348, rfl, hg345, ho346, hr349⟩
    have H347 := H343.updRow 0 rfl hg345 ho346
    have hr349l := (hr349).1.length_eq
    refine O_nil (Then_n (W_seq (W_reg ?_)))
    refine O_mv (v := (slV h340 (([] : List ID) ++ ([((labelOf b).1).target] : List ID)))) rfl rfl ?_
    refine O_v rfl (R_callL (vs := [(slV h340 s348)]) cF56 rfl (lst1 (slV_len (l := (([] : List ID) ++ ([((labelOf b).1).target] : List ID))) (l' := s348) (by omega))) ((Compact_ID h340 s348 w344 (H347.getOwn 0 rfl) (Sl.cap (OwnS.sl (H347.getOwn 0 rfl) (fun _ => rfl)))).ret ?_))
    have hn357 := H347.newRow 0 rfl
    rintro _ w350 ⟨h354, s355, rfl, hg351, ho352, hr356⟩
    have H353 := H347.consume 0 rfl hg351 ho352
    refine O_as (v := (slV h354 s355)) rfl rfl ?_
    refine O_nil (Then_n (W_seq (W_seq ?_)))
    refine W_rg [(0, .q 0), (1, .q 0), (2, .q 0), (3, .q 0), (4, .q 0), (5, .q 0), (6, .q 0), (7, .q 0), (8, .q 0), (9, .q 0)] (by kernel_rfl) ?_
    refine Lx_mv (v := (slV h354 s355)) rfl rfl rfl (Lx_q rfl rfl _ (fun v360 hv361 => R_len_slice (a := h354.a) (n := s355.length) (c := h354.c) Tryz.underlying39 rfl qk) (Lx_q rfl rfl _ (fun v362 hv363 => R_cmp (a := (s355.length : Int)) (b := 0) (r := (decide (0 < (s355.length : Int)))) rfl rfl rfl qk) (Lx_mv (v := (.bool (decide (0 < (s355.length : Int))))) rfl rfl rfl ?_)))
    refine Lx_qt rfl rfl rfl rfl rfl _ (fun hA v366 hv367 => R_move (v := (slV h354 s355)) rfl qk) ?_
    refine Lx_qt rfl rfl rfl rfl rfl _ (fun hA v368 hv369 => by
            have hP : (0 < (s355.length : Int)) := (of_decide_eq_true hA)
            exact R_index_pure (H353.sl 0 rfl) (n := s355.length) rfl (j := 0) (oo := (h354.o + 0 * 32)) Tryz.underlying39 Tryz.sizeOf45 (gv_t hA) rfl (by omega) (by omega) rfl qk) ?_
    refine Lx_qt rfl rfl rfl rfl rfl _ (fun hA v370 hv371 => by
            have hP : (0 < (s355.length : Int)) := (of_decide_eq_true hA)
            exact R_loadA (cs := [(idCells (nth s355 0))]) Tryz.isAgg45 Tryz.sizeOf45 rfl (gv_t hA) ((Sl.elem ((H353.ext hv371).sl 0 rfl) (i := 0) (by omega) rfl).chunks 0 1 0 (h354.o + 0 * 32) _ rfl rfl rfl) qk) ?_
    refine Lx_qt rfl rfl rfl rfl rfl _ (fun hA v372 hv373 => R_buildL (vs := []) (v := aggOf [(idCells zeroId)]) rfl (fun _ => by kernel_rfl) qk) (Lx_qt rfl rfl rfl rfl rfl _ (fun hA v374 hv375 => R_eqv (a := (nth s355 0)) (b := zeroId) eqv_ID45 rfl Tryz.eqGuardType45 (gv_t hA) (gv_t hA) qk) (Lx_q rfl rfl _ (fun v376 hv377 => R_pick rfl pk_and qk) ?_))
    refine Lx_nil (fun w378 hw379 => ?_)
    have H380 := H353.ext hw379
    refine Then_n ?_
    refine W_cond rfl (fun hc381 => ?_) (fun hc381 => ?_)
    ·have hc381 : ((0 < (s355.length : Int)) ∧ ((nth s355 0) = zeroId)) := (And.imp (fun h => (of_decide_eq_true h)) (fun h => (of_decide_eq_true h)) (andT hc381))
     refine W_reg ?_
     refine O_mv (v := (slV h354 s355)) rfl rfl ?_
     refine O_v rfl (R_sliceS (h := h354) (l := s355) (a := 1) (b := s355.length) (m := h354.c) (s355.drop 1) Tryz.underlying39 Tryz.sizeOf45 rfl rfl rfl rfl (by decide) (by omega) (by first | omega | exact Nat.le_refl _) (by have := Sl.cap (H380.sl 0 rfl); omega) (by first | omega | exact Nat.le_refl _ | (have := Sl.cap (H380.sl 0 rfl); omega)) (by rw [List.take_length])  ?_)
     refine O_as (v := (slV (hSub h354 32 1 h354.c) (s355.drop 1))) rfl rfl ?_
     refine O_nil (Then_n (W_seq (W_reg ?_)))
     refine O_mv (v := (slV (hSub h354 32 1 h354.c) (s355.drop 1))) rfl rfl (O_as (v := (slV (hSub h354 32 1 h354.c) (s355.drop 1))) rfl rfl ?_)
     refine O_nil (Then_n (W_ret ?_))
     refine ret_1 (v := (slV (hSub h354 32 1 h354.c) (s355.drop 1))) Tryz.results21 rfl ?_
     have hE : s355.drop 1 = linksOf b := (links_y hr356 hr349 (links_lab hK).symm hc381)
     exact hE ▸ ⟨hSub h354 32 1 h354.c, (fun z_ => (slV h340 s348).ownBlock = some z_), rfl, H380.gr, fun b hb => ⟨hn357 b hb, (H380.imm _ (List.mem_of_getElem? (i := 0) rfl)).2 b hb⟩, (Sl.sub (H380.sl 0 rfl) 1 s355.length h354.c (by omega) (by first | omega | exact Nat.le_refl _) (by have := Sl.cap (H380.sl 0 rfl); omega) (by first | omega | exact Nat.le_refl _ | (have := Sl.cap (H380.sl 0 rfl); omega)) (by rw [List.take_length]))⟩
    ·have hc381 : (¬ (0 < (s355.length : Int)) ∨ ¬ ((nth s355 0) = zeroId)) := (Or.imp (fun h => (of_decide_eq_false h)) (fun h => (of_decide_eq_false h)) (andF hc381))
     refine W_skip (Then_n (W_seq (W_reg ?_)))
     refine O_mv (v := (slV h354 s355)) rfl rfl (O_as (v := (slV h354 s355)) rfl rfl ?_)
     refine O_nil (Then_n (W_ret ?_))
     refine ret_1 (v := (slV h354 s355)) Tryz.results21 rfl ?_
     have hE : s355 = linksOf b := (links_n2 hr356 hr349 (links_lab hK).symm hc381)
     exact hE ▸ ⟨h354, (fun z_ => (slV h340 s348).ownBlock = some z_), rfl, H380.gr, fun b hb => ⟨hn357 b hb, (H380.imm _ (List.mem_of_getElem? (i := 0) rfl)).2 b hb⟩, (H380.sl 0 rfl)⟩
   ·have hc322 := (of_decide_eq_false hc322)
    have h4 := hc322
    refine W_skip (Blk_n (Then_n (W_seq (W_reg ?_))))
    refine O_mv (v := (.slice none 0 0)) rfl rfl ?_
    have H382 := H4.addNil 45 32 idCh
    refine O_v rfl (R_callL (vs := [(slV nilH ([] : List ID)), (.func (.func 55) #[] #[])]) cF54 rfl rfl ((SortFunc_ID nilH ([] : List ID) 55 #[] cmpId w2 (H382.getOwn 0 rfl) cF55 (fun w1 _ _ x y => callsCap0 (@sha_Cmp ddT x y w1)) swo_id (by decide)).ret ?_))
    rintro _ w383 ⟨s387, rfl, hg384, ho385, hr388⟩
    have H386 := H382.updRow 0 rfl hg384 ho385
    have hr388l := (hr388).1.length_eq
    refine O_nil (Then_n (W_seq (W_reg ?_)))
    refine O_mv (v := (.slice none 0 0)) rfl rfl ?_
    have H389 := H386.addNil 45 32 idCh
    refine O_v rfl (R_callL (vs := [(slV nilH ([] : List ID))]) cF56 rfl rfl ((Compact_ID nilH ([] : List ID) w383 (H389.getOwn 0 rfl) (Nat.zero_le _)).ret ?_))
    have hn397 := H389.newRow 0 rfl
    rintro _ w390 ⟨h394, s395, rfl, hg391, ho392, hr396⟩
    have H393 := H389.consume 0 rfl hg391 ho392
    refine O_as (v := (slV h394 s395)) rfl rfl ?_
    refine O_nil (Then_n (W_seq (W_seq ?_)))
    refine W_rg [(0, .q 0), (1, .q 0), (2, .q 0), (3, .q 0), (4, .q 0), (5, .q 0), (6, .q 0), (7, .q 0), (8, .q 0), (9, .q 0)] (by kernel_rfl) ?_
    refine Lx_mv (v := (slV h394 s395)) rfl rfl rfl (Lx_q rfl rfl _ (fun v400 hv401 => R_len_slice (a := h394.a) (n := s395.length) (c := h394.c) Tryz.underlying39 rfl qk) (Lx_q rfl rfl _ (fun v402 hv403 => R_cmp (a := (s395.length : Int)) (b := 0) (r := (decide (0 < (s395.length : Int)))) rfl rfl rfl qk) (Lx_mv (v := (.bool (decide (0 < (s395.length : Int))))) rfl rfl rfl ?_)))
    refine Lx_qt rfl rfl rfl rfl rfl _ (fun hA v406 hv407 => R_move (v := (slV h394 s395)) rfl qk) ?_
    refine Lx_qt rfl rfl rfl rfl rfl _ (fun hA v408 hv409 => by
            have hP : (0 < (s395.length : Int)) := (of_decide_eq_true hA)
            exact R_index_pure (H393.sl 0 rfl) (n := s395.length) rfl (j := 0) (oo := (h394.o + 0 * 32)) Tryz.underlying39 Tryz.sizeOf45 (gv_t hA) rfl (by omega) (by omega) rfl qk) ?_
    refine Lx_qt rfl rfl rfl rfl rfl _ (fun hA v410 hv411 => by
            have hP : (0 < (s395.length : Int)) := (of_decide_eq_true hA)
            exact R_loadA (cs := [(idCells (nth s395 0))]) Tryz.isAgg45 Tryz.sizeOf45 rfl (gv_t hA) ((Sl.elem ((H393.ext hv411).sl 0 rfl) (i := 0) (by omega) rfl).chunks 0 1 0 (h394.o + 0 * 32) _ rfl rfl rfl) qk) ?_
    refine Lx_qt rfl rfl rfl rfl rfl _ (fun hA v412 hv413 => R_buildL (vs := []) (v := aggOf [(idCells zeroId)]) rfl (fun _ => by kernel_rfl) qk) (Lx_qt rfl rfl rfl rfl rfl _ (fun hA v414 hv415 => R_eqv (a := (nth s395 0)) (b := zeroId) eqv_ID45 rfl Tryz.eqGuardType45 (gv_t hA) (gv_t hA) qk) (Lx_q rfl rfl _ (fun v416 hv417 => R_pick rfl pk_and qk) ?_))
    refine Lx_nil (fun w418 hw419 => ?_)
    have H420 := H393.ext hw419
    refine Then_n ?_
    refine W_cond rfl (fun hc421 => ?_) (fun hc421 => ?_)
    ·have hc421 : ((0 < (s395.length : Int)) ∧ ((nth s395 0) = zeroId)) := (And.imp (fun h => (of_decide_eq_true h)) (fun h => (of_decide_eq_true h)) (andT hc421))
     refine W_reg ?_
     refine O_mv (v := (slV h394 s395)) rfl rfl ?_
     refine O_v rfl (R_sliceS (h := h394) (l := s395) (a := 1) (b := s395.length) (m := h394.c) (s395.drop 1) Tryz.underlying39 Tryz.sizeOf45 rfl rfl rfl rfl (by decide) (by omega) (by first | omega | exact Nat.le_refl _) (by have := Sl.cap (H420.sl 0 rfl); omega) (by first | omega | exact Nat.le_refl _ | (have := Sl.cap (H420.sl 0 rfl); omega)) (by rw [List.take_length])  ?_)
     refine O_as (v := (slV (hSub h394 32 1 h394.c) (s395.drop 1))) rfl rfl ?_
     refine O_nil (Then_n (W_seq (W_reg ?_)))
     refine O_mv (v := (slV (hSub h394 32 1 h394.c) (s395.drop 1))) rfl rfl (O_as (v := (slV (hSub h394 32 1 h394.c) (s395.drop 1))) rfl rfl ?_)
     refine O_nil (Then_n (W_ret ?_))
     refine ret_1 (v := (slV (hSub h394 32 1 h394.c) (s395.drop 1))) Tryz.results21 rfl ?_
     have hE : s395.drop 1 = linksOf b := (links_y hr396 perm_nil (links_none h2 h3 h4).symm hc421)
     exact hE ▸ ⟨hSub h394 32 1 h394.c, (fun z_ => (slV nilH ([] : List ID)).ownBlock = some z_), rfl, H420.gr, fun b hb => ⟨hn397 b hb, (H420.imm _ (List.mem_of_getElem? (i := 0) rfl)).2 b hb⟩, (Sl.sub (H420.sl 0 rfl) 1 s395.length h394.c (by omega) (by first | omega | exact Nat.le_refl _) (by have := Sl.cap (H420.sl 0 rfl); omega) (by first | omega | exact Nat.le_refl _ | (have := Sl.cap (H420.sl 0 rfl); omega)) (by rw [List.take_length]))⟩
    ·have hc421 : (¬ (0 < (s395.length : Int)) ∨ ¬ ((nth s395 0) = zeroId)) := (Or.imp (fun h => (of_decide_eq_false h)) (fun h => (of_decide_eq_false h)) (andF hc421))
     refine W_skip (Then_n (W_seq (W_reg ?_)))
     refine O_mv (v := (slV h394 s395)) rfl rfl (O_as (v := (slV h394 s395)) rfl rfl ?_)
     refine O_nil (Then_n (W_ret ?_))
     refine ret_1 (v := (slV h394 s395)) Tryz.results21 rfl ?_
     have hE : s395 = linksOf b := (links_n2 hr396 perm_nil (links_none h2 h3 h4).symm hc421)
     exact hE ▸ ⟨h394, (fun z_ => (slV nilH ([] : List ID)).ownBlock = some z_), rfl, H420.gr, fun b hb => ⟨hn397 b hb, (H420.imm _ (List.mem_of_getElem? (i := 0) rfl)).2 b hb⟩, (H420.sl 0 rfl)⟩
end Go.Proofs.YthjdhfoeckfmbaaGreat
namespace Go.Proofs.YthjdhfoeckfmbaaGreat
open Go
set_option maxRecDepth 100000
set_option linter.unusedVariables false
set_option linter.unusedSimpArgs false
set_option linter.unusedSectionVars false
variable [DD]
set_option maxHeartbeats 1000000 in
theorem obj_PutBlob (hb : SlH) (b : List UInt8) (w : World) (Sb : Sl (Old w) encB 1 hb b w) :
    Calls Tryz.prog 10 #[(slV hb b)] w (Ret fun v w' => ∃ h0, v = .tuple #[slV h0 (putBlobB b), (.int .i64 (putBlobE b))] ∧ Ext w w' ∧ OwnS w.heap.size 5 1 encB h0 (putBlobB b) w') := by
 refine calls_W Tryz.func10 rfl Tryz.ntmps10 rfl ?_
 have H0 := Ctx.start w nob
 have H1 := H0.addSl _ Sb (fun b hb => ⟨hb, fun _ ho => (nomatch ho)⟩)
 have LSb := Sb.len
 refine W_seq (W_reg ?_)
 refine O_as (v := (.slice none 0 0)) rfl rfl (O_as (v := (.int .i64 0)) rfl rfl ?_)
 refine O_nil (Then_n (W_seq (W_seq (W_reg ?_))))
 refine O_mv (v := (slV hb b)) rfl rfl ?_
 refine O_v rfl (R_len_slice (a := hb.a) (n := b.length) (c := hb.c) Tryz.underlying22 rfl ?_)
 refine O_v rfl (R_cmp (a := (b.length : Int)) (b := 4096) (r := (decide (4096 < (b.length : Int)))) rfl rfl rfl ?_)
 refine O_nil (Then_n ?_)
 refine W_cond rfl (fun hc2 => ?_) (fun hc2 => ?_)
 ·have hc2 := (of_decide_eq_true hc2)
  refine W_seq (W_reg ?_)
  refine O_as (v := (.slice none 0 0)) rfl rfl (O_as (v := (.int .i64 2)) rfl rfl ?_)
  refine O_nil (Then_n (W_ret (Then_r ?_)))
  refine ret_2 (v := (.slice none 0 0)) (v' := (.int .i64 2)) Tryz.results10 rfl rfl ?_
  have H3 := H1.addNil 5 1 encB
  have hE : [] = putBlobB b := (putBlob_f (by assumption)).1
  have hV : 2 = putBlobE b := (putBlob_f (by assumption)).2
  refine ⟨nilH, ?_, H3.gr, ?_⟩
  · exact two_eq (fun l n => Value.tuple #[slV nilH l, Value.int .i64 n]) hE hV
  · have hO := H3.retRow 0 rfl
    exact hE ▸ hO
 ·have hc2 := (of_decide_eq_false hc2)
  refine W_skip (Then_n (W_seq (W_reg ?_)))
  refine O_v rfl (C_buildSliceL H1 (enc := encB) (val := byteV) ([1] : List UInt8) Tryz.underlying22 Tryz.sizeOf5 Tryz.zeroValue5 rfl (by decide) (fun _ => rfl) (fun _ => rfl) rfl rfl (by decide) ?_)
  intro b4 w5 hb6 hx7 H8
  refine O_mv (v := (slV hb b)) rfl rfl ?_
  refine O_v rfl (C_append H8 0 rfl (bytes := 1) (l := ([1] : List UInt8)) (ys := b) Tryz.underlying22 rfl rfl rfl rfl rfl (by decide) rfl rfl (H8.sl 0 rfl) (fun _ => rfl) (fun _ => rfl) (by simp only [List.length_cons, List.length_nil]; omega) (by decide) ?_)
  intro h9 w10 hg11 H12
  refine O_as (v := (slV h9 (([1] : List UInt8) ++ b))) rfl rfl (O_as (v := (.int .i64 0)) rfl rfl ?_)
  refine O_nil (Then_n (W_ret ?_))
  refine ret_2 (v := (slV h9 (([1] : List UInt8) ++ b))) (v' := (.int .i64 0)) Tryz.results10 rfl rfl ?_
  have hE : ([1] : List UInt8) ++ b = putBlobB b := (putBlob_t (by assumption)).1
  have hV : 0 = putBlobE b := (putBlob_t (by assumption)).2
  refine ⟨h9, ?_, H12.gr, ?_⟩
  · exact two_eq (fun l n => Value.tuple #[slV h9 l, Value.int .i64 n]) hE hV
  · have hO := H12.retRow 0 rfl
    exact hE ▸ hO
set_option maxHeartbeats 1000000 in
theorem enc_Id (hb : SlH) (b : List UInt8) (id : ID) (w : World) (Sb : Sl (Old w) encB 1 hb b w) (hl : b.length ≤ 70368744177664) :
    Calls Tryz.prog 40 #[(slV hb b), (aggOf (idCh id))] w (Ret fun v w' => ∃ h, v = slV h (b ++ idList id) ∧ Ext w w' ∧ OwnS w.heap.size 5 1 encB h (b ++ idList id) w') := by
 refine calls_W Tryz.func40 rfl Tryz.ntmps40 rfl ?_
 have H0 := Ctx.start w nob
 have H1 := H0.addSl _ Sb (fun b hb => ⟨hb, fun _ ho => (nomatch ho)⟩)
 have LSb := Sb.len
 refine W_seq (W_reg ?_)
 refine O_v rfl (C_box H1 [(idCells id)] rfl ?_)
 intro b2 w3 hb4 hx5 H6
 refine O_as (v := (.slice none 0 0)) rfl rfl ?_
 refine O_nil (Then_n (W_seq ?_))
 refine W_rgdM TryzMixed nob (fun i => if i == 3 then 2 else 0) [(0, .q 2), (2, .q 2), (1, .c 0), (3, .c 2), (4, .q 2)] (by kernel_rfl) ?_
 refine Lx_mv (v := (slV hb b)) rfl rfl rfl (Lx_q rfl rfl _ (fun v9 hv10 => R_slice_arr Tryz.underlying45 Tryz.sizeOf5 rfl (by decide) qk) ?_)
 refine Lx_c rfl rfl (fun w11 hw12 => ?_)
 have H13 := H6.ext hw12
 refine (R_callL (vs := [(slV hb b)]) cF85 rfl rfl ((Clone_byte hb b w11 (H13.slOld 0 rfl) (by omega)).ret ?_))
 rintro _ w15 ⟨h14, rfl, hx16, ho17⟩
 have H18 := H13.addRow hx16 ho17
 refine ⟨GrF.ofExt hx16, ?_⟩
 refine Lx_c rfl rfl (fun w19 hw20 => ?_)
 have H21 := H18.ext hw20
 refine (C_append H21 0 rfl (bytes := 1) (l := b) (ys := (idList id)) Tryz.underlying22 rfl rfl rfl rfl rfl (by decide) rfl rfl (Sl_box (H21.getOwn 1 rfl)) (fun _ => rfl) (fun _ => rfl) (by rw [idList_len]; omega) (by decide) ?_)
 intro h22 w23 hg24 H25
 refine ⟨Gr.mono (M' := fun _ => True) hg24 (fun _ _ => trivial), ?_⟩
 refine Lx_q rfl rfl _ (fun v26 hv27 => R_assign (v := (slV h22 (b ++ (idList id)))) rfl qk) ?_
 refine Lx_nil (fun w28 hw29 => ?_)
 have H30 := H25.ext hw29
 refine Then_n (W_ret ?_)
 refine ret_1 (v := (slV h22 (b ++ (idList id)))) Tryz.results40 rfl ?_
 exact ⟨h22, rfl, H30.gr, H30.retRow 0 rfl⟩
set_option maxHeartbeats 1000000 in
theorem enc_Num (hb : SlH) (b : List UInt8) (n : Int) (w : World) (Sb : Sl (Old w) encB 1 hb b w) (hl : b.length ≤ 70368744177664) :
    Calls Tryz.prog 39 #[(slV hb b), (.int .i64 n)] w (Ret fun v w' => ∃ h, v = slV h (b ++ numB n) ∧ Ext w w' ∧ OwnS w.heap.size 5 1 encB h (b ++ numB n) w') := by
 refine calls_W Tryz.func39 rfl Tryz.ntmps39 rfl ?_
 have H0 := Ctx.start w nob
 have H1 := H0.addSl _ Sb (fun b hb => ⟨hb, fun _ ho => (nomatch ho)⟩)
 have LSb := Sb.len
 refine W_seq (W_reg ?_)
 refine O_as (v := (.slice none 0 0)) rfl rfl ?_
 refine O_nil (Then_n (W_seq (W_reg ?_)))
 refine O_mv (v := (slV hb b)) rfl rfl ?_
 refine O_v rfl (R_callL (vs := [(slV hb b)]) cF85 rfl rfl ((Clone_byte hb b w (H1.slOld 0 rfl) (by omega)).ret ?_))
 rintro _ w3 ⟨h2, rfl, hx4, ho5⟩
 have H6 := H1.addRow hx4 ho5
 refine O_as (v := (slV h2 b)) rfl rfl ?_
 refine O_nil (Then_n (W_seq (W_reg ?_)))
 refine O_mv (v := (.int .i64 n)) rfl rfl ?_
 refine O_v rfl (R_max2L (a := n) (b := 0) rfl ?_)
 refine O_v rfl (R_min2L (a := (max n 0)) (b := 4611686018427387904) rfl ?_)
 refine O_v rfl (R_conv_int (a := (min (max n 0) 4611686018427387904)) (r := ((numClamp n : Nat) : Int)) Tryz.underlying2 Tryz.underlying126 rfl (conv_clamp n) ?_)
 refine O_as (v := (.int .u64 ((numClamp n : Nat) : Int))) rfl rfl ?_
 refine O_nil (Then_n (W_seq (W_block ?_)))
 refine W_loop (fun m8 e9 w10 => ∃ (u : Nat), ∃ (acc : List UInt8), ∃ (h7 : SlH), m8 = u + 1 ∧ (acc ++ numGo u = b ++ numB n) ∧ ∃ eb11, e9 = envL [(4, (.slice none 0 0)), (5, (slV h7 acc)), (6, (.int .u64 (u : Int)))] eb11 ∧ Ctx w nob w10 [rowR 5 1 encB h7 acc] [slI (Old w) encB 1 hb b]) _ ⟨(numClamp n), b, h2, rfl, rfl, _, envL_self ⟨rfl, rfl, rfl, trivial⟩, H6⟩ ?_
 rintro m8 _ w10 ⟨u, acc, h7, rfl, ha, eb11, rfl, H12⟩
 refine W_seq (W_seq (W_reg ?_))
 refine O_mv (v := (.int .u64 (u : Int))) rfl rfl ?_
 refine O_v rfl (R_cmp (a := (u : Int)) (b := 127) (r := (decide (127 < (u : Int)))) rfl rfl rfl ?_)
 refine O_nil (Then_n ?_)
 refine W_cond rfl (fun hc13 => ?_) (fun hc13 => ?_)
 ·have hc13 := (of_decide_eq_true hc13)
  refine W_skip (Then_n (W_block (W_seq (W_reg ?_))))
  refine O_mv (v := (slV h7 acc)) rfl rfl (O_mv (v := (.int .u64 (u : Int))) rfl rfl ?_)
  refine O_v rfl (R_conv_int (a := (u : Int)) (r := ((UInt8.ofNat u).toNat : Int)) Tryz.underlying126 Tryz.underlying5 rfl (conv_u8 _) ?_)
  refine O_v rfl (R_bits (k := .u8) (a := ((UInt8.ofNat u).toNat : Int)) (b := ((128 : UInt8).toNat : Int)) (r := (((UInt8.ofNat u) ||| (128 : UInt8)).toNat : Int)) rfl rfl (bit_or8 _ _) ?_)
  refine O_v rfl (C_buildSliceL H12 (enc := encB) (val := byteV) ([((UInt8.ofNat u) ||| (128 : UInt8))] : List UInt8) Tryz.underlying22 Tryz.sizeOf5 Tryz.zeroValue5 rfl (by decide) (fun _ => rfl) (fun _ => rfl) rfl rfl (by decide) ?_)
  intro b14 w15 hb16 hx17 H18
  refine O_v rfl (C_append H18 1 rfl (bytes := 1) (l := acc) (ys := ([((UInt8.ofNat u) ||| (128 : UInt8))] : List UInt8)) Tryz.underlying22 rfl rfl rfl rfl rfl (by decide) rfl rfl (OwnS.sl (H18.getOwn 0 rfl) (fun _ => rfl)) (fun _ => rfl) (fun _ => rfl) (by have := num_room ha; simp only [List.length_append, List.length_cons, List.length_nil]; omega) (by decide) ?_)
  intro h19 w20 hg21 H22
  refine O_as (v := (slV h19 (acc ++ ([((UInt8.ofNat u) ||| (128 : UInt8))] : List UInt8)))) rfl rfl ?_
  refine O_nil (Then_n (W_reg ?_))
  refine O_mv (v := (.int .u64 (u : Int))) rfl rfl ?_
  refine O_v rfl (R_shr (a := (u : Int)) (b := ((7 : Nat) : Int)) (r := ((u / 128 : Nat) : Int)) rfl rfl (by decide) (shr_nat _ _ (by decide)) ?_)
  refine O_as (v := (.int .u64 ((u / 128 : Nat) : Int))) rfl rfl ?_
  refine O_nil (Blk_n (Then_n ?_))
  have H23 := H22.sub (List.Sublist.cons _ (List.Sublist.cons_cons _ List.Sublist.slnil)) (List.forall_mem_cons.2 ⟨List.mem_of_getElem? (i := 0) rfl, memN⟩)
  refine ⟨_, ?_, (u / 128), (acc ++ ([((UInt8.ofNat u) ||| (128 : UInt8))] : List UInt8)), h19, rfl, (num_step ha (by omega)), _, envL_self ⟨rfl, rfl, rfl, trivial⟩, H23⟩
  omega
 ·have hc13 := (of_decide_eq_false hc13)
  refine W_exit (Then_x (Then_x (Blk_x (Then_n (W_seq (W_reg ?_))))))
  refine O_mv (v := (slV h7 acc)) rfl rfl (O_mv (v := (.int .u64 (u : Int))) rfl rfl ?_)
  refine O_v rfl (R_conv_int (a := (u : Int)) (r := ((UInt8.ofNat u).toNat : Int)) Tryz.underlying126 Tryz.underlying5 rfl (conv_u8 _) ?_)
  refine O_v rfl (C_buildSliceL H12 (enc := encB) (val := byteV) ([(UInt8.ofNat u)] : List UInt8) Tryz.underlying22 Tryz.sizeOf5 Tryz.zeroValue5 rfl (by decide) (fun _ => rfl) (fun _ => rfl) rfl rfl (by decide) ?_)
  intro b24 w25 hb26 hx27 H28
  refine O_v rfl (C_append H28 1 rfl (bytes := 1) (l := acc) (ys := ([(UInt8.ofNat u)] : List UInt8)) Tryz.underlying22 rfl rfl rfl rfl rfl (by decide) rfl rfl (OwnS.sl (H28.getOwn 0 rfl) (fun _ => rfl)) (fun _ => rfl) (fun _ => rfl) (by have := num_room ha; simp only [List.length_append, List.length_cons, List.length_nil]; omega) (by decide) ?_)
  intro h29 w30 hg31 H32
  refine O_as (v := (slV h29 (acc ++ ([(UInt8.ofNat u)] : List UInt8)))) rfl rfl ?_
  refine O_nil (Then_n (W_ret ?_))
  refine ret_1 (v := (slV h29 (acc ++ ([(UInt8.ofNat u)] : List UInt8)))) Tryz.results39 rfl ?_
  have hE : acc ++ ([(UInt8.ofNat u)] : List UInt8) = b ++ numB n := (num_end ha (by omega))
  refine ⟨h29, ?_, H32.gr, ?_⟩
  · exact congrArg (fun l => slV h29 l) hE
  · have hO := H32.retRow 1 rfl
    exact hE ▸ hO
theorem cF39 : callable Tryz.prog 39 = true := by kernel_rfl
set_option maxHeartbeats 1000000 in
theorem enc_Text (hb : SlH) (b : List UInt8) (s : ByteArray) (w : World) (Sb : Sl (Old w) encB 1 hb b w) (hl : b.length + s.size ≤ 70368744177664) :
    Calls Tryz.prog 41 #[(slV hb b), (.string s)] w (Ret fun v w' => ∃ h, v = slV h (b ++ textB s) ∧ Ext w w' ∧ OwnS w.heap.size 5 1 encB h (b ++ textB s) w') := by
 refine calls_W Tryz.func41 rfl Tryz.ntmps41 rfl ?_
 have H0 := Ctx.start w nob
 have H1 := H0.addSl _ Sb (fun b hb => ⟨hb, fun _ ho => (nomatch ho)⟩)
 have LSb := Sb.len
 refine W_seq (W_reg ?_)
 refine O_as (v := (.slice none 0 0)) rfl rfl ?_
 refine O_nil (Then_n (W_seq (W_reg ?_)))
 refine O_mv (v := (slV hb b)) rfl rfl (O_mv (v := (.string s)) rfl rfl ?_)
 refine O_v rfl (R_len_string Tryz.underlying9 rfl ?_)
 refine O_v rfl (R_callL (vs := [(slV hb b), (.int .i64 (s.size : Int))]) cF39 rfl rfl ((enc_Num hb b (s.size : Int) w (H1.slOld 0 rfl) (by omega)).ret ?_))
 rintro _ w3 ⟨h2, rfl, hx4, ho5⟩
 have H6 := H1.addRow hx4 ho5
 refine O_mv (v := (.string s)) rfl rfl ?_
 refine O_v rfl (C_appendS H6 0 rfl (l := (b ++ numB (s.size : Int))) (str := s) Tryz.underlying22 Tryz.underlying9 rfl rfl rfl rfl rfl rfl (by have := numB_len s.size; simp only [List.length_append]; omega) ?_)
 intro h7 w8 hg9 H10
 refine O_as (v := (slV h7 ((b ++ numB (s.size : Int)) ++ s.data.toList))) rfl rfl ?_
 refine O_nil (Then_n (W_ret ?_))
 refine ret_1 (v := (slV h7 ((b ++ numB (s.size : Int)) ++ s.data.toList))) Tryz.results41 rfl ?_
 have hE : (b ++ numB (s.size : Int)) ++ s.data.toList = b ++ textB s := (List.append_assoc _ _ _)
 refine ⟨h7, ?_, H10.gr, ?_⟩
 · exact congrArg (fun l => slV h7 l) hE
 · have hO := H10.retRow 0 rfl
   exact hE ▸ hO
set_option maxHeartbeats 1000000 in
theorem stamp_put (hb : SlH) (b : List UInt8) (s : Stamp) (w : World) (Sb : Sl (Old w) encB 1 hb b w) (hl : b.length ≤ 35184372088832) :
    Calls Tryz.prog 105 #[(slV hb b), (aggOf (stampCh s))] w (Ret fun v w' => ∃ h, v = slV h (b ++ atB s) ∧ Ext w w' ∧ OwnS w.heap.size 5 1 encB h (b ++ atB s) w') := by
 refine calls_W Tryz.func105 rfl Tryz.ntmps105 rfl ?_
 have H0 := Ctx.start w nob
 have H1 := H0.addSl _ Sb (fun b hb => ⟨hb, fun _ ho => (nomatch ho)⟩)
 have LSb := Sb.len
 refine W_seq (W_reg ?_)
 refine O_v rfl (C_box H1 [[(.int .i64 s.T)], [(.int .i64 s.R)]] rfl ?_)
 intro b2 w3 hb4 hx5 H6
 refine O_as (v := (.slice none 0 0)) rfl rfl ?_
 refine O_nil (Then_n (W_seq ?_))
 refine W_rgd TryzMixed [(0, .q 0), (1, .q 0), (2, .q 0), (4, .q 0), (5, .q 0), (3, .c 0), (6, .c 0), (7, .q 0)] (by kernel_rfl) ?_
 refine Lx_mv (v := (slV hb b)) rfl rfl rfl (Lx_q rfl rfl _ (fun v9 hv10 => R_fieldAddr (off := 0) (oo := 0) Tryz.underlying69 rfl rfl Tryz.sizeOf2 rfl rfl qk) (Lx_q rfl rfl _ (fun v11 hv12 => R_load1 (v := (.int .i64 s.T)) Tryz.isAgg2 rfl ((H6.ext hv12).bx 0 rfl 0 1 0 0 _ rfl rfl rfl) qk) (Lx_q rfl rfl _ (fun v13 hv14 => R_fieldAddr (off := 1) (oo := 1) Tryz.underlying69 rfl rfl Tryz.sizeOf3 rfl rfl qk) ?_)))
 refine Lx_q rfl rfl _ (fun v15 hv16 => R_load1 (v := (.int .i64 s.R)) Tryz.isAgg3 rfl ((H6.ext hv16).bx 0 rfl 1 1 1 1 _ rfl rfl rfl) qk) ?_
 refine Lx_c rfl rfl (fun w17 hw18 => ?_)
 have H19 := H6.ext hw18
 refine (R_callL (vs := [(slV hb b), (.int .i64 s.T)]) cF39 rfl rfl ((enc_Num hb b s.T w17 (H19.slOld 0 rfl) (by omega)).ret ?_))
 rintro _ w21 ⟨h20, rfl, hx22, ho23⟩
 have H24 := H19.addRow hx22 ho23
 refine ⟨GrF.ofExt hx22, ?_⟩
 refine Lx_c rfl rfl (fun w25 hw26 => ?_)
 have H27 := H24.ext hw26
 refine (R_callL (vs := [(slV h20 (b ++ numB s.T)), (.int .i64 s.R)]) cF39 rfl rfl ((enc_Num h20 (b ++ numB s.T) s.R w25 (H27.rowSl 0 rfl (fun _ => rfl)) (by have := numB_len s.T; simp only [List.length_append]; omega)).ret ?_))
 rintro _ w29 ⟨h28, rfl, hx30, ho31⟩
 have H32 := H27.addRow hx30 ho31
 refine ⟨GrF.ofExt hx30, ?_⟩
 refine Lx_q rfl rfl _ (fun v33 hv34 => R_assign (v := (slV h28 ((b ++ numB s.T) ++ numB s.R))) rfl qk) ?_
 refine Lx_nil (fun w35 hw36 => ?_)
 have H37 := H32.ext hw36
 refine Then_n (W_ret ?_)
 refine ret_1 (v := (slV h28 ((b ++ numB s.T) ++ numB s.R))) Tryz.results105 rfl ?_
 have hE : (b ++ numB s.T) ++ numB s.R = b ++ atB s := (List.append_assoc _ _ _)
 refine ⟨h28, ?_, H37.gr, ?_⟩
 · exact congrArg (fun l => slV h28 l) hE
 · have hO := H37.retRow 0 rfl
   exact hE ▸ hO
end Go.Proofs.YthjdhfoeckfmbaaGreat
namespace Go.Proofs.YthjdhfoeckfmbaaGreat
open Go
set_option maxRecDepth 100000
set_option linter.unusedVariables false
set_option linter.unusedSimpArgs false
set_option linter.unusedSectionVars false
theorem cF40 : callable Tryz.prog 40 = true := by kernel_rfl
theorem cF41 : callable Tryz.prog 41 = true := by kernel_rfl
theorem cF105 : callable Tryz.prog 105 = true := by kernel_rfl
set_option maxHeartbeats 2000000 in
theorem stamp_Put (hb : SlH) (b : List UInt8) (o : OpS) (w : World) (Sb : Sl (Old w) encB 1 hb b w) (So_over : Sl (Old w) stampCh 2 o.oh o.over w) (hl : b.length ≤ 1099511627776) :
    Calls Tryz.prog 59 #[(slV hb b), (aggOf (opCh o))] w (Ret fun v w' => ∃ h, v = slV h (b ++ putOpB o) ∧ Ext w w' ∧ OwnS w.heap.size 5 1 encB h (b ++ putOpB o) w') := by
 refine calls_W Tryz.func59 rfl Tryz.ntmps59 rfl ?_
 have H0 := Ctx.start w nob
 have H1 := H0.addSl _ Sb (fun b hb => ⟨hb, fun _ ho => (nomatch ho)⟩)
 have LSb := Sb.len
 have H2 := H1.addSl _ So_over (fun b hb => ⟨hb, fun _ ho => (nomatch ho)⟩)
 have LSo_over := So_over.len
 refine W_seq (W_reg ?_)
 refine O_v rfl (C_box H2 [[(.int .i64 o.kind)], [(.int .i64 o.tm.T)], [(.int .i64 o.tm.R)], [(.int .i64 o.node.T)], [(.int .i64 o.node.R)], [(.int .i64 o.par.T)], [(.int .i64 o.par.R)], [(.string o.name)], (idCells o.data), [(slV o.oh o.over)]] rfl ?_)
 intro b3 w4 hb5 hx6 H7
 refine O_as (v := (.slice none 0 0)) rfl rfl ?_
 refine O_nil (Then_n (W_seq (W_seq (W_reg ?_))))
 refine O_v rfl (R_loadA (cs := [[(.int .i64 o.kind)], [(.int .i64 o.tm.T)], [(.int .i64 o.tm.R)], [(.int .i64 o.node.T)], [(.int .i64 o.node.R)], [(.int .i64 o.par.T)], [(.int .i64 o.par.R)], [(.string o.name)], (idCells o.data), [(slV o.oh o.over)]]) Tryz.isAgg72 Tryz.sizeOf72 rfl rfl (H7.bx 0 rfl 0 10 0 0 _ rfl rfl rfl) ?_)
 refine O_v rfl (R_callL (vs := [(aggOf (opCh o))]) cF97 rfl rfl ((stamp_Good o w4 (H7.slOld 0 rfl)).ret ?_))
 rintro _ w8 ⟨rfl, hx9⟩
 have H10 := H7.ext hx9
 refine O_v rfl (R_not rfl ?_)
 refine O_nil (Then_n ?_)
 refine W_cond rfl (fun hc11 => ?_) (fun hc11 => ?_)
 ·have hc11 : (goodOp o) = false := (notT hc11)
  refine W_seq (W_reg ?_)
  refine O_mv (v := (slV hb b)) rfl rfl ?_
  refine O_v rfl (R_callL (vs := [(slV hb b)]) cF85 rfl rfl ((Clone_byte hb b w8 (H10.slOld 1 rfl) (by omega)).ret ?_))
  rintro _ w13 ⟨h12, rfl, hx14, ho15⟩
  have H16 := H10.addRow hx14 ho15
  refine O_as (v := (slV h12 b)) rfl rfl ?_
  refine O_nil (Then_n (W_ret (Then_r ?_)))
  refine ret_1 (v := (slV h12 b)) Tryz.results59 rfl ?_
  have hE : b = b ++ putOpB o := (putOp_no (by assumption))
  refine ⟨h12, ?_, H16.gr, ?_⟩
  · exact congrArg (fun l => slV h12 l) hE
  · have hO := H16.retRow 0 rfl
    exact hE ▸ hO
 ·have hc11 : (goodOp o) = true := (notF hc11)
  have hG := hc11
  refine W_skip (Then_n (W_seq ?_))
  refine W_rgd TryzMixed [(0, .q 0), (1, .q 0), (2, .q 0), (4, .q 0), (5, .q 0), (7, .q 0), (8, .q 0), (3, .c 0), (6, .c 0), (9, .c 0), (10, .q 0)] (by kernel_rfl) ?_
  refine Lx_mv (v := (slV hb b)) rfl rfl rfl (Lx_q rfl rfl _ (fun v19 hv20 => R_fieldAddr (off := 0) (oo := 0) Tryz.underlying72 rfl rfl Tryz.sizeOf3 rfl rfl qk) (Lx_q rfl rfl _ (fun v21 hv22 => R_load1 (v := (.int .i64 o.kind)) Tryz.isAgg3 rfl ((H10.ext hv22).bx 0 rfl 0 1 0 0 _ rfl rfl rfl) qk) (Lx_q rfl rfl _ (fun v23 hv24 => R_fieldAddr (off := 1) (oo := 1) Tryz.underlying72 rfl rfl Tryz.sizeOf69 rfl rfl qk) ?_)))
  refine Lx_q rfl rfl _ (fun v25 hv26 => R_loadA (cs := [[(.int .i64 o.tm.T)], [(.int .i64 o.tm.R)]]) Tryz.isAgg69 Tryz.sizeOf69 rfl rfl ((H10.ext hv26).bx 0 rfl 1 2 1 1 _ rfl rfl rfl) qk) (Lx_q rfl rfl _ (fun v27 hv28 => R_fieldAddr (off := 3) (oo := 3) Tryz.underlying72 rfl rfl Tryz.sizeOf69 rfl rfl qk) (Lx_q rfl rfl _ (fun v29 hv30 => R_loadA (cs := [[(.int .i64 o.node.T)], [(.int .i64 o.node.R)]]) Tryz.isAgg69 Tryz.sizeOf69 rfl rfl ((H10.ext hv30).bx 0 rfl 3 2 3 3 _ rfl rfl rfl) qk) ?_))
  refine Lx_c rfl rfl (fun w31 hw32 => ?_)
  have H33 := H10.ext hw32
  refine (R_callL (vs := [(slV hb b), (.int .i64 o.kind)]) cF39 rfl rfl ((enc_Num hb b o.kind w31 (H33.slOld 1 rfl) (by omega)).ret ?_))
  rintro _ w35 ⟨h34, rfl, hx36, ho37⟩
  have H38 := H33.addRow hx36 ho37
  refine ⟨GrF.ofExt hx36, ?_⟩
  refine Lx_c rfl rfl (fun w39 hw40 => ?_)
  have H41 := H38.ext hw40
  refine (R_callL (vs := [(slV h34 (b ++ numB o.kind)), (aggOf (stampCh o.tm))]) cF105 rfl rfl ((stamp_put h34 (b ++ numB o.kind) o.tm w39 (H41.rowSl 0 rfl (fun _ => rfl)) (by have h1 := numB_len o.kind; have h2 := atB_len o.tm; have h3 := atB_len o.node; have h4 := atB_len o.par; have h5 := numB_len (o.over.length : Int); have h6 := good_lens hG; simp only [List.length_append, idList_len]; omega)).ret ?_))
  rintro _ w43 ⟨h42, rfl, hx44, ho45⟩
  have H46 := H41.addRow hx44 ho45
  refine ⟨GrF.ofExt hx44, ?_⟩
  refine Lx_c rfl rfl (fun w47 hw48 => ?_)
  have H49 := H46.ext hw48
  refine (R_callL (vs := [(slV h42 ((b ++ numB o.kind) ++ atB o.tm)), (aggOf (stampCh o.node))]) cF105 rfl rfl ((stamp_put h42 ((b ++ numB o.kind) ++ atB o.tm) o.node w47 (H49.rowSl 0 rfl (fun _ => rfl)) (by have h1 := numB_len o.kind; have h2 := atB_len o.tm; have h3 := atB_len o.node; have h4 := atB_len o.par; have h5 := numB_len (o.over.length : Int); have h6 := good_lens hG; simp only [List.length_append, idList_len]; omega)).ret ?_))
  rintro _ w51 ⟨h50, rfl, hx52, ho53⟩
  have H54 := H49.addRow hx52 ho53
  refine ⟨GrF.ofExt hx52, ?_⟩
  refine Lx_q rfl rfl _ (fun v55 hv56 => R_assign (v := (slV h50 (((b ++ numB o.kind) ++ atB o.tm) ++ atB o.node))) rfl qk) ?_
  refine Lx_nil (fun w57 hw58 => ?_)
  have H59 := H54.ext hw58
  refine Then_n (W_seq (W_seq (W_reg ?_)))
  refine O_v rfl (R_fieldAddr (off := 0) (oo := 0) Tryz.underlying72 rfl rfl Tryz.sizeOf3 rfl rfl ?_)
  refine O_v rfl (R_load1 (v := (.int .i64 o.kind)) Tryz.isAgg3 rfl (H59.bx 3 rfl 0 1 0 0 _ rfl rfl rfl) ?_)
  refine O_v rfl (R_cmp (a := o.kind) (b := 1) (r := (decide (o.kind = 1))) rfl rfl rfl ?_)
  refine O_nil (Then_n ?_)
  refine W_cond rfl (fun hc60 => ?_) (fun hc60 => ?_)
  ·have hc60 := (of_decide_eq_true hc60)
   have hK := hc60
   refine W_seq ?_
   refine W_rgd TryzMixed [(0, .q 0), (1, .q 0), (2, .q 0), (4, .q 0), (5, .q 0), (3, .c 0), (6, .c 0), (7, .q 0)] (by kernel_rfl) ?_
   refine Lx_mv (v := (slV h50 (((b ++ numB o.kind) ++ atB o.tm) ++ atB o.node))) rfl rfl rfl (Lx_q rfl rfl _ (fun v63 hv64 => R_fieldAddr (off := 5) (oo := 5) Tryz.underlying72 rfl rfl Tryz.sizeOf69 rfl rfl qk) (Lx_q rfl rfl _ (fun v65 hv66 => R_loadA (cs := [[(.int .i64 o.par.T)], [(.int .i64 o.par.R)]]) Tryz.isAgg69 Tryz.sizeOf69 rfl rfl ((H59.ext hv66).bx 3 rfl 5 2 5 5 _ rfl rfl rfl) qk) (Lx_q rfl rfl _ (fun v67 hv68 => R_fieldAddr (off := 7) (oo := 7) Tryz.underlying72 rfl rfl Tryz.sizeOf9 rfl rfl qk) ?_)))
   refine Lx_q rfl rfl _ (fun v69 hv70 => R_load1 (v := (.string o.name)) Tryz.isAgg9 rfl ((H59.ext hv70).bx 3 rfl 7 1 7 7 _ rfl rfl rfl) qk) ?_
   refine Lx_c rfl rfl (fun w71 hw72 => ?_)
   have H73 := H59.ext hw72
   refine (R_callL (vs := [(slV h50 (((b ++ numB o.kind) ++ atB o.tm) ++ atB o.node)), (aggOf (stampCh o.par))]) cF105 rfl rfl ((stamp_put h50 (((b ++ numB o.kind) ++ atB o.tm) ++ atB o.node) o.par w71 (H73.rowSl 0 rfl (fun _ => rfl)) (by have h1 := numB_len o.kind; have h2 := atB_len o.tm; have h3 := atB_len o.node; have h4 := atB_len o.par; have h5 := numB_len (o.over.length : Int); have h6 := good_lens hG; simp only [List.length_append, idList_len]; omega)).ret ?_))
   rintro _ w75 ⟨h74, rfl, hx76, ho77⟩
   have H78 := H73.addRow hx76 ho77
   refine ⟨GrF.ofExt hx76, ?_⟩
   refine Lx_c rfl rfl (fun w79 hw80 => ?_)
   have H81 := H78.ext hw80
   refine (R_callL (vs := [(slV h74 ((((b ++ numB o.kind) ++ atB o.tm) ++ atB o.node) ++ atB o.par)), (.string o.name)]) cF41 rfl rfl ((enc_Text h74 ((((b ++ numB o.kind) ++ atB o.tm) ++ atB o.node) ++ atB o.par) o.name w79 (H81.rowSl 0 rfl (fun _ => rfl)) (by have h6 := good_name hG hK; have h1 := numB_len o.kind; have h2 := atB_len o.tm; have h3 := atB_len o.node; have h4 := atB_len o.par; simp only [List.length_append]; omega)).ret ?_))
   rintro _ w83 ⟨h82, rfl, hx84, ho85⟩
   have H86 := H81.addRow hx84 ho85
   refine ⟨GrF.ofExt hx84, ?_⟩
   refine Lx_q rfl rfl _ (fun v87 hv88 => R_assign (v := (slV h82 (((((b ++ numB o.kind) ++ atB o.tm) ++ atB o.node) ++ atB o.par) ++ textB o.name))) rfl qk) ?_
   refine Lx_nil (fun w89 hw90 => ?_)
   have H91 := H86.ext hw90
   refine Then_n (W_ret (Then_r ?_))
   refine ret_1 (v := (slV h82 (((((b ++ numB o.kind) ++ atB o.tm) ++ atB o.node) ++ atB o.par) ++ textB o.name))) Tryz.results59 rfl ?_
   have hE : ((((b ++ numB o.kind) ++ atB o.tm) ++ atB o.node) ++ atB o.par) ++ textB o.name = b ++ putOpB o := (putOp_move hG hK)
   refine ⟨h82, ?_, H91.gr, ?_⟩
   · exact congrArg (fun l => slV h82 l) hE
   · have hO := H91.retRow 0 rfl
     exact hE ▸ hO
  ·have hc60 := (of_decide_eq_false hc60)
   have hK := hc60
   refine W_skip (Then_n (W_seq ?_))
   refine W_rgd TryzMixed [(0, .q 0), (1, .q 0), (2, .q 0), (4, .q 0), (5, .q 0), (6, .q 0), (3, .c 0), (7, .c 0), (8, .q 0)] (by kernel_rfl) ?_
   refine Lx_mv (v := (slV h50 (((b ++ numB o.kind) ++ atB o.tm) ++ atB o.node))) rfl rfl rfl (Lx_q rfl rfl _ (fun v94 hv95 => R_fieldAddr (off := 8) (oo := 8) Tryz.underlying72 rfl rfl Tryz.sizeOf45 rfl rfl qk) (Lx_q rfl rfl _ (fun v96 hv97 => R_loadA (cs := [(idCells o.data)]) Tryz.isAgg45 Tryz.sizeOf45 rfl rfl ((H59.ext hv97).bx 3 rfl 8 1 8 8 _ rfl rfl rfl) qk) (Lx_q rfl rfl _ (fun v98 hv99 => R_fieldAddr (off := 40) (oo := 40) Tryz.underlying72 rfl rfl Tryz.sizeOf70 rfl rfl qk) ?_)))
   refine Lx_q rfl rfl _ (fun v100 hv101 => R_load1 (v := (slV o.oh o.over)) Tryz.isAgg70 rfl ((H59.ext hv101).bx 3 rfl 9 1 40 40 _ rfl rfl rfl) qk) (Lx_q rfl rfl _ (fun v102 hv103 => R_len_slice (a := o.oh.a) (n := o.over.length) (c := o.oh.c) Tryz.underlying70 rfl qk) ?_)
   refine Lx_c rfl rfl (fun w104 hw105 => ?_)
   have H106 := H59.ext hw105
   refine (R_callL (vs := [(slV h50 (((b ++ numB o.kind) ++ atB o.tm) ++ atB o.node)), (aggOf (idCh o.data))]) cF40 rfl rfl ((enc_Id h50 (((b ++ numB o.kind) ++ atB o.tm) ++ atB o.node) o.data w104 (H106.rowSl 0 rfl (fun _ => rfl)) (by have h1 := numB_len o.kind; have h2 := atB_len o.tm; have h3 := atB_len o.node; have h4 := atB_len o.par; have h5 := numB_len (o.over.length : Int); have h6 := good_lens hG; simp only [List.length_append, idList_len]; omega)).ret ?_))
   rintro _ w108 ⟨h107, rfl, hx109, ho110⟩
   have H111 := H106.addRow hx109 ho110
   refine ⟨GrF.ofExt hx109, ?_⟩
   refine Lx_c rfl rfl (fun w112 hw113 => ?_)
   have H114 := H111.ext hw113
   refine (R_callL (vs := [(slV h107 ((((b ++ numB o.kind) ++ atB o.tm) ++ atB o.node) ++ idList o.data)), (.int .i64 (o.over.length : Int))]) cF39 rfl rfl ((enc_Num h107 ((((b ++ numB o.kind) ++ atB o.tm) ++ atB o.node) ++ idList o.data) (o.over.length : Int) w112 (H114.rowSl 0 rfl (fun _ => rfl)) (by have h1 := numB_len o.kind; have h2 := atB_len o.tm; have h3 := atB_len o.node; have h4 := atB_len o.par; have h5 := numB_len (o.over.length : Int); have h6 := good_lens hG; simp only [List.length_append, idList_len]; omega)).ret ?_))
   rintro _ w116 ⟨h115, rfl, hx117, ho118⟩
   have H119 := H114.addRow hx117 ho118
   refine ⟨GrF.ofExt hx117, ?_⟩
   refine Lx_q rfl rfl _ (fun v120 hv121 => R_assign (v := (slV h115 (((((b ++ numB o.kind) ++ atB o.tm) ++ atB o.node) ++ idList o.data) ++ numB (o.over.length : Int)))) rfl qk) ?_
   refine Lx_nil (fun w122 hw123 => ?_)
   have H124 := H119.ext hw123
   refine Then_n (W_seq (W_seq (W_reg ?_)))
   refine O_v rfl (R_fieldAddr (off := 40) (oo := 40) Tryz.underlying72 rfl rfl Tryz.sizeOf70 rfl rfl ?_)
   refine O_v rfl (R_load1 (v := (slV o.oh o.over)) Tryz.isAgg70 rfl (H124.bx 5 rfl 9 1 40 40 _ rfl rfl rfl) ?_)
   refine O_v rfl (R_len_slice (a := o.oh.a) (n := o.over.length) (c := o.oh.c) Tryz.underlying70 rfl ?_)
   refine O_mv (v := (.int .i64 0)) rfl rfl ?_
   refine O_nil (Then_n (W_block ?_))
   refine W_loop (fun m126 e127 w128 => ∃ (k : Nat), ∃ (acc : List UInt8), ∃ (h125 : SlH), m126 = o.over.length - k ∧ (k ≤ o.over.length) ∧ (acc = overTo b o k) ∧ (acc.length ≤ b.length + 200 + 18 * k) ∧ ∃ eb129, e127 = envL [(0, (slV h125 acc)), (4, (.slice none 0 0)), (41, (slV o.oh o.over)), (42, (.int .i64 (o.over.length : Int))), (43, (.int .i64 (k : Int)))] eb129 ∧ Ctx w nob w128 [rowR 5 1 encB h125 acc, rowR 5 1 encB h107 ((((b ++ numB o.kind) ++ atB o.tm) ++ atB o.node) ++ idList o.data), rowR 5 1 encB h50 (((b ++ numB o.kind) ++ atB o.tm) ++ atB o.node), rowR 5 1 encB h42 ((b ++ numB o.kind) ++ atB o.tm), rowR 5 1 encB h34 (b ++ numB o.kind), boxR b3 72 [[(.int .i64 o.kind)], [(.int .i64 o.tm.T)], [(.int .i64 o.tm.R)], [(.int .i64 o.node.T)], [(.int .i64 o.node.R)], [(.int .i64 o.par.T)], [(.int .i64 o.par.R)], [(.string o.name)], (idCells o.data), [(slV o.oh o.over)]]] [slI (Old w) stampCh 2 o.oh o.over, slI (Old w) encB 1 hb b]) _ ⟨0, (((((b ++ numB o.kind) ++ atB o.tm) ++ atB o.node) ++ idList o.data) ++ numB (o.over.length : Int)), h115, rfl, (by omega), (overTo_zero b o), (by have h1 := numB_len o.kind; have h2 := atB_len o.tm; have h3 := atB_len o.node; have h4 := atB_len o.par; have h5 := numB_len (o.over.length : Int); have h6 := good_lens hG; simp only [List.length_append, idList_len]; omega), _, envL_self ⟨rfl, rfl, rfl, rfl, rfl, trivial⟩, H124⟩ ?_
   rintro m126 _ w128 ⟨k, acc, h125, rfl, hk, ha, hal, eb129, rfl, H130⟩
   refine W_seq (W_reg ?_)
   refine O_v rfl (R_cmp (a := (k : Int)) (b := (o.over.length : Int)) (r := (decide ((k : Int) < (o.over.length : Int)))) rfl rfl rfl ?_)
   refine O_nil (Then_n (W_seq ?_))
   refine W_cond rfl (fun hc131 => ?_) (fun hc131 => ?_)
   ·have hc131 := (of_decide_eq_true hc131)
    refine W_skip (Then_n (W_seq (W_block (W_seq (W_reg ?_)))))
    refine O_v rfl (R_index_pure (H130.sl 0 rfl) (n := o.over.length) rfl (j := (k : Int)) (oo := (o.oh.o + k * 2)) Tryz.underlying70 Tryz.sizeOf69 rfl rfl (by omega) (by omega) rfl ?_)
    refine O_v rfl (R_loadA (cs := [[(.int .i64 ((nth o.over k).T))], [(.int .i64 ((nth o.over k).R))]]) Tryz.isAgg69 Tryz.sizeOf69 rfl rfl ((Sl.elem (H130.sl 0 rfl) (i := k) (by omega) rfl).chunks 0 2 0 (o.oh.o + k * 2) _ rfl rfl rfl) ?_)
    refine O_v rfl (C_alloc H130 [[(.int .i64 0)], [(.int .i64 0)]] Tryz.zeroValue69 ?_)
    intro b132 w133 hb134 hx135 H136
    refine O_u (C_storeW H136 0 rfl (sub := [[(.int .i64 ((nth o.over k).T))], [(.int .i64 ((nth o.over k).R))]]) Tryz.sizeOf69 rfl rfl rfl rfl rfl ?_)
    intro w137 hg138 H139
    refine O_nil (Then_n (W_reg ?_))
    refine O_mv (v := (slV h125 acc)) rfl rfl ?_
    refine O_v rfl (R_loadA (cs := [[(.int .i64 ((nth o.over k).T))], [(.int .i64 ((nth o.over k).R))]]) Tryz.isAgg69 Tryz.sizeOf69 rfl rfl (H139.bx 0 rfl 0 2 0 0 _ rfl rfl rfl) ?_)
    refine O_v rfl (R_callL (vs := [(slV h125 acc), (aggOf (stampCh (nth o.over k)))]) cF105 rfl rfl ((stamp_put h125 acc (nth o.over k) w137 (H139.rowSl 1 rfl (fun _ => rfl)) (by have := good_lens hG; omega)).ret ?_))
    rintro _ w141 ⟨h140, rfl, hx142, ho143⟩
    have H144 := H139.addRow hx142 ho143
    refine O_as (v := (slV h140 (acc ++ atB (nth o.over k)))) rfl rfl ?_
    refine O_nil (Blk_n (Then_n (W_reg ?_)))
    refine O_v rfl (R_arith (a := (k : Int)) (b := 1) (r0 := (k : Int) + 1) (r := ((k + 1 : Nat) : Int)) rfl rfl rfl (wrapN _ (by omega)) ?_)
    refine O_mv (v := (.int .i64 ((k + 1 : Nat) : Int))) rfl rfl ?_
    refine O_nil (Then_n ?_)
    have H145 := H144.sub (List.Sublist.cons_cons _ (List.Sublist.cons _ (List.Sublist.cons _ (List.Sublist.cons_cons _ (List.Sublist.cons_cons _ (List.Sublist.cons_cons _ (List.Sublist.cons_cons _ (List.Sublist.cons_cons _ List.Sublist.slnil)))))))) (List.forall_mem_cons.2 ⟨List.mem_of_getElem? (i := 0) rfl, List.forall_mem_cons.2 ⟨List.mem_of_getElem? (i := 1) rfl, memN⟩⟩)
    refine ⟨_, ?_, (k + 1), (acc ++ atB (nth o.over k)), h140, rfl, (by omega), (overTo_succ ha (by omega)), (by have := atB_len (nth o.over k); simp only [List.length_append]; omega), _, envL_self ⟨rfl, rfl, rfl, rfl, rfl, trivial⟩, H145⟩
    omega
   ·have hc131 := (of_decide_eq_false hc131)
    refine W_exit (Then_x (Then_x (Blk_x (Then_n (W_seq (W_reg ?_))))))
    refine O_mv (v := (slV h125 acc)) rfl rfl (O_as (v := (slV h125 acc)) rfl rfl ?_)
    refine O_nil (Then_n (W_ret ?_))
    refine ret_1 (v := (slV h125 acc)) Tryz.results59 rfl ?_
    have hE : acc = b ++ putOpB o := (putOp_edit hG hK ha (by omega))
    refine ⟨h125, ?_, H130.gr, ?_⟩
    · exact congrArg (fun l => slV h125 l) hE
    · have hO := H130.retRow 0 rfl
      exact hE ▸ hO
theorem cF59 : callable Tryz.prog 59 = true := by kernel_rfl
set_option maxHeartbeats 2000000 in
theorem obj_PutChange (c : ChangeS) (w : World) (Sc_parents : Sl (Old w) idCh 32 c.ph c.parents w) (Sc_ops : Sl (Old w) opCh 41 c.oh c.ops w) (Dc_over : ∀ x ∈ c.ops, Sl (Old w) stampCh 2 x.oh x.over w) :
    Calls Tryz.prog 23 #[(aggOf (changeCh c))] w (Ret fun v w' => ∃ h0, v = .tuple #[slV h0 (putChangeB c), (.int .i64 (putChangeE c))] ∧ Ext w w' ∧ OwnS w.heap.size 5 1 encB h0 (putChangeB c) w') := by
 refine calls_W Tryz.func23 rfl Tryz.ntmps23 rfl ?_
 have H0 := Ctx.start w nob
 have H1 := H0.addSl _ Sc_parents (fun b hb => ⟨hb, fun _ ho => (nomatch ho)⟩)
 have LSc_parents := Sc_parents.len
 have H2 := H1.addSl _ Sc_ops (fun b hb => ⟨hb, fun _ ho => (nomatch ho)⟩)
 have LSc_ops := Sc_ops.len
 have H3 := H2.addImm' (deepI (Old w) stampCh 2 (fun x : OpS => x.oh) (fun x : OpS => x.over) c.ops) Dc_over (fun b hb => ⟨hb, fun _ ho => (nomatch ho)⟩)
 refine W_seq (W_reg ?_)
 refine O_v rfl (C_box H3 [[(slV c.ph c.parents)], [(.int .i64 c.time)], [(.int .i64 c.r)], [(slV c.oh c.ops)], (idCells c.tree), [(.string c.msg)]] rfl ?_)
 intro b4 w5 hb6 hx7 H8
 refine O_as (v := (.slice none 0 0)) rfl rfl (O_as (v := (.int .i64 0)) rfl rfl ?_)
 refine O_nil (Then_n (W_seq (W_seq (W_reg ?_))))
 refine O_v rfl (R_loadA (cs := [[(slV c.ph c.parents)], [(.int .i64 c.time)], [(.int .i64 c.r)], [(slV c.oh c.ops)], (idCells c.tree), [(.string c.msg)]]) Tryz.isAgg47 Tryz.sizeOf47 rfl rfl (H8.bx 0 rfl 0 6 0 0 _ rfl rfl rfl) ?_)
 refine O_v rfl (R_callL (vs := [(aggOf (changeCh c))]) cF58 rfl rfl ((obj_rightChange c w5 (H8.slOld 2 rfl) (H8.slOld 1 rfl) (H8.deepOld 0 rfl)).ret ?_))
 rintro _ w9 ⟨rfl, hx10⟩
 have H11 := H8.ext hx10
 refine O_v rfl (R_not rfl ?_)
 refine O_nil (Then_n ?_)
 refine W_cond rfl (fun hc12 => ?_) (fun hc12 => ?_)
 ·have hc12 : (changeOk c) = false := (notT hc12)
  refine W_seq (W_reg ?_)
  refine O_as (v := (.slice none 0 0)) rfl rfl (O_as (v := (.int .i64 1)) rfl rfl ?_)
  refine O_nil (Then_n (W_ret (Then_r ?_)))
  refine ret_2 (v := (.slice none 0 0)) (v' := (.int .i64 1)) Tryz.results23 rfl rfl ?_
  have H13 := H11.addNil 5 1 encB
  have hE : [] = putChangeB c := (putChange_f (by assumption)).1
  have hV : 1 = putChangeE c := (putChange_f (by assumption)).2
  refine ⟨nilH, ?_, H13.gr, ?_⟩
  · exact two_eq (fun l n => Value.tuple #[slV nilH l, Value.int .i64 n]) hE hV
  · have hO := H13.retRow 0 rfl
    exact hE ▸ hO
 ·have hc12 : (changeOk c) = true := (notF hc12)
  refine W_skip (Then_n (W_seq (W_reg ?_)))
  refine O_v rfl (C_buildSliceL H11 (enc := encB) (val := byteV) ([3] : List UInt8) Tryz.underlying22 Tryz.sizeOf5 Tryz.zeroValue5 rfl (by decide) (fun _ => rfl) (fun _ => rfl) rfl rfl (by decide) ?_)
  intro b14 w15 hb16 hx17 H18
  refine O_v rfl (R_fieldAddr (off := 0) (oo := 0) Tryz.underlying47 rfl rfl Tryz.sizeOf39 rfl rfl ?_)
  refine O_v rfl (R_load1 (v := (slV c.ph c.parents)) Tryz.isAgg39 rfl (H18.bx 1 rfl 0 1 0 0 _ rfl rfl rfl) ?_)
  refine O_v rfl (R_len_slice (a := c.ph.a) (n := c.parents.length) (c := c.ph.c) Tryz.underlying39 rfl ?_)
  refine O_v rfl (R_callL (vs := [(slV ⟨some ⟨b14, 0, none⟩, b14, 0, 1⟩ ([3] : List UInt8)), (.int .i64 (c.parents.length : Int))]) cF39 rfl rfl ((enc_Num ⟨some ⟨b14, 0, none⟩, b14, 0, 1⟩ ([3] : List UInt8) (c.parents.length : Int) w15 (H18.rowSl 0 rfl (fun _ => rfl)) (by simp only [List.length_cons, List.length_nil]; omega)).ret ?_))
  rintro _ w20 ⟨h19, rfl, hx21, ho22⟩
  have H23 := H18.addRow hx21 ho22
  refine O_as (v := (slV h19 (([3] : List UInt8) ++ numB (c.parents.length : Int)))) rfl rfl ?_
  refine O_nil (Then_n (W_seq (W_seq (W_reg ?_))))
  refine O_v rfl (R_fieldAddr (off := 0) (oo := 0) Tryz.underlying47 rfl rfl Tryz.sizeOf39 rfl rfl ?_)
  refine O_v rfl (R_load1 (v := (slV c.ph c.parents)) Tryz.isAgg39 rfl (H23.bx 2 rfl 0 1 0 0 _ rfl rfl rfl) ?_)
  refine O_v rfl (R_len_slice (a := c.ph.a) (n := c.parents.length) (c := c.ph.c) Tryz.underlying39 rfl ?_)
  refine O_mv (v := (.int .i64 0)) rfl rfl ?_
  refine O_nil (Then_n (W_block ?_))
  refine W_loop (fun m25 e26 w27 => ∃ (k : Nat), ∃ (acc : List UInt8), ∃ (h24 : SlH), m25 = c.parents.length - k ∧ (k ≤ c.parents.length) ∧ (acc = parTo c k) ∧ (acc.length ≤ 10 + 32 * k) ∧ (changeOk c = true) ∧ ∃ eb28, e26 = envL [(1, (.pointer (some ⟨b4, 0, none⟩))), (2, (.slice none 0 0)), (3, (.int .i64 0)), (4, (slV h24 acc)), (18, (slV c.ph c.parents)), (19, (.int .i64 (c.parents.length : Int))), (20, (.int .i64 (k : Int)))] eb28 ∧ Ctx w nob w27 [rowR 5 1 encB h24 acc, rowR 5 1 encB ⟨some ⟨b14, 0, none⟩, b14, 0, 1⟩ ([3] : List UInt8), boxR b4 47 [[(slV c.ph c.parents)], [(.int .i64 c.time)], [(.int .i64 c.r)], [(slV c.oh c.ops)], (idCells c.tree), [(.string c.msg)]]] [deepI (Old w) stampCh 2 (fun x : OpS => x.oh) (fun x : OpS => x.over) c.ops, slI (Old w) opCh 41 c.oh c.ops, slI (Old w) idCh 32 c.ph c.parents]) _ ⟨0, (([3] : List UInt8) ++ numB (c.parents.length : Int)), h19, rfl, (by omega), (parTo_zero c), (by have h1 := numB_len (c.parents.length : Int); simp only [List.length_append, List.length_cons, List.length_nil]; omega), (by assumption), _, envL_self ⟨rfl, rfl, rfl, rfl, rfl, rfl, rfl, trivial⟩, H23⟩ ?_
  rintro m25 _ w27 ⟨k, acc, h24, rfl, hk, ha, hal, hC, eb28, rfl, H29⟩
  refine W_seq (W_reg ?_)
  refine O_v rfl (R_cmp (a := (k : Int)) (b := (c.parents.length : Int)) (r := (decide ((k : Int) < (c.parents.length : Int)))) rfl rfl rfl ?_)
  refine O_nil (Then_n (W_seq ?_))
  refine W_cond rfl (fun hc30 => ?_) (fun hc30 => ?_)
  ·have hc30 := (of_decide_eq_true hc30)
   refine W_skip (Then_n (W_seq (W_block (W_seq (W_reg ?_)))))
   refine O_v rfl (R_index_pure (H29.sl 2 rfl) (n := c.parents.length) rfl (j := (k : Int)) (oo := (c.ph.o + k * 32)) Tryz.underlying39 Tryz.sizeOf45 rfl rfl (by omega) (by omega) rfl ?_)
   refine O_v rfl (R_loadA (cs := [(idCells (nth c.parents k))]) Tryz.isAgg45 Tryz.sizeOf45 rfl rfl ((Sl.elem (H29.sl 2 rfl) (i := k) (by omega) rfl).chunks 0 1 0 (c.ph.o + k * 32) _ rfl rfl rfl) ?_)
   refine O_v rfl (C_alloc H29 [(idCells zeroId)] Tryz.zeroValue45 ?_)
   intro b31 w32 hb33 hx34 H35
   refine O_u (C_storeW H35 0 rfl (sub := [(idCells (nth c.parents k))]) Tryz.sizeOf45 rfl rfl rfl rfl rfl ?_)
   intro w36 hg37 H38
   refine O_nil (Then_n (W_reg ?_))
   refine O_mv (v := (slV h24 acc)) rfl rfl ?_
   refine O_v rfl (R_loadA (cs := [(idCells (nth c.parents k))]) Tryz.isAgg45 Tryz.sizeOf45 rfl rfl (H38.bx 0 rfl 0 1 0 0 _ rfl rfl rfl) ?_)
   refine O_v rfl (R_callL (vs := [(slV h24 acc), (aggOf (idCh (nth c.parents k)))]) cF40 rfl rfl ((enc_Id h24 acc (nth c.parents k) w36 (H38.rowSl 1 rfl (fun _ => rfl)) (by have := change_lens hC; omega)).ret ?_))
   rintro _ w40 ⟨h39, rfl, hx41, ho42⟩
   have H43 := H38.addRow hx41 ho42
   refine O_as (v := (slV h39 (acc ++ idList (nth c.parents k)))) rfl rfl ?_
   refine O_nil (Blk_n (Then_n (W_reg ?_)))
   refine O_v rfl (R_arith (a := (k : Int)) (b := 1) (r0 := (k : Int) + 1) (r := ((k + 1 : Nat) : Int)) rfl rfl rfl (wrapN _ (by omega)) ?_)
   refine O_mv (v := (.int .i64 ((k + 1 : Nat) : Int))) rfl rfl ?_
   refine O_nil (Then_n ?_)
   have H44 := H43.sub (List.Sublist.cons_cons _ (List.Sublist.cons _ (List.Sublist.cons _ (List.Sublist.cons_cons _ (List.Sublist.cons_cons _ List.Sublist.slnil))))) (List.forall_mem_cons.2 ⟨List.mem_of_getElem? (i := 0) rfl, List.forall_mem_cons.2 ⟨List.mem_of_getElem? (i := 1) rfl, List.forall_mem_cons.2 ⟨List.mem_of_getElem? (i := 2) rfl, memN⟩⟩⟩)
   refine ⟨_, ?_, (k + 1), (acc ++ idList (nth c.parents k)), h39, rfl, (by omega), (parTo_succ ha (by omega)), (by simp only [List.length_append, idList_len]; omega), hC, _, envL_self ⟨rfl, rfl, rfl, rfl, rfl, rfl, rfl, trivial⟩, H44⟩
   omega
  ·have hc30 := (of_decide_eq_false hc30)
   refine W_exit (Then_x (Then_x (Blk_x (Then_n (W_seq ?_)))))
   refine W_rgd TryzMixed [(0, .q 0), (1, .q 0), (2, .q 0), (4, .q 0), (5, .q 0), (7, .q 0), (8, .q 0), (9, .q 0), (3, .c 0), (6, .c 0), (10, .c 0), (11, .q 0)] (by kernel_rfl) ?_
   refine Lx_mv (v := (slV h24 acc)) rfl rfl rfl (Lx_q rfl rfl _ (fun v47 hv48 => R_fieldAddr (off := 1) (oo := 1) Tryz.underlying47 rfl rfl Tryz.sizeOf2 rfl rfl qk) (Lx_q rfl rfl _ (fun v49 hv50 => R_load1 (v := (.int .i64 c.time)) Tryz.isAgg2 rfl ((H29.ext hv50).bx 2 rfl 1 1 1 1 _ rfl rfl rfl) qk) (Lx_q rfl rfl _ (fun v51 hv52 => R_fieldAddr (off := 2) (oo := 2) Tryz.underlying47 rfl rfl Tryz.sizeOf3 rfl rfl qk) ?_)))
   refine Lx_q rfl rfl _ (fun v53 hv54 => R_load1 (v := (.int .i64 c.r)) Tryz.isAgg3 rfl ((H29.ext hv54).bx 2 rfl 2 1 2 2 _ rfl rfl rfl) qk) (Lx_q rfl rfl _ (fun v55 hv56 => R_fieldAddr (off := 3) (oo := 3) Tryz.underlying47 rfl rfl Tryz.sizeOf43 rfl rfl qk) (Lx_q rfl rfl _ (fun v57 hv58 => R_load1 (v := (slV c.oh c.ops)) Tryz.isAgg43 rfl ((H29.ext hv58).bx 2 rfl 3 1 3 3 _ rfl rfl rfl) qk) (Lx_q rfl rfl _ (fun v59 hv60 => R_len_slice (a := c.oh.a) (n := c.ops.length) (c := c.oh.c) Tryz.underlying43 rfl qk) ?_)))
   refine Lx_c rfl rfl (fun w61 hw62 => ?_)
   have H63 := H29.ext hw62
   refine (R_callL (vs := [(slV h24 acc), (.int .i64 c.time)]) cF39 rfl rfl ((enc_Num h24 acc c.time w61 (H63.rowSl 0 rfl (fun _ => rfl)) (by have h1 := numB_len (c.parents.length : Int); have h2 := numB_len c.time; have h3 := numB_len c.r; have h4 := numB_len (c.ops.length : Int); have h5 := change_lens hC; (try simp only [List.length_append, List.length_cons, List.length_nil, idList_len]); omega)).ret ?_))
   rintro _ w65 ⟨h64, rfl, hx66, ho67⟩
   have H68 := H63.addRow hx66 ho67
   refine ⟨GrF.ofExt hx66, ?_⟩
   refine Lx_c rfl rfl (fun w69 hw70 => ?_)
   have H71 := H68.ext hw70
   refine (R_callL (vs := [(slV h64 (acc ++ numB c.time)), (.int .i64 c.r)]) cF39 rfl rfl ((enc_Num h64 (acc ++ numB c.time) c.r w69 (H71.rowSl 0 rfl (fun _ => rfl)) (by have h1 := numB_len (c.parents.length : Int); have h2 := numB_len c.time; have h3 := numB_len c.r; have h4 := numB_len (c.ops.length : Int); have h5 := change_lens hC; (try simp only [List.length_append, List.length_cons, List.length_nil, idList_len]); omega)).ret ?_))
   rintro _ w73 ⟨h72, rfl, hx74, ho75⟩
   have H76 := H71.addRow hx74 ho75
   refine ⟨GrF.ofExt hx74, ?_⟩
   refine Lx_c rfl rfl (fun w77 hw78 => ?_)
   have H79 := H76.ext hw78
   refine (R_callL (vs := [(slV h72 ((acc ++ numB c.time) ++ numB c.r)), (.int .i64 (c.ops.length : Int))]) cF39 rfl rfl ((enc_Num h72 ((acc ++ numB c.time) ++ numB c.r) (c.ops.length : Int) w77 (H79.rowSl 0 rfl (fun _ => rfl)) (by have h1 := numB_len (c.parents.length : Int); have h2 := numB_len c.time; have h3 := numB_len c.r; have h4 := numB_len (c.ops.length : Int); have h5 := change_lens hC; (try simp only [List.length_append, List.length_cons, List.length_nil, idList_len]); omega)).ret ?_))
   rintro _ w81 ⟨h80, rfl, hx82, ho83⟩
   have H84 := H79.addRow hx82 ho83
   refine ⟨GrF.ofExt hx82, ?_⟩
   refine Lx_q rfl rfl _ (fun v85 hv86 => R_assign (v := (slV h80 (((acc ++ numB c.time) ++ numB c.r) ++ numB (c.ops.length : Int)))) rfl qk) ?_
   refine Lx_nil (fun w87 hw88 => ?_)
   have H89 := H84.ext hw88
   refine Then_n (W_seq (W_seq (W_reg ?_)))
   refine O_v rfl (R_fieldAddr (off := 3) (oo := 3) Tryz.underlying47 rfl rfl Tryz.sizeOf43 rfl rfl ?_)
   refine O_v rfl (R_load1 (v := (slV c.oh c.ops)) Tryz.isAgg43 rfl (H89.bx 5 rfl 3 1 3 3 _ rfl rfl rfl) ?_)
   refine O_v rfl (R_len_slice (a := c.oh.a) (n := c.ops.length) (c := c.oh.c) Tryz.underlying43 rfl ?_)
   refine O_mv (v := (.int .i64 0)) rfl rfl ?_
   refine O_nil (Then_n (W_block ?_))
   refine W_loop (fun m91 e92 w93 => ∃ (j : Nat), ∃ (acc2 : List UInt8), ∃ (h90 : SlH), m91 = c.ops.length - j ∧ (j ≤ c.ops.length) ∧ (acc2 = opsTo c j) ∧ (acc2.length ≤ 200 + 1400 * j) ∧ ∃ eb94, e92 = envL [(1, (.pointer (some ⟨b4, 0, none⟩))), (2, (.slice none 0 0)), (3, (.int .i64 0)), (4, (slV h90 acc2)), (40, (slV c.oh c.ops)), (41, (.int .i64 (c.ops.length : Int))), (42, (.int .i64 (j : Int)))] eb94 ∧ Ctx w nob w93 [rowR 5 1 encB h90 acc2, rowR 5 1 encB h72 ((acc ++ numB c.time) ++ numB c.r), rowR 5 1 encB h64 (acc ++ numB c.time), rowR 5 1 encB h24 acc, rowR 5 1 encB ⟨some ⟨b14, 0, none⟩, b14, 0, 1⟩ ([3] : List UInt8), boxR b4 47 [[(slV c.ph c.parents)], [(.int .i64 c.time)], [(.int .i64 c.r)], [(slV c.oh c.ops)], (idCells c.tree), [(.string c.msg)]]] [deepI (Old w) stampCh 2 (fun x : OpS => x.oh) (fun x : OpS => x.over) c.ops, slI (Old w) opCh 41 c.oh c.ops, slI (Old w) idCh 32 c.ph c.parents]) _ ⟨0, (((acc ++ numB c.time) ++ numB c.r) ++ numB (c.ops.length : Int)), h80, rfl, (by omega), (opsTo_zero ha (by omega)), (by have h1 := numB_len (c.parents.length : Int); have h2 := numB_len c.time; have h3 := numB_len c.r; have h4 := numB_len (c.ops.length : Int); have h5 := change_lens hC; (try simp only [List.length_append, List.length_cons, List.length_nil, idList_len]); omega), _, envL_self ⟨rfl, rfl, rfl, rfl, rfl, rfl, rfl, trivial⟩, H89⟩ ?_
   rintro m91 _ w93 ⟨j, acc2, h90, rfl, hj, ha2, hal2, eb94, rfl, H95⟩
   refine W_seq (W_reg ?_)
   refine O_v rfl (R_cmp (a := (j : Int)) (b := (c.ops.length : Int)) (r := (decide ((j : Int) < (c.ops.length : Int)))) rfl rfl rfl ?_)
   refine O_nil (Then_n (W_seq ?_))
   refine W_cond rfl (fun hc96 => ?_) (fun hc96 => ?_)
   ·have hc96 := (of_decide_eq_true hc96)
    refine W_skip (Then_n (W_seq (W_block (W_seq (W_reg ?_)))))
    refine O_v rfl (R_index_pure (H95.sl 1 rfl) (n := c.ops.length) rfl (j := (j : Int)) (oo := (c.oh.o + j * 41)) Tryz.underlying43 Tryz.sizeOf72 rfl rfl (by omega) (by omega) rfl ?_)
    refine O_v rfl (R_loadA (cs := [[(.int .i64 ((nth c.ops j).kind))], [(.int .i64 (((nth c.ops j).tm).T))], [(.int .i64 (((nth c.ops j).tm).R))], [(.int .i64 (((nth c.ops j).node).T))], [(.int .i64 (((nth c.ops j).node).R))], [(.int .i64 (((nth c.ops j).par).T))], [(.int .i64 (((nth c.ops j).par).R))], [(.string ((nth c.ops j).name))], (idCells ((nth c.ops j).data)), [(slV ((nth c.ops j).oh) ((nth c.ops j).over))]]) Tryz.isAgg72 Tryz.sizeOf72 rfl rfl ((Sl.elem (H95.sl 1 rfl) (i := j) (by omega) rfl).chunks 0 10 0 (c.oh.o + j * 41) _ rfl rfl rfl) ?_)
    refine O_v rfl (C_alloc H95 [[(.int .i64 0)], [(.int .i64 0)], [(.int .i64 0)], [(.int .i64 0)], [(.int .i64 0)], [(.int .i64 0)], [(.int .i64 0)], [(.string ByteArray.empty)], (idCells zeroId), [(.slice none 0 0)]] Tryz.zeroValue72 ?_)
    intro b97 w98 hb99 hx100 H101
    refine O_u (C_storeW H101 0 rfl (sub := [[(.int .i64 ((nth c.ops j).kind))], [(.int .i64 (((nth c.ops j).tm).T))], [(.int .i64 (((nth c.ops j).tm).R))], [(.int .i64 (((nth c.ops j).node).T))], [(.int .i64 (((nth c.ops j).node).R))], [(.int .i64 (((nth c.ops j).par).T))], [(.int .i64 (((nth c.ops j).par).R))], [(.string ((nth c.ops j).name))], (idCells ((nth c.ops j).data)), [(slV ((nth c.ops j).oh) ((nth c.ops j).over))]]) Tryz.sizeOf72 rfl rfl rfl rfl rfl ?_)
    intro w102 hg103 H104
    refine O_nil (Then_n (W_reg ?_))
    refine O_mv (v := (slV h90 acc2)) rfl rfl ?_
    refine O_v rfl (R_loadA (cs := [[(.int .i64 ((nth c.ops j).kind))], [(.int .i64 (((nth c.ops j).tm).T))], [(.int .i64 (((nth c.ops j).tm).R))], [(.int .i64 (((nth c.ops j).node).T))], [(.int .i64 (((nth c.ops j).node).R))], [(.int .i64 (((nth c.ops j).par).T))], [(.int .i64 (((nth c.ops j).par).R))], [(.string ((nth c.ops j).name))], (idCells ((nth c.ops j).data)), [(slV ((nth c.ops j).oh) ((nth c.ops j).over))]]) Tryz.isAgg72 Tryz.sizeOf72 rfl rfl (H104.bx 0 rfl 0 10 0 0 _ rfl rfl rfl) ?_)
    refine O_v rfl (R_callL (vs := [(slV h90 acc2), (aggOf (opCh (nth c.ops j)))]) cF59 rfl rfl ((stamp_Put h90 acc2 (nth c.ops j) w102 (H104.rowSl 1 rfl (fun _ => rfl)) (H104.deepOld 0 rfl _ (nth_mem (by omega))) (by have := change_lens hC; omega)).ret ?_))
    rintro _ w106 ⟨h105, rfl, hx107, ho108⟩
    have H109 := H104.addRow hx107 ho108
    refine O_as (v := (slV h105 (acc2 ++ putOpB (nth c.ops j)))) rfl rfl ?_
    refine O_nil (Blk_n (Then_n (W_reg ?_)))
    refine O_v rfl (R_arith (a := (j : Int)) (b := 1) (r0 := (j : Int) + 1) (r := ((j + 1 : Nat) : Int)) rfl rfl rfl (wrapN _ (by omega)) ?_)
    refine O_mv (v := (.int .i64 ((j + 1 : Nat) : Int))) rfl rfl ?_
    refine O_nil (Then_n ?_)
    have H110 := H109.sub (List.Sublist.cons_cons _ (List.Sublist.cons _ (List.Sublist.cons _ (List.Sublist.cons_cons _ (List.Sublist.cons_cons _ (List.Sublist.cons_cons _ (List.Sublist.cons_cons _ (List.Sublist.cons_cons _ List.Sublist.slnil)))))))) (List.forall_mem_cons.2 ⟨List.mem_of_getElem? (i := 0) rfl, List.forall_mem_cons.2 ⟨List.mem_of_getElem? (i := 1) rfl, List.forall_mem_cons.2 ⟨List.mem_of_getElem? (i := 2) rfl, memN⟩⟩⟩)
    refine ⟨_, ?_, (j + 1), (acc2 ++ putOpB (nth c.ops j)), h105, rfl, (by omega), (opsTo_succ ha2 (by omega)), (by have := putOpB_len (nth c.ops j); simp only [List.length_append]; omega), _, envL_self ⟨rfl, rfl, rfl, rfl, rfl, rfl, rfl, trivial⟩, H110⟩
    omega
   ·have hc96 := (of_decide_eq_false hc96)
    refine W_exit (Then_x (Then_x (Blk_x (Then_n (W_seq ?_)))))
    refine W_rgd TryzMixed [(0, .q 0), (1, .q 0), (2, .q 0), (4, .q 0), (5, .q 0), (3, .c 0), (6, .c 0), (7, .q 0), (8, .q 0)] (by kernel_rfl) ?_
    refine Lx_mv (v := (slV h90 acc2)) rfl rfl rfl (Lx_q rfl rfl _ (fun v113 hv114 => R_fieldAddr (off := 4) (oo := 4) Tryz.underlying47 rfl rfl Tryz.sizeOf45 rfl rfl qk) (Lx_q rfl rfl _ (fun v115 hv116 => R_loadA (cs := [(idCells c.tree)]) Tryz.isAgg45 Tryz.sizeOf45 rfl rfl ((H95.ext hv116).bx 5 rfl 4 1 4 4 _ rfl rfl rfl) qk) (Lx_q rfl rfl _ (fun v117 hv118 => R_fieldAddr (off := 36) (oo := 36) Tryz.underlying47 rfl rfl Tryz.sizeOf9 rfl rfl qk) ?_)))
    refine Lx_q rfl rfl _ (fun v119 hv120 => R_load1 (v := (.string c.msg)) Tryz.isAgg9 rfl ((H95.ext hv120).bx 5 rfl 5 1 36 36 _ rfl rfl rfl) qk) ?_
    refine Lx_c rfl rfl (fun w121 hw122 => ?_)
    have H123 := H95.ext hw122
    refine (R_callL (vs := [(slV h90 acc2), (aggOf (idCh c.tree))]) cF40 rfl rfl ((enc_Id h90 acc2 c.tree w121 (H123.rowSl 0 rfl (fun _ => rfl)) (by have := change_lens hC; omega)).ret ?_))
    rintro _ w125 ⟨h124, rfl, hx126, ho127⟩
    have H128 := H123.addRow hx126 ho127
    refine ⟨GrF.ofExt hx126, ?_⟩
    refine Lx_c rfl rfl (fun w129 hw130 => ?_)
    have H131 := H128.ext hw130
    refine (R_callL (vs := [(slV h124 (acc2 ++ idList c.tree)), (.string c.msg)]) cF41 rfl rfl ((enc_Text h124 (acc2 ++ idList c.tree) c.msg w129 (H131.rowSl 0 rfl (fun _ => rfl)) (by have := change_lens hC; simp only [List.length_append, idList_len]; omega)).ret ?_))
    rintro _ w133 ⟨h132, rfl, hx134, ho135⟩
    have H136 := H131.addRow hx134 ho135
    refine ⟨GrF.ofExt hx134, ?_⟩
    refine Lx_q rfl rfl _ (fun v137 hv138 => R_assign (v := (slV h132 ((acc2 ++ idList c.tree) ++ textB c.msg))) rfl qk) (Lx_q rfl rfl _ (fun v139 hv140 => R_assign (v := (.int .i64 0)) rfl qk) ?_)
    refine Lx_nil (fun w141 hw142 => ?_)
    have H143 := H136.ext hw142
    refine Then_n (W_ret ?_)
    refine ret_2 (v := (slV h132 ((acc2 ++ idList c.tree) ++ textB c.msg))) (v' := (.int .i64 0)) Tryz.results23 rfl rfl ?_
    have hE : (acc2 ++ idList c.tree) ++ textB c.msg = putChangeB c := (putChange_t hC ha2 (by omega)).1
    have hV : 0 = putChangeE c := (putChange_t hC ha2 (by omega)).2
    refine ⟨h132, ?_, H143.gr, ?_⟩
    · exact two_eq (fun l n => Value.tuple #[slV h132 l, Value.int .i64 n]) hE hV
    · have hO := H143.retRow 0 rfl
      exact hE ▸ hO
end Go.Proofs.YthjdhfoeckfmbaaGreat
namespace Go.Proofs.YthjdhfoeckfmbaaGreat
open Go
set_option maxRecDepth 100000
set_option linter.unusedVariables false
set_option linter.unusedSimpArgs false
set_option linter.unusedSectionVars false
variable [DD]
set_option maxHeartbeats 1000000 in
theorem obj_at (hb : SlH) (b : List UInt8) (s : Stamp) (w : World) (Sb : Sl (Old w) encB 1 hb b w) (hl : b.length ≤ 35184372088832) :
    Calls Tryz.prog 42 #[(slV hb b), (aggOf (stampCh s))] w (Ret fun v w' => ∃ h, v = slV h (b ++ atB s) ∧ Ext w w' ∧ OwnS w.heap.size 5 1 encB h (b ++ atB s) w') := by
 refine calls_W Tryz.func42 rfl Tryz.ntmps42 rfl ?_
 have H0 := Ctx.start w nob
 have H1 := H0.addSl _ Sb (fun b hb => ⟨hb, fun _ ho => (nomatch ho)⟩)
 have LSb := Sb.len
 refine W_seq (W_reg ?_)
 refine O_v rfl (C_box H1 [[(.int .i64 s.T)], [(.int .i64 s.R)]] rfl ?_)
 intro b2 w3 hb4 hx5 H6
 refine O_as (v := (.slice none 0 0)) rfl rfl ?_
 refine O_nil (Then_n (W_seq ?_))
 refine W_rgd TryzMixed [(0, .q 0), (1, .q 0), (2, .q 0), (4, .q 0), (5, .q 0), (3, .c 0), (6, .c 0), (7, .q 0)] (by kernel_rfl) ?_
 refine Lx_mv (v := (slV hb b)) rfl rfl rfl (Lx_q rfl rfl _ (fun v9 hv10 => R_fieldAddr (off := 0) (oo := 0) Tryz.underlying69 rfl rfl Tryz.sizeOf2 rfl rfl qk) (Lx_q rfl rfl _ (fun v11 hv12 => R_load1 (v := (.int .i64 s.T)) Tryz.isAgg2 rfl ((H6.ext hv12).bx 0 rfl 0 1 0 0 _ rfl rfl rfl) qk) (Lx_q rfl rfl _ (fun v13 hv14 => R_fieldAddr (off := 1) (oo := 1) Tryz.underlying69 rfl rfl Tryz.sizeOf3 rfl rfl qk) ?_)))
 refine Lx_q rfl rfl _ (fun v15 hv16 => R_load1 (v := (.int .i64 s.R)) Tryz.isAgg3 rfl ((H6.ext hv16).bx 0 rfl 1 1 1 1 _ rfl rfl rfl) qk) ?_
 refine Lx_c rfl rfl (fun w17 hw18 => ?_)
 have H19 := H6.ext hw18
 refine (R_callL (vs := [(slV hb b), (.int .i64 s.T)]) cF39 rfl rfl ((enc_Num hb b s.T w17 (H19.slOld 0 rfl) (by omega)).ret ?_))
 rintro _ w21 ⟨h20, rfl, hx22, ho23⟩
 have H24 := H19.addRow hx22 ho23
 refine ⟨GrF.ofExt hx22, ?_⟩
 refine Lx_c rfl rfl (fun w25 hw26 => ?_)
 have H27 := H24.ext hw26
 refine (R_callL (vs := [(slV h20 (b ++ numB s.T)), (.int .i64 s.R)]) cF39 rfl rfl ((enc_Num h20 (b ++ numB s.T) s.R w25 (H27.rowSl 0 rfl (fun _ => rfl)) (by have := numB_len s.T; simp only [List.length_append]; omega)).ret ?_))
 rintro _ w29 ⟨h28, rfl, hx30, ho31⟩
 have H32 := H27.addRow hx30 ho31
 refine ⟨GrF.ofExt hx30, ?_⟩
 refine Lx_q rfl rfl _ (fun v33 hv34 => R_assign (v := (slV h28 ((b ++ numB s.T) ++ numB s.R))) rfl qk) ?_
 refine Lx_nil (fun w35 hw36 => ?_)
 have H37 := H32.ext hw36
 refine Then_n (W_ret ?_)
 refine ret_1 (v := (slV h28 ((b ++ numB s.T) ++ numB s.R))) Tryz.results42 rfl ?_
 have hE : (b ++ numB s.T) ++ numB s.R = b ++ atB s := (List.append_assoc _ _ _)
 refine ⟨h28, ?_, H37.gr, ?_⟩
 · exact congrArg (fun l => slV h28 l) hE
 · have hO := H37.retRow 0 rfl
   exact hE ▸ hO
end Go.Proofs.YthjdhfoeckfmbaaGreat
namespace Go.Proofs.YthjdhfoeckfmbaaGreat
open Go
set_option maxRecDepth 100000
set_option linter.unusedVariables false
set_option linter.unusedSimpArgs false
set_option linter.unusedSectionVars false
theorem cF42 : callable Tryz.prog 42 = true := by kernel_rfl
set_option maxHeartbeats 2000000 in
theorem obj_PutDir (hitems : SlH) (items : List ItemS) (w : World) (Sitems : Sl (Old w) itemCh 38 hitems items w) (Ditems_heads : ∀ x ∈ items, Sl (Old w) headCh 34 x.hh x.heads w) :
    Calls Tryz.prog 15 #[(slV hitems items)] w (Ret fun v w' => ∃ h0, v = .tuple #[slV h0 (putDirB items), (.int .i64 (putDirE items))] ∧ Ext w w' ∧ OwnS w.heap.size 5 1 encB h0 (putDirB items) w') := by
 refine calls_W Tryz.func15 rfl Tryz.ntmps15 rfl ?_
 have H0 := Ctx.start w nob
 have H1 := H0.addSl _ Sitems (fun b hb => ⟨hb, fun _ ho => (nomatch ho)⟩)
 have LSitems := Sitems.len
 have H2 := H1.addImm' (deepI (Old w) headCh 34 (fun x : ItemS => x.hh) (fun x : ItemS => x.heads) items) Ditems_heads (fun b hb => ⟨hb, fun _ ho => (nomatch ho)⟩)
 refine W_seq (W_reg ?_)
 refine O_as (v := (.slice none 0 0)) rfl rfl (O_as (v := (.int .i64 0)) rfl rfl ?_)
 refine O_nil (Then_n (W_seq (W_seq (W_reg ?_))))
 refine O_mv (v := (slV hitems items)) rfl rfl ?_
 refine O_v rfl (R_callL (vs := [(slV hitems items)]) cF38 rfl rfl ((obj_rightDir hitems items w (H2.slOld 1 rfl) (H2.deepOld 0 rfl)).ret ?_))
 rintro _ w3 ⟨rfl, hx4⟩
 have H5 := H2.ext hx4
 refine O_v rfl (R_not rfl ?_)
 refine O_nil (Then_n ?_)
 refine W_cond rfl (fun hc6 => ?_) (fun hc6 => ?_)
 ·have hc6 : (dirOk items) = false := (notT hc6)
  refine W_seq (W_reg ?_)
  refine O_as (v := (.slice none 0 0)) rfl rfl (O_as (v := (.int .i64 1)) rfl rfl ?_)
  refine O_nil (Then_n (W_ret (Then_r ?_)))
  refine ret_2 (v := (.slice none 0 0)) (v' := (.int .i64 1)) Tryz.results15 rfl rfl ?_
  have H7 := H5.addNil 5 1 encB
  have hE : [] = putDirB items := (putDir_no (by assumption)).1
  have hV : 1 = putDirE items := (putDir_no (by assumption)).2
  refine ⟨nilH, ?_, H7.gr, ?_⟩
  · exact two_eq (fun l n => Value.tuple #[slV nilH l, Value.int .i64 n]) hE hV
  · have hO := H7.retRow 0 rfl
    exact hE ▸ hO
 ·have hc6 : (dirOk items) = true := (notF hc6)
  refine W_skip (Then_n (W_seq (W_reg ?_)))
  refine O_v rfl (C_buildSliceL H5 (enc := encB) (val := byteV) ([2] : List UInt8) Tryz.underlying22 Tryz.sizeOf5 Tryz.zeroValue5 rfl (by decide) (fun _ => rfl) (fun _ => rfl) rfl rfl (by decide) ?_)
  intro b8 w9 hb10 hx11 H12
  refine O_mv (v := (slV hitems items)) rfl rfl ?_
  refine O_v rfl (R_len_slice (a := hitems.a) (n := items.length) (c := hitems.c) Tryz.underlying31 rfl ?_)
  refine O_v rfl (R_callL (vs := [(slV ⟨some ⟨b8, 0, none⟩, b8, 0, 1⟩ ([2] : List UInt8)), (.int .i64 (items.length : Int))]) cF39 rfl rfl ((enc_Num ⟨some ⟨b8, 0, none⟩, b8, 0, 1⟩ ([2] : List UInt8) (items.length : Int) w9 (H12.rowSl 0 rfl (fun _ => rfl)) (by decide)).ret ?_))
  rintro _ w14 ⟨h13, rfl, hx15, ho16⟩
  have H17 := H12.addRow hx15 ho16
  refine O_as (v := (slV h13 (([2] : List UInt8) ++ numB (items.length : Int)))) rfl rfl ?_
  refine O_nil (Then_n (W_seq (W_seq (W_reg ?_))))
  refine O_mv (v := (slV hitems items)) rfl rfl ?_
  refine O_v rfl (R_len_slice (a := hitems.a) (n := items.length) (c := hitems.c) Tryz.underlying31 rfl ?_)
  refine O_mv (v := (.int .i64 0)) rfl rfl ?_
  refine O_nil (Then_n (W_block ?_))
  refine W_loop (fun m19 e20 w21 => ∃ (k : Nat), ∃ (acc : List UInt8), ∃ (h18 : SlH), m19 = items.length - k ∧ (k ≤ items.length) ∧ (acc = dirTo items k) ∧ (acc.length ≤ 10 + k * 51000) ∧ (dirOk items = true) ∧ ∃ eb22, e20 = envL [(2, (.slice none 0 0)), (3, (.int .i64 0)), (4, (slV h18 acc)), (16, (slV hitems items)), (17, (.int .i64 (items.length : Int))), (18, (.int .i64 (k : Int)))] eb22 ∧ Ctx w nob w21 [rowR 5 1 encB h18 acc, rowR 5 1 encB ⟨some ⟨b8, 0, none⟩, b8, 0, 1⟩ ([2] : List UInt8)] [deepI (Old w) headCh 34 (fun x : ItemS => x.hh) (fun x : ItemS => x.heads) items, slI (Old w) itemCh 38 hitems items]) _ ⟨0, (([2] : List UInt8) ++ numB (items.length : Int)), h13, rfl, (by omega), (dirTo_zero items), (by have := numB_len (items.length : Nat); simp only [List.length_append, List.length_cons, List.length_nil]; omega), (by assumption), _, envL_self ⟨rfl, rfl, rfl, rfl, rfl, rfl, trivial⟩, H17⟩ ?_
  rintro m19 _ w21 ⟨k, acc, h18, rfl, hk, ha, hal, hD, eb22, rfl, H23⟩
  refine W_seq (W_reg ?_)
  refine O_v rfl (R_cmp (a := (k : Int)) (b := (items.length : Int)) (r := (decide ((k : Int) < (items.length : Int)))) rfl rfl rfl ?_)
  refine O_nil (Then_n (W_seq ?_))
  refine W_cond rfl (fun hc24 => ?_) (fun hc24 => ?_)
  ·have hc24 := (of_decide_eq_true hc24)
   refine W_skip (Then_n (W_seq (W_block (W_seq (W_reg ?_)))))
   refine O_v rfl (R_index_pure (H23.sl 1 rfl) (n := items.length) rfl (j := (k : Int)) (oo := (hitems.o + k * 38)) Tryz.underlying31 Tryz.sizeOf77 rfl rfl (by omega) (by omega) rfl ?_)
   refine O_v rfl (R_loadA (cs := [[(.int .i64 (((nth items k).node).T))], [(.int .i64 (((nth items k).node).R))], [(.int .i64 (((nth items k).tm).T))], [(.int .i64 (((nth items k).tm).R))], [(.string ((nth items k).name))], (idCells ((nth items k).sub)), [(slV ((nth items k).hh) ((nth items k).heads))]]) Tryz.isAgg77 Tryz.sizeOf77 rfl rfl ((Sl.elem (H23.sl 1 rfl) (i := k) (by omega) rfl).chunks 0 7 0 (hitems.o + k * 38) _ rfl rfl rfl) ?_)
   refine O_v rfl (C_alloc H23 [[(.int .i64 0)], [(.int .i64 0)], [(.int .i64 0)], [(.int .i64 0)], [(.string ByteArray.empty)], (idCells zeroId), [(.slice none 0 0)]] Tryz.zeroValue77 ?_)
   intro b25 w26 hb27 hx28 H29
   refine O_u (C_storeW H29 0 rfl (sub := [[(.int .i64 (((nth items k).node).T))], [(.int .i64 (((nth items k).node).R))], [(.int .i64 (((nth items k).tm).T))], [(.int .i64 (((nth items k).tm).R))], [(.string ((nth items k).name))], (idCells ((nth items k).sub)), [(slV ((nth items k).hh) ((nth items k).heads))]]) Tryz.sizeOf77 rfl rfl rfl rfl rfl ?_)
   intro w30 hg31 H32
   refine O_nil (Then_n (W_seq ?_))
   refine W_rgdM TryzMixed nob (fun i => if i == 17 then 2 else 0) [(0, .q 2), (1, .q 2), (2, .q 0), (4, .q 2), (5, .q 0), (7, .q 2), (8, .q 0), (10, .q 2), (11, .q 0), (13, .q 2), (14, .q 0), (15, .q 2), (3, .c 0), (6, .c 0), (9, .c 0), (12, .c 0), (16, .c 0), (17, .c 2), (18, .q 2)] (by kernel_rfl) ?_
   refine Lx_mv (v := (slV h18 acc)) rfl rfl rfl (Lx_q rfl rfl _ (fun v35 hv36 => R_fieldAddr (off := 0) (oo := 0) Tryz.underlying77 rfl rfl Tryz.sizeOf69 rfl rfl qk) (Lx_q rfl rfl _ (fun v37 hv38 => R_loadA (cs := [[(.int .i64 (((nth items k).node).T))], [(.int .i64 (((nth items k).node).R))]]) Tryz.isAgg69 Tryz.sizeOf69 rfl rfl ((H32.ext hv38).bx 0 rfl 0 2 0 0 _ rfl rfl rfl) qk) (Lx_q rfl rfl _ (fun v39 hv40 => R_fieldAddr (off := 2) (oo := 2) Tryz.underlying77 rfl rfl Tryz.sizeOf69 rfl rfl qk) ?_)))
   refine Lx_q rfl rfl _ (fun v41 hv42 => R_loadA (cs := [[(.int .i64 (((nth items k).tm).T))], [(.int .i64 (((nth items k).tm).R))]]) Tryz.isAgg69 Tryz.sizeOf69 rfl rfl ((H32.ext hv42).bx 0 rfl 2 2 2 2 _ rfl rfl rfl) qk) (Lx_q rfl rfl _ (fun v43 hv44 => R_fieldAddr (off := 4) (oo := 4) Tryz.underlying77 rfl rfl Tryz.sizeOf9 rfl rfl qk) (Lx_q rfl rfl _ (fun v45 hv46 => R_load1 (v := (.string ((nth items k).name))) Tryz.isAgg9 rfl ((H32.ext hv46).bx 0 rfl 4 1 4 4 _ rfl rfl rfl) qk) (Lx_q rfl rfl _ (fun v47 hv48 => R_fieldAddr (off := 5) (oo := 5) Tryz.underlying77 rfl rfl Tryz.sizeOf45 rfl rfl qk) ?_)))
   refine Lx_q rfl rfl _ (fun v49 hv50 => R_loadA (cs := [(idCells ((nth items k).sub))]) Tryz.isAgg45 Tryz.sizeOf45 rfl rfl ((H32.ext hv50).bx 0 rfl 5 1 5 5 _ rfl rfl rfl) qk) (Lx_q rfl rfl _ (fun v51 hv52 => R_fieldAddr (off := 37) (oo := 37) Tryz.underlying77 rfl rfl Tryz.sizeOf75 rfl rfl qk) (Lx_q rfl rfl _ (fun v53 hv54 => R_load1 (v := (slV ((nth items k).hh) ((nth items k).heads))) Tryz.isAgg75 rfl ((H32.ext hv54).bx 0 rfl 6 1 37 37 _ rfl rfl rfl) qk) (Lx_q rfl rfl _ (fun v55 hv56 => R_len_slice (a := ((nth items k).hh).a) (n := ((nth items k).heads).length) (c := ((nth items k).hh).c) Tryz.underlying75 rfl qk) ?_)))
   refine Lx_c rfl rfl (fun w57 hw58 => ?_)
   have H59 := H32.ext hw58
   refine (R_callL (vs := [(.slice none 0 0), (aggOf (stampCh ((nth items k).node)))]) cF42 rfl rfl ((obj_at nilH [] ((nth items k).node) w57 (Sl.nil _ _ _ _) (by decide)).ret ?_))
   rintro _ w61 ⟨h60, rfl, hx62, ho63⟩
   have H64 := H59.addRow hx62 ho63
   refine ⟨GrF.ofExt hx62, ?_⟩
   refine Lx_c rfl rfl (fun w65 hw66 => ?_)
   have H67 := H64.ext hw66
   refine (R_callL (vs := [(slV h60 ([] ++ atB ((nth items k).node))), (aggOf (stampCh ((nth items k).tm)))]) cF42 rfl rfl ((obj_at h60 ([] ++ atB ((nth items k).node)) ((nth items k).tm) w65 (H67.rowSl 0 rfl (fun _ => rfl)) (by have h1 := atB_len (nth items k).node; have h2 := atB_len (nth items k).tm; have h3 := (dirOk_lens hD (show k < items.length by omega)); have h4 := textB_len (nth items k).name; have h5 := numB_len ((nth items k).heads.length : Nat); simp only [List.length_append, List.length_nil, idList_len]; omega)).ret ?_))
   rintro _ w69 ⟨h68, rfl, hx70, ho71⟩
   have H72 := H67.addRow hx70 ho71
   refine ⟨GrF.ofExt hx70, ?_⟩
   refine Lx_c rfl rfl (fun w73 hw74 => ?_)
   have H75 := H72.ext hw74
   refine (R_callL (vs := [(slV h68 (([] ++ atB ((nth items k).node)) ++ atB ((nth items k).tm))), (.string ((nth items k).name))]) cF41 rfl rfl ((enc_Text h68 (([] ++ atB ((nth items k).node)) ++ atB ((nth items k).tm)) ((nth items k).name) w73 (H75.rowSl 0 rfl (fun _ => rfl)) (by have h1 := atB_len (nth items k).node; have h2 := atB_len (nth items k).tm; have h3 := (dirOk_lens hD (show k < items.length by omega)); have h4 := textB_len (nth items k).name; have h5 := numB_len ((nth items k).heads.length : Nat); simp only [List.length_append, List.length_nil, idList_len]; omega)).ret ?_))
   rintro _ w77 ⟨h76, rfl, hx78, ho79⟩
   have H80 := H75.addRow hx78 ho79
   refine ⟨GrF.ofExt hx78, ?_⟩
   refine Lx_c rfl rfl (fun w81 hw82 => ?_)
   have H83 := H80.ext hw82
   refine (R_callL (vs := [(slV h76 ((([] ++ atB ((nth items k).node)) ++ atB ((nth items k).tm)) ++ textB ((nth items k).name))), (aggOf (idCh ((nth items k).sub)))]) cF40 rfl rfl ((enc_Id h76 ((([] ++ atB ((nth items k).node)) ++ atB ((nth items k).tm)) ++ textB ((nth items k).name)) ((nth items k).sub) w81 (H83.rowSl 0 rfl (fun _ => rfl)) (by have h1 := atB_len (nth items k).node; have h2 := atB_len (nth items k).tm; have h3 := (dirOk_lens hD (show k < items.length by omega)); have h4 := textB_len (nth items k).name; have h5 := numB_len ((nth items k).heads.length : Nat); simp only [List.length_append, List.length_nil, idList_len]; omega)).ret ?_))
   rintro _ w85 ⟨h84, rfl, hx86, ho87⟩
   have H88 := H83.addRow hx86 ho87
   refine ⟨GrF.ofExt hx86, ?_⟩
   refine Lx_c rfl rfl (fun w89 hw90 => ?_)
   have H91 := H88.ext hw90
   refine (R_callL (vs := [(slV h84 (((([] ++ atB ((nth items k).node)) ++ atB ((nth items k).tm)) ++ textB ((nth items k).name)) ++ idList ((nth items k).sub))), (.int .i64 ((((nth items k).heads).length : Nat) : Int))]) cF39 rfl rfl ((enc_Num h84 (((([] ++ atB ((nth items k).node)) ++ atB ((nth items k).tm)) ++ textB ((nth items k).name)) ++ idList ((nth items k).sub)) ((((nth items k).heads).length : Nat) : Int) w89 (H91.rowSl 0 rfl (fun _ => rfl)) (by have h1 := atB_len (nth items k).node; have h2 := atB_len (nth items k).tm; have h3 := (dirOk_lens hD (show k < items.length by omega)); have h4 := textB_len (nth items k).name; have h5 := numB_len ((nth items k).heads.length : Nat); simp only [List.length_append, List.length_nil, idList_len]; omega)).ret ?_))
   rintro _ w93 ⟨h92, rfl, hx94, ho95⟩
   have H96 := H91.addRow hx94 ho95
   refine ⟨GrF.ofExt hx94, ?_⟩
   refine Lx_c rfl rfl (fun w97 hw98 => ?_)
   have H99 := H96.ext hw98
   refine (C_append H99 6 rfl (bytes := 1) (l := acc) (ys := ((((([] ++ atB ((nth items k).node)) ++ atB ((nth items k).tm)) ++ textB ((nth items k).name)) ++ idList ((nth items k).sub)) ++ numB ((((nth items k).heads).length : Nat) : Int))) Tryz.underlying22 rfl rfl rfl rfl rfl (by decide) rfl rfl (OwnS.sl (H99.getOwn 0 rfl) (fun _ => rfl)) (fun _ => rfl) (fun _ => rfl) (by have h1 := atB_len (nth items k).node; have h2 := atB_len (nth items k).tm; have h3 := (dirOk_lens hD (show k < items.length by omega)); have h4 := textB_len (nth items k).name; have h5 := numB_len ((nth items k).heads.length : Nat); simp only [List.length_append, List.length_nil, idList_len]; omega) (by decide) ?_)
   intro h100 w101 hg102 H103
   refine ⟨Gr.mono (M' := fun _ => True) hg102 (fun _ _ => trivial), ?_⟩
   refine Lx_q rfl rfl _ (fun v104 hv105 => R_assign (v := (slV h100 (acc ++ ((((([] ++ atB ((nth items k).node)) ++ atB ((nth items k).tm)) ++ textB ((nth items k).name)) ++ idList ((nth items k).sub)) ++ numB ((((nth items k).heads).length : Nat) : Int))))) rfl qk) ?_
   refine Lx_nil (fun w106 hw107 => ?_)
   have H108 := H103.ext hw107
   refine Then_n (W_seq (W_reg ?_))
   refine O_v rfl (R_fieldAddr (off := 37) (oo := 37) Tryz.underlying77 rfl rfl Tryz.sizeOf75 rfl rfl ?_)
   refine O_v rfl (R_load1 (v := (slV ((nth items k).hh) ((nth items k).heads))) Tryz.isAgg75 rfl (H108.bx 5 rfl 6 1 37 37 _ rfl rfl rfl) ?_)
   refine O_v rfl (R_len_slice (a := ((nth items k).hh).a) (n := ((nth items k).heads).length) (c := ((nth items k).hh).c) Tryz.underlying75 rfl ?_)
   refine O_mv (v := (.int .i64 0)) rfl rfl ?_
   refine O_nil (Then_n (W_block ?_))
   refine W_loop (fun m110 e111 w112 => ∃ (j : Nat), ∃ (acc2 : List UInt8), ∃ (h109 : SlH), m110 = (nth items k).heads.length - j ∧ (j ≤ (nth items k).heads.length) ∧ (acc2 = acc ++ itemTo (nth items k) j) ∧ (acc2.length ≤ 10 + k * 51000 + 200 + j * 50) ∧ ((nth items k).heads.length ≤ 1000) ∧ (items.length ≤ 1000) ∧ ∃ eb113, e111 = envL [(2, (.slice none 0 0)), (3, (.int .i64 0)), (4, (slV h109 acc2)), (6, (.pointer (some ⟨b25, 0, none⟩))), (16, (slV hitems items)), (17, (.int .i64 (items.length : Int))), (18, (.int .i64 (k : Int))), (19, (.bool (decide ((k : Int) < (items.length : Int))))), (20, (.pointer (some ⟨hitems.b, (hitems.o + k * 38), none⟩))), (21, (aggOf (itemCh (nth items k)))), (22, (slV h18 acc)), (23, (.pointer (some ⟨b25, 0, none⟩))), (24, (aggOf (stampCh ((nth items k).node)))), (25, (slV h60 ([] ++ atB ((nth items k).node)))), (26, (.pointer (some ⟨b25, 2, none⟩))), (27, (aggOf (stampCh ((nth items k).tm)))), (28, (slV h68 (([] ++ atB ((nth items k).node)) ++ atB ((nth items k).tm)))), (29, (.pointer (some ⟨b25, 4, none⟩))), (30, (.string ((nth items k).name))), (31, (slV h76 ((([] ++ atB ((nth items k).node)) ++ atB ((nth items k).tm)) ++ textB ((nth items k).name)))), (32, (.pointer (some ⟨b25, 5, none⟩))), (33, (aggOf (idCh ((nth items k).sub)))), (34, (slV h84 (((([] ++ atB ((nth items k).node)) ++ atB ((nth items k).tm)) ++ textB ((nth items k).name)) ++ idList ((nth items k).sub)))), (35, (.pointer (some ⟨b25, 37, none⟩))), (36, (slV ((nth items k).hh) ((nth items k).heads))), (37, (.int .i64 ((((nth items k).heads).length : Nat) : Int))), (38, (slV h92 ((((([] ++ atB ((nth items k).node)) ++ atB ((nth items k).tm)) ++ textB ((nth items k).name)) ++ idList ((nth items k).sub)) ++ numB ((((nth items k).heads).length : Nat) : Int)))), (39, (slV h100 (acc ++ ((((([] ++ atB ((nth items k).node)) ++ atB ((nth items k).tm)) ++ textB ((nth items k).name)) ++ idList ((nth items k).sub)) ++ numB ((((nth items k).heads).length : Nat) : Int))))), (40, (.pointer (some ⟨b25, 37, none⟩))), (41, (slV ((nth items k).hh) ((nth items k).heads))), (42, (.int .i64 ((((nth items k).heads).length : Nat) : Int))), (43, (.int .i64 (j : Int)))] eb113 ∧ Ctx w nob w112 [rowR 5 1 encB h92 ((((([] ++ atB ((nth items k).node)) ++ atB ((nth items k).tm)) ++ textB ((nth items k).name)) ++ idList ((nth items k).sub)) ++ numB ((((nth items k).heads).length : Nat) : Int)), rowR 5 1 encB h84 (((([] ++ atB ((nth items k).node)) ++ atB ((nth items k).tm)) ++ textB ((nth items k).name)) ++ idList ((nth items k).sub)), rowR 5 1 encB h76 ((([] ++ atB ((nth items k).node)) ++ atB ((nth items k).tm)) ++ textB ((nth items k).name)), rowR 5 1 encB h68 (([] ++ atB ((nth items k).node)) ++ atB ((nth items k).tm)), rowR 5 1 encB h60 ([] ++ atB ((nth items k).node)), boxR b25 77 [[(.int .i64 (((nth items k).node).T))], [(.int .i64 (((nth items k).node).R))], [(.int .i64 (((nth items k).tm).T))], [(.int .i64 (((nth items k).tm).R))], [(.string ((nth items k).name))], (idCells ((nth items k).sub)), [(slV ((nth items k).hh) ((nth items k).heads))]], rowR 5 1 encB h109 acc2, rowR 5 1 encB ⟨some ⟨b8, 0, none⟩, b8, 0, 1⟩ ([2] : List UInt8)] [deepI (Old w) headCh 34 (fun x : ItemS => x.hh) (fun x : ItemS => x.heads) items, slI (Old w) itemCh 38 hitems items]) _ ⟨0, (acc ++ ((((([] ++ atB ((nth items k).node)) ++ atB ((nth items k).tm)) ++ textB ((nth items k).name)) ++ idList ((nth items k).sub)) ++ numB ((((nth items k).heads).length : Nat) : Int))), h100, rfl, (by omega), (item_start acc (nth items k)), (by have h1 := atB_len (nth items k).node; have h2 := atB_len (nth items k).tm; have h3 := (dirOk_lens hD (show k < items.length by omega)); have h4 := textB_len (nth items k).name; have h5 := numB_len ((nth items k).heads.length : Nat); simp only [List.length_append, List.length_nil, idList_len]; omega), (dirOk_lens hD (show k < items.length by omega)).2.1, (dirOk_lens hD (show k < items.length by omega)).2.2, _, envL_self ⟨rfl, rfl, rfl, rfl, rfl, rfl, rfl, rfl, rfl, rfl, rfl, rfl, rfl, rfl, rfl, rfl, rfl, rfl, rfl, rfl, rfl, rfl, rfl, rfl, rfl, rfl, rfl, rfl, rfl, rfl, rfl, rfl, trivial⟩, H108⟩ ?_
   rintro m110 _ w112 ⟨j, acc2, h109, rfl, hj, ha2, hal2, hx, hki, eb113, rfl, H114⟩
   refine W_seq (W_reg ?_)
   refine O_v rfl (R_cmp (a := (j : Int)) (b := ((((nth items k).heads).length : Nat) : Int)) (r := (decide ((j : Int) < ((((nth items k).heads).length : Nat) : Int)))) rfl rfl rfl ?_)
   refine O_nil (Then_n (W_seq ?_))
   refine W_cond rfl (fun hc115 => ?_) (fun hc115 => ?_)
   ·have hc115 := (of_decide_eq_true hc115)
    refine W_skip (Then_n (W_seq (W_block (W_seq (W_reg ?_)))))
    refine O_v rfl (R_index_pure (Sl.as ((nth items k).hh) ((nth items k).heads) ((H114.getImm 0 rfl) _ (nth_mem (by omega)))) (n := ((nth items k).heads).length) rfl (j := (j : Int)) (oo := (((nth items k).hh).o + j * 34)) Tryz.underlying75 Tryz.sizeOf84 rfl rfl (by omega) (by omega) rfl ?_)
    refine O_v rfl (R_loadA (cs := [[(.int .i64 (((nth ((nth items k).heads) j).tm).T))], [(.int .i64 (((nth ((nth items k).heads) j).tm).R))], (idCells ((nth ((nth items k).heads) j).data))]) Tryz.isAgg84 Tryz.sizeOf84 rfl rfl ((Sl.elem (Sl.as ((nth items k).hh) ((nth items k).heads) ((H114.getImm 0 rfl) _ (nth_mem (by omega)))) (i := j) (by omega) rfl).chunks 0 3 0 (((nth items k).hh).o + j * 34) _ rfl rfl rfl) ?_)
    refine O_v rfl (C_alloc H114 [[(.int .i64 0)], [(.int .i64 0)], (idCells zeroId)] Tryz.zeroValue84 ?_)
    intro b116 w117 hb118 hx119 H120
    refine O_u (C_storeW H120 0 rfl (sub := [[(.int .i64 (((nth ((nth items k).heads) j).tm).T))], [(.int .i64 (((nth ((nth items k).heads) j).tm).R))], (idCells ((nth ((nth items k).heads) j).data))]) Tryz.sizeOf84 rfl rfl rfl rfl rfl ?_)
    intro w121 hg122 H123
    refine O_nil (Then_n ?_)
    refine W_rgdM TryzMixed nob (fun i => if i == 7 then 2 else 0) [(0, .q 2), (1, .q 2), (2, .q 0), (4, .q 2), (5, .q 0), (3, .c 0), (6, .c 0), (7, .c 2), (8, .q 2)] (by kernel_rfl) ?_
    refine Lx_mv (v := (slV h109 acc2)) rfl rfl rfl (Lx_q rfl rfl _ (fun v126 hv127 => R_fieldAddr (off := 0) (oo := 0) Tryz.underlying84 rfl rfl Tryz.sizeOf69 rfl rfl qk) (Lx_q rfl rfl _ (fun v128 hv129 => R_loadA (cs := [[(.int .i64 (((nth ((nth items k).heads) j).tm).T))], [(.int .i64 (((nth ((nth items k).heads) j).tm).R))]]) Tryz.isAgg69 Tryz.sizeOf69 rfl rfl ((H123.ext hv129).bx 0 rfl 0 2 0 0 _ rfl rfl rfl) qk) (Lx_q rfl rfl _ (fun v130 hv131 => R_fieldAddr (off := 2) (oo := 2) Tryz.underlying84 rfl rfl Tryz.sizeOf45 rfl rfl qk) ?_)))
    refine Lx_q rfl rfl _ (fun v132 hv133 => R_loadA (cs := [(idCells ((nth ((nth items k).heads) j).data))]) Tryz.isAgg45 Tryz.sizeOf45 rfl rfl ((H123.ext hv133).bx 0 rfl 2 1 2 2 _ rfl rfl rfl) qk) ?_
    refine Lx_c rfl rfl (fun w134 hw135 => ?_)
    have H136 := H123.ext hw135
    refine (R_callL (vs := [(.slice none 0 0), (aggOf (stampCh ((nth ((nth items k).heads) j).tm)))]) cF42 rfl rfl ((obj_at nilH [] ((nth ((nth items k).heads) j).tm) w134 (Sl.nil _ _ _ _) (by decide)).ret ?_))
    rintro _ w138 ⟨h137, rfl, hx139, ho140⟩
    have H141 := H136.addRow hx139 ho140
    refine ⟨GrF.ofExt hx139, ?_⟩
    refine Lx_c rfl rfl (fun w142 hw143 => ?_)
    have H144 := H141.ext hw143
    refine (R_callL (vs := [(slV h137 ([] ++ atB ((nth ((nth items k).heads) j).tm))), (aggOf (idCh ((nth ((nth items k).heads) j).data)))]) cF40 rfl rfl ((enc_Id h137 ([] ++ atB ((nth ((nth items k).heads) j).tm)) ((nth ((nth items k).heads) j).data) w142 (H144.rowSl 0 rfl (fun _ => rfl)) (by have h1 := atB_len (nth (nth items k).heads j).tm; have h3 := (dirOk_lens hD (show k < items.length by omega)); simp only [List.length_append, List.length_nil, List.length_cons, idList_len]; omega)).ret ?_))
    rintro _ w146 ⟨h145, rfl, hx147, ho148⟩
    have H149 := H144.addRow hx147 ho148
    refine ⟨GrF.ofExt hx147, ?_⟩
    refine Lx_c rfl rfl (fun w150 hw151 => ?_)
    have H152 := H149.ext hw151
    refine (C_append H152 9 rfl (bytes := 1) (l := acc2) (ys := (([] ++ atB ((nth ((nth items k).heads) j).tm)) ++ idList ((nth ((nth items k).heads) j).data))) Tryz.underlying22 rfl rfl rfl rfl rfl (by decide) rfl rfl (OwnS.sl (H152.getOwn 0 rfl) (fun _ => rfl)) (fun _ => rfl) (fun _ => rfl) (by have h1 := atB_len (nth (nth items k).heads j).tm; have h3 := (dirOk_lens hD (show k < items.length by omega)); simp only [List.length_append, List.length_nil, List.length_cons, idList_len]; omega) (by decide) ?_)
    intro h153 w154 hg155 H156
    refine ⟨Gr.mono (M' := fun _ => True) hg155 (fun _ _ => trivial), ?_⟩
    refine Lx_q rfl rfl _ (fun v157 hv158 => R_assign (v := (slV h153 (acc2 ++ (([] ++ atB ((nth ((nth items k).heads) j).tm)) ++ idList ((nth ((nth items k).heads) j).data))))) rfl qk) ?_
    refine Lx_nil (fun w159 hw160 => ?_)
    have H161 := H156.ext hw160
    refine Blk_n (Then_n (W_reg ?_))
    refine O_v rfl (R_arith (a := (j : Int)) (b := 1) (r0 := (j : Int) + 1) (r := ((j + 1 : Nat) : Int)) rfl rfl rfl (wrapN _ (by omega)) ?_)
    refine O_mv (v := (.int .i64 ((j + 1 : Nat) : Int))) rfl rfl ?_
    refine O_nil (Then_n ?_)
    have H162 := H161.sub (List.Sublist.cons _ (List.Sublist.cons _ (List.Sublist.cons _ (List.Sublist.cons_cons _ (List.Sublist.cons_cons _ (List.Sublist.cons_cons _ (List.Sublist.cons_cons _ (List.Sublist.cons_cons _ (List.Sublist.cons_cons _ (List.Sublist.cons_cons _ (List.Sublist.cons_cons _ List.Sublist.slnil))))))))))) (List.forall_mem_cons.2 ⟨List.mem_of_getElem? (i := 0) rfl, List.forall_mem_cons.2 ⟨List.mem_of_getElem? (i := 1) rfl, memN⟩⟩)
    refine ⟨_, ?_, (j + 1), (acc2 ++ (([] ++ atB ((nth ((nth items k).heads) j).tm)) ++ idList ((nth ((nth items k).heads) j).data))), h153, rfl, (by omega), (head_step ha2 (by omega)), (by have h1 := atB_len (nth (nth items k).heads j).tm; have h3 := (dirOk_lens hD (show k < items.length by omega)); simp only [List.length_append, List.length_nil, List.length_cons, idList_len]; omega), (by omega), (by omega), _, envL_self ⟨rfl, rfl, rfl, rfl, rfl, rfl, rfl, rfl, rfl, rfl, rfl, rfl, rfl, rfl, rfl, rfl, rfl, rfl, rfl, rfl, rfl, rfl, rfl, rfl, rfl, rfl, rfl, rfl, rfl, rfl, rfl, rfl, trivial⟩, H162⟩
    omega
   ·have hc115 := (of_decide_eq_false hc115)
    refine W_exit (Then_x (Then_x (Blk_x (Blk_n (Then_n (W_reg ?_))))))
    refine O_v rfl (R_arith (a := (k : Int)) (b := 1) (r0 := (k : Int) + 1) (r := ((k + 1 : Nat) : Int)) rfl rfl rfl (wrapN _ (by omega)) ?_)
    refine O_mv (v := (.int .i64 ((k + 1 : Nat) : Int))) rfl rfl ?_
    refine O_nil (Then_n ?_)
    have H163 := H114.sub (List.Sublist.cons _ (List.Sublist.cons _ (List.Sublist.cons _ (List.Sublist.cons _ (List.Sublist.cons _ (List.Sublist.cons _ (List.Sublist.cons_cons _ (List.Sublist.cons_cons _ List.Sublist.slnil)))))))) (List.forall_mem_cons.2 ⟨List.mem_of_getElem? (i := 0) rfl, List.forall_mem_cons.2 ⟨List.mem_of_getElem? (i := 1) rfl, memN⟩⟩)
    refine ⟨_, ?_, (k + 1), acc2, h109, rfl, (by omega), (item_end ha ha2 (by omega) (by omega)), (by have := dirOk_lens hD (show k < items.length by omega); omega), hD, _, envL_self ⟨rfl, rfl, rfl, rfl, rfl, rfl, trivial⟩, H163⟩
    omega
  ·have hc24 := (of_decide_eq_false hc24)
   refine W_exit (Then_x (Then_x (Blk_x (Then_n (W_seq (W_reg ?_))))))
   refine O_mv (v := (slV h18 acc)) rfl rfl (O_as (v := (slV h18 acc)) rfl rfl (O_as (v := (.int .i64 0)) rfl rfl ?_))
   refine O_nil (Then_n (W_ret ?_))
   refine ret_2 (v := (slV h18 acc)) (v' := (.int .i64 0)) Tryz.results15 rfl rfl ?_
   have hE : acc = putDirB items := (dir_end ha hD (by omega)).1
   have hV : 0 = putDirE items := (dir_end ha hD (by omega)).2
   refine ⟨h18, ?_, H23.gr, ?_⟩
   · exact two_eq (fun l n => Value.tuple #[slV h18 l, Value.int .i64 n]) hE hV
   · have hO := H23.retRow 0 rfl
     exact hE ▸ hO
set_option maxHeartbeats 1000000 in
theorem obj_PutLabel (l : Label) (w : World) :
    Calls Tryz.prog 28 #[(aggOf (labelCh l))] w (Ret fun v w' => ∃ h0, v = .tuple #[slV h0 (putLabelB l), (.int .i64 (putLabelE l))] ∧ Ext w w' ∧ OwnS w.heap.size 5 1 encB h0 (putLabelB l) w') := by
 refine calls_W Tryz.func28 rfl Tryz.ntmps28 rfl ?_
 have H0 := Ctx.start w nob
 have hLn := textB_len l.name
 refine W_seq (W_reg ?_)
 refine O_v rfl (C_box H0 [(idCells l.target), [(.string l.name)], [(.string l.msg)]] rfl ?_)
 intro b1 w2 hb3 hx4 H5
 refine O_as (v := (.slice none 0 0)) rfl rfl (O_as (v := (.int .i64 0)) rfl rfl ?_)
 refine O_nil (Then_n (W_seq (W_seq (W_reg ?_))))
 refine O_v rfl (R_loadA (cs := [(idCells l.target), [(.string l.name)], [(.string l.msg)]]) Tryz.isAgg55 Tryz.sizeOf55 rfl rfl (H5.bx 0 rfl 0 3 0 0 _ rfl rfl rfl) ?_)
 refine O_v rfl (R_callL (vs := [(aggOf (labelCh l))]) cF70 rfl rfl ((obj_rightLabel l w2 ).ret ?_))
 rintro _ w6 ⟨rfl, hx7⟩
 have H8 := H5.ext hx7
 refine O_v rfl (R_not rfl ?_)
 refine O_nil (Then_n ?_)
 refine W_cond rfl (fun hc9 => ?_) (fun hc9 => ?_)
 ·have hc9 : (labelOk l) = false := (notT hc9)
  refine W_seq (W_reg ?_)
  refine O_as (v := (.slice none 0 0)) rfl rfl (O_as (v := (.int .i64 1)) rfl rfl ?_)
  refine O_nil (Then_n (W_ret (Then_r ?_)))
  refine ret_2 (v := (.slice none 0 0)) (v' := (.int .i64 1)) Tryz.results28 rfl rfl ?_
  have H10 := H8.addNil 5 1 encB
  have hE : [] = putLabelB l := (putLabel_f (by assumption)).1
  have hV : 1 = putLabelE l := (putLabel_f (by assumption)).2
  refine ⟨nilH, ?_, H10.gr, ?_⟩
  · exact two_eq (fun l n => Value.tuple #[slV nilH l, Value.int .i64 n]) hE hV
  · have hO := H10.retRow 0 rfl
    exact hE ▸ hO
 ·have hc9 : (labelOk l) = true := (notF hc9)
  refine W_skip (Then_n (W_seq ?_))
  refine W_rgd TryzMixed [(1, .q 0), (2, .q 0), (4, .q 0), (5, .q 0), (7, .q 0), (8, .q 0), (0, .c 0), (3, .c 0), (6, .c 0), (9, .c 0), (10, .q 0), (11, .q 0)] (by kernel_rfl) ?_
  refine Lx_q rfl rfl _ (fun v11 hv12 => R_fieldAddr (off := 0) (oo := 0) Tryz.underlying55 rfl rfl Tryz.sizeOf45 rfl rfl qk) (Lx_q rfl rfl _ (fun v13 hv14 => R_loadA (cs := [(idCells l.target)]) Tryz.isAgg45 Tryz.sizeOf45 rfl rfl ((H8.ext hv14).bx 0 rfl 0 1 0 0 _ rfl rfl rfl) qk) (Lx_q rfl rfl _ (fun v15 hv16 => R_fieldAddr (off := 32) (oo := 32) Tryz.underlying55 rfl rfl Tryz.sizeOf9 rfl rfl qk) (Lx_q rfl rfl _ (fun v17 hv18 => R_load1 (v := (.string l.name)) Tryz.isAgg9 rfl ((H8.ext hv18).bx 0 rfl 1 1 32 32 _ rfl rfl rfl) qk) ?_)))
  refine Lx_q rfl rfl _ (fun v19 hv20 => R_fieldAddr (off := 33) (oo := 33) Tryz.underlying55 rfl rfl Tryz.sizeOf9 rfl rfl qk) (Lx_q rfl rfl _ (fun v21 hv22 => R_load1 (v := (.string l.msg)) Tryz.isAgg9 rfl ((H8.ext hv22).bx 0 rfl 2 1 33 33 _ rfl rfl rfl) qk) ?_)
  refine Lx_c rfl rfl (fun w23 hw24 => ?_)
  have H25 := H8.ext hw24
  refine (C_buildSliceL H25 (enc := encB) (val := byteV) ([4] : List UInt8) Tryz.underlying22 Tryz.sizeOf5 Tryz.zeroValue5 rfl (by decide) (fun _ => rfl) (fun _ => rfl) rfl rfl (by decide) ?_)
  intro b26 w27 hb28 hx29 H30
  refine ⟨GrF.ofExt hx29, ?_⟩
  refine Lx_c rfl rfl (fun w31 hw32 => ?_)
  have H33 := H30.ext hw32
  refine (R_callL (vs := [(slV ⟨some ⟨b26, 0, none⟩, b26, 0, 1⟩ ([4] : List UInt8)), (aggOf (idCh l.target))]) cF40 rfl rfl ((enc_Id ⟨some ⟨b26, 0, none⟩, b26, 0, 1⟩ ([4] : List UInt8) l.target w31 (H33.rowSl 0 rfl (fun _ => rfl)) (by simp only [List.length_cons, List.length_nil]; omega)).ret ?_))
  rintro _ w35 ⟨h34, rfl, hx36, ho37⟩
  have H38 := H33.addRow hx36 ho37
  refine ⟨GrF.ofExt hx36, ?_⟩
  refine Lx_c rfl rfl (fun w39 hw40 => ?_)
  have H41 := H38.ext hw40
  refine (R_callL (vs := [(slV h34 (([4] : List UInt8) ++ idList l.target)), (.string l.name)]) cF41 rfl rfl ((enc_Text h34 (([4] : List UInt8) ++ idList l.target) l.name w39 (H41.rowSl 0 rfl (fun _ => rfl)) (label_h1 (by assumption))).ret ?_))
  rintro _ w43 ⟨h42, rfl, hx44, ho45⟩
  have H46 := H41.addRow hx44 ho45
  refine ⟨GrF.ofExt hx44, ?_⟩
  refine Lx_c rfl rfl (fun w47 hw48 => ?_)
  have H49 := H46.ext hw48
  refine (R_callL (vs := [(slV h42 ((([4] : List UInt8) ++ idList l.target) ++ textB l.name)), (.string l.msg)]) cF41 rfl rfl ((enc_Text h42 ((([4] : List UInt8) ++ idList l.target) ++ textB l.name) l.msg w47 (H49.rowSl 0 rfl (fun _ => rfl)) (label_h2 (by assumption))).ret ?_))
  rintro _ w51 ⟨h50, rfl, hx52, ho53⟩
  have H54 := H49.addRow hx52 ho53
  refine ⟨GrF.ofExt hx52, ?_⟩
  refine Lx_q rfl rfl _ (fun v55 hv56 => R_assign (v := (slV h50 (((([4] : List UInt8) ++ idList l.target) ++ textB l.name) ++ textB l.msg))) rfl qk) (Lx_q rfl rfl _ (fun v57 hv58 => R_assign (v := (.int .i64 0)) rfl qk) ?_)
  refine Lx_nil (fun w59 hw60 => ?_)
  have H61 := H54.ext hw60
  refine Then_n (W_ret ?_)
  refine ret_2 (v := (slV h50 (((([4] : List UInt8) ++ idList l.target) ++ textB l.name) ++ textB l.msg))) (v' := (.int .i64 0)) Tryz.results28 rfl rfl ?_
  have hE : ((([4] : List UInt8) ++ idList l.target) ++ textB l.name) ++ textB l.msg = putLabelB l := (putLabel_t (by assumption)).1
  have hV : 0 = putLabelE l := (putLabel_t (by assumption)).2
  refine ⟨h50, ?_, H61.gr, ?_⟩
  · exact two_eq (fun l n => Value.tuple #[slV h50 l, Value.int .i64 n]) hE hV
  · have hO := H61.retRow 0 rfl
    exact hE ▸ hO
end Go.Proofs.YthjdhfoeckfmbaaGreat
namespace Go.Proofs.YthjdhfoeckfmbaaGreat
open Go
set_option linter.unusedVariables false
set_option linter.unusedSimpArgs false
section
variable {ids acc : List ID} {id : ID} {k : Nat} {dn : Bool}
end
theorem putTo_len (l : List ID) (x : ID) : ∀ n, (putTo l x n).1.length ≤ n + (if (putTo l x n).2 = true then 1 else 0)
  | 0 => by simp [putTo]
  | n + 1 => by
    have ih := putTo_len l x n
    have eP : putTo l x (n + 1) = if 0 ≤ cmpId (nth l n) x ∧ (putTo l x n).2 = false then (if 0 < cmpId (nth l n) x then (putTo l x n).1 ++ [x] ++ [nth l n] else (putTo l x n).1 ++ [nth l n], true) else ((putTo l x n).1 ++ [nth l n], (putTo l x n).2) := rfl
    by_cases hc : 0 ≤ cmpId (nth l n) x ∧ (putTo l x n).2 = false
    · rw [eP, if_pos hc]
      rw [hc.2] at ih
      simp only [Bool.false_eq_true, if_false, Nat.add_zero] at ih
      simp only [if_true]
      split
      · simp only [List.length_append, List.length_cons, List.length_nil]; omega
      · simp only [List.length_append, List.length_cons, List.length_nil]; omega
    · rw [eP, if_neg hc]
      simp only [List.length_append, List.length_cons, List.length_nil]
      omega
theorem riseL_len (l : List ID) (x : ID) : (riseL l x).length ≤ l.length + 1 := by
  have h := putTo_len l x l.length
  unfold riseL
  split
  · rename_i hh; rw [if_pos hh] at h; exact h
  · rename_i hh; rw [if_neg hh] at h; rw [List.length_append, List.length_singleton]; omega
theorem putL_len (l : List ID) (x : ID) : (putL l x).length ≤ l.length + 1 := by
  unfold putL
  split
  · omega
  · exact riseL_len l x
theorem putAll_len : ∀ (xs l : List ID), (putAll l xs).length ≤ l.length + xs.length
  | [], l => by simp [putAll]
  | x :: xs, l => by
    have h1 := putL_len l x
    have h2 := putAll_len xs (putL l x)
    show (putAll (putL l x) xs).length ≤ _
    rw [List.length_cons]; omega
section
variable {b : List UInt8} {l : List ItemS} {acc acc2 xs : List ID} {k j : Nat} {X : ChangeS}
theorem kind_of_change (h : (changeOf b).2 = 0) : kindOf b = 3 := by
  obtain ⟨h0, h1⟩ := changeOf_first h
  rw [kind_3 (by omega) (by rw [h1]; decide) (by rw [h1]; decide) (by rw [h1]; decide), if_pos h]
variable {i : Nat} {acc3 acc4 : List ID}
end
end Go.Proofs.YthjdhfoeckfmbaaGreat
namespace Go.Proofs.YthjdhfoeckfmbaaGreat
open Go
set_option linter.unusedVariables false
set_option linter.unusedSimpArgs false
set_option maxRecDepth 20000
def mkId (b : UInt8) : ID := ⟨#[b, 0, 0, 0, 0, 0, 0, 0, 0, 0, 0, 0, 0, 0, 0, 0, 0, 0, 0, 0, 0, 0, 0, 0, 0, 0, 0, 0, 0, 0, 0, 0], rfl⟩
def chg0 : ChangeS := { parents := [], ph := nilH, time := 1, r := 1, ops := [], oh := nilH, tree := mkId 9, msg := ByteArray.empty }
def item0 : ItemS := { node := ⟨1, 1⟩, tm := ⟨1, 1⟩, name := ⟨#[97]⟩, sub := zeroId, heads := [], hh := nilH }
def lab0 : Label := ⟨mkId 1, ⟨#[118]⟩, ByteArray.empty⟩
theorem numB_0 : numB 0 = [0] := by rw [numB, numGo_small (by decide)]; rfl
theorem numB_1 : numB 1 = [1] := by rw [numB, numGo_small (by decide)]; rfl
def z31 : List UInt8 := List.replicate 31 0
theorem chg_ok : changeOk chg0 = true := by decide
theorem chg_bytes : putChangeB chg0 = [3, 0, 1, 1, 0, 9] ++ z31 ++ [0] := by
  rw [putChangeB, if_pos chg_ok, changeB, opsTo, parTo, textB]
  show ((((([3] ++ numB 0) ++ [] ++ numB 1) ++ numB 1) ++ numB 0) ++ [] ++ idList (mkId 9)) ++ (numB 0 ++ []) = _
  rw [numB_0, numB_1]
  decide
theorem chg_kind : kindOf (putChangeB chg0) = 3 := by
  rw [chg_bytes]
  decide
theorem item_ok : dirOk [item0] = true := by decide
theorem item_bytes : putDirB [item0] = [2, 1, 1, 1, 1, 1, 1, 97, 0] ++ z31 ++ [0] := by
  rw [putDirB, if_pos item_ok, dirB, dirTo]
  show ([2] ++ numB 1) ++ [itemB item0].flatten = _
  rw [itemB, itemTo, atB, atB, textB]
  show ([2] ++ numB 1) ++ [((((([] : List UInt8) ++ (numB 1 ++ numB 1)) ++ (numB 1 ++ numB 1)) ++ (numB 1 ++ [97])) ++ idList zeroId ++ numB 0) ++ []].flatten = _
  rw [numB_0, numB_1]
  decide
theorem item_kind : kindOf (putDirB [item0]) = 2 := by
  rw [item_bytes]
  decide
theorem lab_ok : labelOk lab0 = true := by decide
theorem lab_bytes : putLabelB lab0 = [4, 1] ++ z31 ++ [1, 118, 0] := by
  rw [putLabelB, if_pos lab_ok, labelB, textB, textB]
  show (([4] ++ idList (mkId 1)) ++ (numB 1 ++ [118])) ++ (numB 0 ++ []) = _
  rw [numB_0, numB_1]
  decide
theorem lab_kind : kindOf (putLabelB lab0) = 4 := by
  rw [lab_bytes]
  decide
theorem chg_raw : linksRaw (putChangeB chg0) = [mkId 9] := by
  rw [linksRaw, if_neg (by rw [chg_kind]; decide), if_pos chg_kind, chg_bytes]
  decide
theorem chg_len : (((putChangeB chg0).length : Nat) : Int) = 38 := by rw [chg_bytes]; rfl
theorem chg_first : ((nth (putChangeB chg0) 0).toNat : Int) = 3 := by rw [chg_bytes]; rfl
theorem chg_ix : (0 : Int) < (((putChangeB chg0).length : Nat) : Int) := by rw [chg_len]; decide
theorem chg_ixn : 0 < (putChangeB chg0).length := by rw [chg_bytes]; decide
theorem chg_bound : (putChangeB chg0).length ≤ 140737488355328 := by rw [chg_bytes]; decide
theorem item_bound : (putDirB [item0]).length ≤ 140737488355328 := by rw [item_bytes]; decide
theorem lab_bound : (putLabelB lab0).length ≤ 140737488355328 := by rw [lab_bytes]; decide
section
variable {b : List UInt8}
end
end Go.Proofs.YthjdhfoeckfmbaaGreat
namespace Go.Proofs.YthjdhfoeckfmbaaGreat
open Go
set_option linter.unusedVariables false
set_option linter.unusedSimpArgs false
theorem chg_oneG : (((linksOf (putChangeB chg0)).length : Nat) : Int) = 1 := by
  rw [linksOf, chg_raw]
  rfl
section
variable {items l : List ItemS} {e : Int}
end
section
variable {c X : ChangeS} {e : Int}
theorem chgs_kind (h : changeOk c = true) : kindOf (putChangeB c) = 3 := kind_of_change (by rw [changeOf_put h])
theorem chgs_len (h : changeOk c = true) : (putChangeB c).length ≤ 140737488355328 := by have := (chB_len h).2; omega
end
section
variable {b : List UInt8} {l l2 : List ItemS} {X Y : ChangeS} {e : Int}
end
end Go.Proofs.YthjdhfoeckfmbaaGreat
namespace Go.Proofs.YthjdhfoeckfmbaaGreat
open Go
set_option maxRecDepth 100000
set_option linter.unusedVariables false
set_option linter.unusedSimpArgs false
set_option linter.unusedSectionVars false
theorem cF10 : callable Tryz.prog 10 = true := by kernel_rfl
theorem cF15 : callable Tryz.prog 15 = true := by kernel_rfl
theorem cF21 : callable Tryz.prog 21 = true := by kernel_rfl
theorem cF23 : callable Tryz.prog 23 = true := by kernel_rfl
theorem cF28 : callable Tryz.prog 28 = true := by kernel_rfl
set_option maxHeartbeats 4000000 in
theorem law04_alive  (w : World) :
    Calls Tryz.prog 9 #[] w (Ret fun v w' => v = (.bool true) ∧ Ext w w') := by
 refine calls_W Tryz.func9 rfl Tryz.ntmps9 rfl ?_
 have H0 := Ctx.start w nob
 refine W_seq (W_reg ?_)
 refine O_as (v := (.bool false)) rfl rfl ?_
 refine O_nil (Then_n (W_seq (W_reg ?_)))
 refine O_v rfl (C_buildSliceL H0 (enc := encB) (val := byteV) ([97, 98] : List UInt8) Tryz.underlying22 Tryz.sizeOf5 Tryz.zeroValue5 rfl (by decide) (fun _ => rfl) (fun _ => rfl) rfl rfl (by decide) ?_)
 intro b1 w2 hb3 hx4 H5
 refine O_v rfl (C_convBB H5 0 rfl Tryz.underlying22 Tryz.underlying5 rfl (by decide) ?_)
 intro w6 hg7 H8
 refine O_v rfl (R_callL (vs := [(slV ⟨some ⟨b1, 0, none⟩, b1, 0, 2⟩ ([97, 98] : List UInt8))]) cF10 rfl rfl ((obj_PutBlob ⟨some ⟨b1, 0, none⟩, b1, 0, 2⟩ ([97, 98] : List UInt8) w6 (H8.slOld 0 rfl)).ret ?_))
 rintro _ w10 ⟨h9, rfl, hx11, ho12⟩
 have H13 := H8.addRow hx11 ho12
 refine O_mv (v := (.tuple #[(slV h9 (putBlobB ([97, 98] : List UInt8))), (.int .i64 (putBlobE ([97, 98] : List UInt8)))])) rfl rfl (O_ex (v := (slV h9 (putBlobB ([97, 98] : List UInt8)))) rfl rfl rfl (O_ex (v := (.int .i64 (putBlobE ([97, 98] : List UInt8)))) rfl rfl rfl (O_as (v := (slV h9 (putBlobB ([97, 98] : List UInt8)))) rfl rfl ?_)))
 refine O_as (v := (.int .i64 (putBlobE ([97, 98] : List UInt8)))) rfl rfl ?_
 refine O_nil (Then_n (W_seq (W_reg ?_)))
 refine O_v rfl (R_buildL (vs := [(0, (.int .u8 9))]) (v := aggOf [(idCells (mkId 9))]) rfl (fun _ => by kernel_rfl) ?_)
 refine O_v rfl (R_buildL (vs := [(1, (.int .i64 1)), (2, (.int .i64 1)), (4, (aggOf (idCh (mkId 9))))]) (v := aggOf [[(.slice none 0 0)], [(.int .i64 1)], [(.int .i64 1)], [(.slice none 0 0)], (idCells (mkId 9)), [(.string ByteArray.empty)]]) rfl (fun _ => by kernel_rfl) ?_)
 refine O_v rfl (R_callL (vs := [(aggOf [[(.slice none 0 0)], [(.int .i64 1)], [(.int .i64 1)], [(.slice none 0 0)], (idCells (mkId 9)), [(.string ByteArray.empty)]])]) cF23 rfl rfl ((obj_PutChange ({ parents := [], ph := nilH, time := 1, r := 1, ops := [], oh := nilH, tree := (mkId 9), msg := ByteArray.empty } : ChangeS) w10 (Sl.nil _ _ _ _) (Sl.nil _ _ _ _) (fun _ hx => (nomatch hx))).ret ?_))
 rintro _ w15 ⟨h14, rfl, hx16, ho17⟩
 have H18 := H13.addRow hx16 ho17
 refine O_mv (v := (.tuple #[(slV h14 (putChangeB ({ parents := [], ph := nilH, time := 1, r := 1, ops := [], oh := nilH, tree := (mkId 9), msg := ByteArray.empty } : ChangeS))), (.int .i64 (putChangeE ({ parents := [], ph := nilH, time := 1, r := 1, ops := [], oh := nilH, tree := (mkId 9), msg := ByteArray.empty } : ChangeS)))])) rfl rfl (O_ex (v := (slV h14 (putChangeB ({ parents := [], ph := nilH, time := 1, r := 1, ops := [], oh := nilH, tree := (mkId 9), msg := ByteArray.empty } : ChangeS)))) rfl rfl rfl (O_ex (v := (.int .i64 (putChangeE ({ parents := [], ph := nilH, time := 1, r := 1, ops := [], oh := nilH, tree := (mkId 9), msg := ByteArray.empty } : ChangeS)))) rfl rfl rfl (O_as (v := (slV h14 (putChangeB ({ parents := [], ph := nilH, time := 1, r := 1, ops := [], oh := nilH, tree := (mkId 9), msg := ByteArray.empty } : ChangeS)))) rfl rfl ?_)))
 refine O_as (v := (.int .i64 (putChangeE ({ parents := [], ph := nilH, time := 1, r := 1, ops := [], oh := nilH, tree := (mkId 9), msg := ByteArray.empty } : ChangeS)))) rfl rfl ?_
 refine O_nil (Then_n (W_seq (W_reg ?_)))
 refine O_v rfl (R_buildL (vs := [(0, (.int .i64 1)), (1, (.int .i64 1))]) (v := aggOf [[(.int .i64 1)], [(.int .i64 1)]]) rfl (fun _ => by kernel_rfl) ?_)
 refine O_v rfl (R_buildL (vs := [(0, (.int .i64 1)), (1, (.int .i64 1))]) (v := aggOf [[(.int .i64 1)], [(.int .i64 1)]]) rfl (fun _ => by kernel_rfl) ?_)
 refine O_v rfl (R_buildL (vs := [(0, (aggOf [[(.int .i64 1)], [(.int .i64 1)]])), (1, (aggOf [[(.int .i64 1)], [(.int .i64 1)]])), (2, (.string (⟨#[97]⟩ : ByteArray)))]) (v := aggOf [[(.int .i64 1)], [(.int .i64 1)], [(.int .i64 1)], [(.int .i64 1)], [(.string (⟨#[97]⟩ : ByteArray))], (idCells zeroId), [(.slice none 0 0)]]) rfl (fun _ => by kernel_rfl) ?_)
 refine O_v rfl (C_buildSliceL H18 (enc := itemCh) (val := itemV) ([({ node := ({ T := 1, R := 1 } : Stamp), tm := ({ T := 1, R := 1 } : Stamp), name := (⟨#[97]⟩ : ByteArray), sub := zeroId, heads := [], hh := nilH } : ItemS)] : List ItemS) Tryz.underlying31 Tryz.sizeOf77 Tryz.zeroValue77 rfl (by decide) (fun _ => rfl) (fun _ => rfl) rfl rfl (by decide) ?_)
 intro b19 w20 hb21 hx22 H23
 refine O_v rfl (R_callL (vs := [(slV ⟨some ⟨b19, 0, none⟩, b19, 0, 1⟩ ([({ node := ({ T := 1, R := 1 } : Stamp), tm := ({ T := 1, R := 1 } : Stamp), name := (⟨#[97]⟩ : ByteArray), sub := zeroId, heads := [], hh := nilH } : ItemS)] : List ItemS))]) cF15 rfl rfl ((obj_PutDir ⟨some ⟨b19, 0, none⟩, b19, 0, 1⟩ ([({ node := ({ T := 1, R := 1 } : Stamp), tm := ({ T := 1, R := 1 } : Stamp), name := (⟨#[97]⟩ : ByteArray), sub := zeroId, heads := [], hh := nilH } : ItemS)] : List ItemS) w20 (H23.rowSl 0 rfl (fun _ => rfl)) (deep1 (Sl.nil _ _ _ _))).ret ?_))
 rintro _ w25 ⟨h24, rfl, hx26, ho27⟩
 have H28 := H23.addRow hx26 ho27
 refine O_mv (v := (.tuple #[(slV h24 (putDirB ([({ node := ({ T := 1, R := 1 } : Stamp), tm := ({ T := 1, R := 1 } : Stamp), name := (⟨#[97]⟩ : ByteArray), sub := zeroId, heads := [], hh := nilH } : ItemS)] : List ItemS))), (.int .i64 (putDirE ([({ node := ({ T := 1, R := 1 } : Stamp), tm := ({ T := 1, R := 1 } : Stamp), name := (⟨#[97]⟩ : ByteArray), sub := zeroId, heads := [], hh := nilH } : ItemS)] : List ItemS)))])) rfl rfl (O_ex (v := (slV h24 (putDirB ([({ node := ({ T := 1, R := 1 } : Stamp), tm := ({ T := 1, R := 1 } : Stamp), name := (⟨#[97]⟩ : ByteArray), sub := zeroId, heads := [], hh := nilH } : ItemS)] : List ItemS)))) rfl rfl rfl (O_ex (v := (.int .i64 (putDirE ([({ node := ({ T := 1, R := 1 } : Stamp), tm := ({ T := 1, R := 1 } : Stamp), name := (⟨#[97]⟩ : ByteArray), sub := zeroId, heads := [], hh := nilH } : ItemS)] : List ItemS)))) rfl rfl rfl (O_as (v := (slV h24 (putDirB ([({ node := ({ T := 1, R := 1 } : Stamp), tm := ({ T := 1, R := 1 } : Stamp), name := (⟨#[97]⟩ : ByteArray), sub := zeroId, heads := [], hh := nilH } : ItemS)] : List ItemS)))) rfl rfl ?_)))
 refine O_as (v := (.int .i64 (putDirE ([({ node := ({ T := 1, R := 1 } : Stamp), tm := ({ T := 1, R := 1 } : Stamp), name := (⟨#[97]⟩ : ByteArray), sub := zeroId, heads := [], hh := nilH } : ItemS)] : List ItemS)))) rfl rfl ?_
 refine O_nil (Then_n (W_seq (W_reg ?_)))
 refine O_v rfl (R_buildL (vs := [(0, (.int .u8 1))]) (v := aggOf [(idCells (mkId 1))]) rfl (fun _ => by kernel_rfl) ?_)
 refine O_v rfl (R_buildL (vs := [(0, (aggOf (idCh (mkId 1)))), (1, (.string (⟨#[118]⟩ : ByteArray)))]) (v := aggOf [(idCells (mkId 1)), [(.string (⟨#[118]⟩ : ByteArray))], [(.string ByteArray.empty)]]) rfl (fun _ => by kernel_rfl) ?_)
 refine O_v rfl (R_callL (vs := [(aggOf [(idCells (mkId 1)), [(.string (⟨#[118]⟩ : ByteArray))], [(.string ByteArray.empty)]])]) cF28 rfl rfl ((obj_PutLabel ({ target := (mkId 1), name := (⟨#[118]⟩ : ByteArray), msg := ByteArray.empty } : Label) w25 ).ret ?_))
 rintro _ w30 ⟨h29, rfl, hx31, ho32⟩
 have H33 := H28.addRow hx31 ho32
 refine O_mv (v := (.tuple #[(slV h29 (putLabelB ({ target := (mkId 1), name := (⟨#[118]⟩ : ByteArray), msg := ByteArray.empty } : Label))), (.int .i64 (putLabelE ({ target := (mkId 1), name := (⟨#[118]⟩ : ByteArray), msg := ByteArray.empty } : Label)))])) rfl rfl (O_ex (v := (slV h29 (putLabelB ({ target := (mkId 1), name := (⟨#[118]⟩ : ByteArray), msg := ByteArray.empty } : Label)))) rfl rfl rfl (O_ex (v := (.int .i64 (putLabelE ({ target := (mkId 1), name := (⟨#[118]⟩ : ByteArray), msg := ByteArray.empty } : Label)))) rfl rfl rfl (O_as (v := (slV h29 (putLabelB ({ target := (mkId 1), name := (⟨#[118]⟩ : ByteArray), msg := ByteArray.empty } : Label)))) rfl rfl ?_)))
 refine O_as (v := (.int .i64 (putLabelE ({ target := (mkId 1), name := (⟨#[118]⟩ : ByteArray), msg := ByteArray.empty } : Label)))) rfl rfl ?_
 refine O_nil (Then_n (W_seq ?_))
 refine W_rg [(0, .q 0), (1, .q 0), (2, .q 0), (3, .q 0), (4, .q 0), (5, .q 0), (6, .q 0), (7, .q 0), (8, .q 0), (9, .q 0), (10, .q 0), (11, .q 0), (12, .q 0), (13, .q 0), (14, .q 0), (15, .q 0), (16, .q 0), (17, .q 0), (18, .q 0), (19, .q 0), (20, .q 0), (21, .q 0), (22, .q 0), (23, .q 0), (24, .q 0), (25, .q 0), (26, .q 0), (27, .q 0), (28, .q 0), (29, .q 0), (30, .q 0), (31, .q 0), (32, .q 0), (33, .q 0), (34, .q 0), (35, .q 0), (36, .q 0), (37, .q 0), (38, .q 0), (39, .q 0), (40, .q 0), (41, .q 0), (42, .q 0), (43, .q 0), (44, .q 0), (45, .q 0), (46, .q 0), (47, .c 0), (48, .q 0), (49, .q 0), (50, .q 0), (51, .q 0)] (by kernel_rfl) ?_
 refine Lx_mv (v := (.int .i64 (putBlobE ([97, 98] : List UInt8)))) rfl rfl rfl (Lx_q rfl rfl (.bool true) (fun v36 hv37 => R_cmp (a := putBlobE ([97, 98] : List UInt8)) (b := 0) (r := (decide (putBlobE ([97, 98] : List UInt8) = 0))) rfl rfl rfl ⟨(boolK (by decide)), Gr.refl _ _⟩) (Lx_mv (v := (.bool true)) rfl rfl rfl ?_))
 refine Lx_qT rfl rfl rfl rfl rfl _ (fun v40 hv41 => R_move (v := (slV h9 (putBlobB ([97, 98] : List UInt8)))) rfl qk) ?_
 refine Lx_qT rfl rfl rfl rfl rfl _ (fun v42 hv43 => R_conv_bs (l := putBlobB ([97, 98] : List UInt8)) Tryz.underlying22 Tryz.underlying5 Tryz.underlying9 (OwnS.sl ((H33.ext hv43).getOwn 4 rfl) (fun _ => rfl)) rfl qk) ?_
 refine Lx_qT rfl rfl rfl rfl rfl (.bool true) (fun v44 hv45 => R_cmpS (a := (⟨(putBlobB ([97, 98] : List UInt8)).toArray⟩ : ByteArray)) (b := (⟨#[1, 97, 98]⟩ : ByteArray)) (r := (decide ((⟨(putBlobB ([97, 98] : List UInt8)).toArray⟩ : ByteArray) = (⟨#[1, 97, 98]⟩ : ByteArray)))) rfl rfl rfl ⟨(boolK (by decide)), Gr.refl _ _⟩) ?_
 refine Lx_q rfl rfl _ (fun v46 hv47 => R_pick (t := true) (v := (.bool true)) rfl rfl qk) (Lx_mv (v := (.bool true)) rfl rfl rfl ?_)
 refine Lx_qT rfl rfl rfl rfl rfl _ (fun v50 hv51 => R_move (v := (.int .i64 (putChangeE ({ parents := [], ph := nilH, time := 1, r := 1, ops := [], oh := nilH, tree := (mkId 9), msg := ByteArray.empty } : ChangeS)))) rfl qk) ?_
 refine Lx_qT rfl rfl rfl rfl rfl (.bool true) (fun v52 hv53 => R_cmp (a := putChangeE ({ parents := [], ph := nilH, time := 1, r := 1, ops := [], oh := nilH, tree := (mkId 9), msg := ByteArray.empty } : ChangeS)) (b := 0) (r := (decide (putChangeE ({ parents := [], ph := nilH, time := 1, r := 1, ops := [], oh := nilH, tree := (mkId 9), msg := ByteArray.empty } : ChangeS) = 0))) rfl rfl rfl ⟨(boolK (decide_eq_true (if_pos chg_ok))), Gr.refl _ _⟩) ?_
 refine Lx_q rfl rfl _ (fun v54 hv55 => R_pick (t := true) (v := (.bool true)) rfl rfl qk) (Lx_mv (v := (.bool true)) rfl rfl rfl ?_)
 refine Lx_qT rfl rfl rfl rfl rfl _ (fun v58 hv59 => R_move (v := (slV h14 (putChangeB ({ parents := [], ph := nilH, time := 1, r := 1, ops := [], oh := nilH, tree := (mkId 9), msg := ByteArray.empty } : ChangeS)))) rfl qk) ?_
 refine Lx_qT rfl rfl rfl rfl rfl _ (fun v60 hv61 => R_len_slice (a := h14.a) (n := (putChangeB ({ parents := [], ph := nilH, time := 1, r := 1, ops := [], oh := nilH, tree := (mkId 9), msg := ByteArray.empty } : ChangeS)).length) (c := h14.c) Tryz.underlying22 rfl qk) ?_
 refine Lx_qT rfl rfl rfl rfl rfl (.bool true) (fun v62 hv63 => R_cmp (a := (((putChangeB ({ parents := [], ph := nilH, time := 1, r := 1, ops := [], oh := nilH, tree := (mkId 9), msg := ByteArray.empty } : ChangeS)).length : Nat) : Int)) (b := 38) (r := (decide ((((putChangeB ({ parents := [], ph := nilH, time := 1, r := 1, ops := [], oh := nilH, tree := (mkId 9), msg := ByteArray.empty } : ChangeS)).length : Nat) : Int) = 38))) rfl rfl rfl ⟨(boolK (decide_eq_true chg_len)), Gr.refl _ _⟩) ?_
 refine Lx_q rfl rfl _ (fun v64 hv65 => R_pick (t := true) (v := (.bool true)) rfl rfl qk) (Lx_mv (v := (.bool true)) rfl rfl rfl ?_)
 refine Lx_qT rfl rfl rfl rfl rfl _ (fun v68 hv69 => R_move (v := (slV h14 (putChangeB ({ parents := [], ph := nilH, time := 1, r := 1, ops := [], oh := nilH, tree := (mkId 9), msg := ByteArray.empty } : ChangeS)))) rfl qk) ?_
 refine Lx_qT rfl rfl rfl rfl rfl _ (fun v70 hv71 => R_index_pure (OwnS.sl (H33.getOwn 3 rfl) (fun _ => rfl)) (n := (putChangeB ({ parents := [], ph := nilH, time := 1, r := 1, ops := [], oh := nilH, tree := (mkId 9), msg := ByteArray.empty } : ChangeS)).length) rfl (j := 0) (oo := (h14.o + 0 * 1)) Tryz.underlying22 Tryz.sizeOf5 rfl rfl (by omega) chg_ix rfl qk) ?_
 refine Lx_qT rfl rfl rfl rfl rfl _ (fun v72 hv73 => R_load1 (v := (.int .u8 ((nth (putChangeB ({ parents := [], ph := nilH, time := 1, r := 1, ops := [], oh := nilH, tree := (mkId 9), msg := ByteArray.empty } : ChangeS)) 0).toNat : Int))) Tryz.isAgg5 rfl ((Sl.elem (OwnS.sl ((H33.ext hv73).getOwn 3 rfl) (fun _ => rfl)) (i := 0) chg_ixn rfl).chunks 0 1 0 (h14.o + 0 * 1) _ rfl rfl rfl) qk) ?_
 refine Lx_qT rfl rfl rfl rfl rfl (.bool true) (fun v74 hv75 => R_cmp (a := ((nth (putChangeB ({ parents := [], ph := nilH, time := 1, r := 1, ops := [], oh := nilH, tree := (mkId 9), msg := ByteArray.empty } : ChangeS)) 0).toNat : Int)) (b := 3) (r := (decide (((nth (putChangeB ({ parents := [], ph := nilH, time := 1, r := 1, ops := [], oh := nilH, tree := (mkId 9), msg := ByteArray.empty } : ChangeS)) 0).toNat : Int) = 3))) rfl rfl rfl ⟨(boolK (decide_eq_true chg_first)), Gr.refl _ _⟩) ?_
 refine Lx_q rfl rfl _ (fun v76 hv77 => R_pick (t := true) (v := (.bool true)) rfl rfl qk) (Lx_mv (v := (.bool true)) rfl rfl rfl ?_)
 refine Lx_qT rfl rfl rfl rfl rfl _ (fun v80 hv81 => R_move (v := (.int .i64 (putDirE ([({ node := ({ T := 1, R := 1 } : Stamp), tm := ({ T := 1, R := 1 } : Stamp), name := (⟨#[97]⟩ : ByteArray), sub := zeroId, heads := [], hh := nilH } : ItemS)] : List ItemS)))) rfl qk) ?_
 refine Lx_qT rfl rfl rfl rfl rfl (.bool true) (fun v82 hv83 => R_cmp (a := putDirE ([({ node := ({ T := 1, R := 1 } : Stamp), tm := ({ T := 1, R := 1 } : Stamp), name := (⟨#[97]⟩ : ByteArray), sub := zeroId, heads := [], hh := nilH } : ItemS)] : List ItemS)) (b := 0) (r := (decide (putDirE ([({ node := ({ T := 1, R := 1 } : Stamp), tm := ({ T := 1, R := 1 } : Stamp), name := (⟨#[97]⟩ : ByteArray), sub := zeroId, heads := [], hh := nilH } : ItemS)] : List ItemS) = 0))) rfl rfl rfl ⟨(boolK (decide_eq_true (if_pos item_ok))), Gr.refl _ _⟩) ?_
 refine Lx_q rfl rfl _ (fun v84 hv85 => R_pick (t := true) (v := (.bool true)) rfl rfl qk) (Lx_mv (v := (.bool true)) rfl rfl rfl ?_)
 refine Lx_qT rfl rfl rfl rfl rfl _ (fun v88 hv89 => R_move (v := (slV h24 (putDirB ([({ node := ({ T := 1, R := 1 } : Stamp), tm := ({ T := 1, R := 1 } : Stamp), name := (⟨#[97]⟩ : ByteArray), sub := zeroId, heads := [], hh := nilH } : ItemS)] : List ItemS)))) rfl qk) ?_
 refine Lx_qT rfl rfl rfl rfl rfl (.int .i64 (kindOf (putDirB ([({ node := ({ T := 1, R := 1 } : Stamp), tm := ({ T := 1, R := 1 } : Stamp), name := (⟨#[97]⟩ : ByteArray), sub := zeroId, heads := [], hh := nilH } : ItemS)] : List ItemS)))) (fun v90 hv91 => R_callL (vs := [(slV h24 (putDirB ([({ node := ({ T := 1, R := 1 } : Stamp), tm := ({ T := 1, R := 1 } : Stamp), name := (⟨#[97]⟩ : ByteArray), sub := zeroId, heads := [], hh := nilH } : ItemS)] : List ItemS)))]) cF14 rfl rfl (obj_Kind h24 (putDirB ([({ node := ({ T := 1, R := 1 } : Stamp), tm := ({ T := 1, R := 1 } : Stamp), name := (⟨#[97]⟩ : ByteArray), sub := zeroId, heads := [], hh := nilH } : ItemS)] : List ItemS)) v90 ((H33.ext hv91).rowSl 1 rfl (fun _ => rfl)) item_bound)) ?_
 refine Lx_qT rfl rfl rfl rfl rfl (.bool true) (fun v92 hv93 => R_cmp (a := kindOf (putDirB ([({ node := ({ T := 1, R := 1 } : Stamp), tm := ({ T := 1, R := 1 } : Stamp), name := (⟨#[97]⟩ : ByteArray), sub := zeroId, heads := [], hh := nilH } : ItemS)] : List ItemS))) (b := 2) (r := (decide (kindOf (putDirB ([({ node := ({ T := 1, R := 1 } : Stamp), tm := ({ T := 1, R := 1 } : Stamp), name := (⟨#[97]⟩ : ByteArray), sub := zeroId, heads := [], hh := nilH } : ItemS)] : List ItemS)) = 2))) rfl rfl rfl ⟨(boolK (decide_eq_true item_kind)), Gr.refl _ _⟩) ?_
 refine Lx_q rfl rfl _ (fun v94 hv95 => R_pick (t := true) (v := (.bool true)) rfl rfl qk) (Lx_mv (v := (.bool true)) rfl rfl rfl ?_)
 refine Lx_qT rfl rfl rfl rfl rfl _ (fun v98 hv99 => R_move (v := (.int .i64 (putLabelE ({ target := (mkId 1), name := (⟨#[118]⟩ : ByteArray), msg := ByteArray.empty } : Label)))) rfl qk) ?_
 refine Lx_qT rfl rfl rfl rfl rfl (.bool true) (fun v100 hv101 => R_cmp (a := putLabelE ({ target := (mkId 1), name := (⟨#[118]⟩ : ByteArray), msg := ByteArray.empty } : Label)) (b := 0) (r := (decide (putLabelE ({ target := (mkId 1), name := (⟨#[118]⟩ : ByteArray), msg := ByteArray.empty } : Label) = 0))) rfl rfl rfl ⟨(boolK (decide_eq_true (if_pos lab_ok))), Gr.refl _ _⟩) ?_
 refine Lx_q rfl rfl _ (fun v102 hv103 => R_pick (t := true) (v := (.bool true)) rfl rfl qk) (Lx_mv (v := (.bool true)) rfl rfl rfl ?_)
 refine Lx_qT rfl rfl rfl rfl rfl _ (fun v106 hv107 => R_move (v := (slV h29 (putLabelB ({ target := (mkId 1), name := (⟨#[118]⟩ : ByteArray), msg := ByteArray.empty } : Label)))) rfl qk) ?_
 refine Lx_qT rfl rfl rfl rfl rfl (.int .i64 (kindOf (putLabelB ({ target := (mkId 1), name := (⟨#[118]⟩ : ByteArray), msg := ByteArray.empty } : Label)))) (fun v108 hv109 => R_callL (vs := [(slV h29 (putLabelB ({ target := (mkId 1), name := (⟨#[118]⟩ : ByteArray), msg := ByteArray.empty } : Label)))]) cF14 rfl rfl (obj_Kind h29 (putLabelB ({ target := (mkId 1), name := (⟨#[118]⟩ : ByteArray), msg := ByteArray.empty } : Label)) v108 ((H33.ext hv109).rowSl 0 rfl (fun _ => rfl)) lab_bound)) ?_
 refine Lx_qT rfl rfl rfl rfl rfl (.bool true) (fun v110 hv111 => R_cmp (a := kindOf (putLabelB ({ target := (mkId 1), name := (⟨#[118]⟩ : ByteArray), msg := ByteArray.empty } : Label))) (b := 4) (r := (decide (kindOf (putLabelB ({ target := (mkId 1), name := (⟨#[118]⟩ : ByteArray), msg := ByteArray.empty } : Label)) = 4))) rfl rfl rfl ⟨(boolK (decide_eq_true lab_kind)), Gr.refl _ _⟩) ?_
 refine Lx_q rfl rfl _ (fun v112 hv113 => R_pick (t := true) (v := (.bool true)) rfl rfl qk) (Lx_mv (v := (.bool true)) rfl rfl rfl ?_)
 refine Lx_qT rfl rfl rfl rfl rfl _ (fun v116 hv117 => R_move (v := (slV h14 (putChangeB ({ parents := [], ph := nilH, time := 1, r := 1, ops := [], oh := nilH, tree := (mkId 9), msg := ByteArray.empty } : ChangeS)))) rfl qk) ?_
 refine Lx_qT rfl rfl rfl rfl rfl (.int .i64 (kindOf (putChangeB ({ parents := [], ph := nilH, time := 1, r := 1, ops := [], oh := nilH, tree := (mkId 9), msg := ByteArray.empty } : ChangeS)))) (fun v118 hv119 => R_callL (vs := [(slV h14 (putChangeB ({ parents := [], ph := nilH, time := 1, r := 1, ops := [], oh := nilH, tree := (mkId 9), msg := ByteArray.empty } : ChangeS)))]) cF14 rfl rfl (obj_Kind h14 (putChangeB ({ parents := [], ph := nilH, time := 1, r := 1, ops := [], oh := nilH, tree := (mkId 9), msg := ByteArray.empty } : ChangeS)) v118 ((H33.ext hv119).rowSl 3 rfl (fun _ => rfl)) chg_bound)) ?_
 refine Lx_qT rfl rfl rfl rfl rfl (.bool true) (fun v120 hv121 => R_cmp (a := kindOf (putChangeB ({ parents := [], ph := nilH, time := 1, r := 1, ops := [], oh := nilH, tree := (mkId 9), msg := ByteArray.empty } : ChangeS))) (b := 3) (r := (decide (kindOf (putChangeB ({ parents := [], ph := nilH, time := 1, r := 1, ops := [], oh := nilH, tree := (mkId 9), msg := ByteArray.empty } : ChangeS)) = 3))) rfl rfl rfl ⟨(boolK (decide_eq_true chg_kind)), Gr.refl _ _⟩) ?_
 refine Lx_q rfl rfl _ (fun v122 hv123 => R_pick (t := true) (v := (.bool true)) rfl rfl qk) (Lx_mv (v := (.bool true)) rfl rfl rfl ?_)
 refine Lx_qT rfl rfl rfl rfl rfl _ (fun v126 hv127 => R_move (v := (slV h14 (putChangeB ({ parents := [], ph := nilH, time := 1, r := 1, ops := [], oh := nilH, tree := (mkId 9), msg := ByteArray.empty } : ChangeS)))) rfl qk) ?_
 refine Lx_cT rfl rfl rfl rfl rfl (fun w128 hw129 => ?_)
 have H130 := H33.ext hw129
 refine (R_callL (vs := [(slV h14 (putChangeB ({ parents := [], ph := nilH, time := 1, r := 1, ops := [], oh := nilH, tree := (mkId 9), msg := ByteArray.empty } : ChangeS)))]) cF21 rfl rfl ((obj_LinksG h14 (putChangeB ({ parents := [], ph := nilH, time := 1, r := 1, ops := [], oh := nilH, tree := (mkId 9), msg := ByteArray.empty } : ChangeS)) w128 (H130.rowSl 3 rfl (fun _ => rfl)) chg_bound).ret ?_))
 rintro _ w133 ⟨h131, S132, rfl, hx134, hS135, hv136⟩
 have H137 := H130.addImm hx134 (slI S132 idCh 32 h131 (linksOf (putChangeB ({ parents := [], ph := nilH, time := 1, r := 1, ops := [], oh := nilH, tree := (mkId 9), msg := ByteArray.empty } : ChangeS)))) hv136 hS135
 refine ⟨GrF.ofExt hx134, ?_⟩
 refine Lx_qT rfl rfl rfl rfl rfl _ (fun v138 hv139 => R_len_slice (a := h131.a) (n := (linksOf (putChangeB ({ parents := [], ph := nilH, time := 1, r := 1, ops := [], oh := nilH, tree := (mkId 9), msg := ByteArray.empty } : ChangeS))).length) (c := h131.c) Tryz.underlying39 rfl qk) ?_
 refine Lx_qT rfl rfl rfl rfl rfl (.bool true) (fun v140 hv141 => R_cmp (a := (((linksOf (putChangeB ({ parents := [], ph := nilH, time := 1, r := 1, ops := [], oh := nilH, tree := (mkId 9), msg := ByteArray.empty } : ChangeS))).length : Nat) : Int)) (b := 1) (r := (decide ((((linksOf (putChangeB ({ parents := [], ph := nilH, time := 1, r := 1, ops := [], oh := nilH, tree := (mkId 9), msg := ByteArray.empty } : ChangeS))).length : Nat) : Int) = 1))) rfl rfl rfl ⟨(boolK (decide_eq_true chg_oneG)), Gr.refl _ _⟩) ?_
 refine Lx_q rfl rfl _ (fun v142 hv143 => R_pick (t := true) (v := (.bool true)) rfl rfl qk) (Lx_q rfl rfl _ (fun v144 hv145 => R_assign (v := (.bool true)) rfl qk) ?_)
 refine Lx_nil (fun w146 hw147 => ?_)
 have H148 := H137.ext hw147
 refine Then_n (W_ret ?_)
 refine ret_1 (v := (.bool true)) Tryz.results9 rfl ?_
 exact ⟨rfl, H148.gr⟩
end Go.Proofs.YthjdhfoeckfmbaaGreat
namespace Go.Proofs.YthjdhfoeckfmbaaGreat
open Go
set_option maxRecDepth 100000
set_option linter.unusedVariables false
set_option linter.unusedSimpArgs false
set_option linter.unusedSectionVars false
variable [DD]
set_option maxHeartbeats 1000000 in
theorem ref01_Cmp (a : ID) (b : ID) (w : World) :
    Calls Tryz.prog 36 #[(aggOf (idCh a)), (aggOf (idCh b))] w (Ret fun v w' => v = (.int .i64 (cmpId a b)) ∧ Ext w w') := by
 refine calls_W Tryz.func36 rfl Tryz.ntmps36 rfl ?_
 have H0 := Ctx.start w nob
 refine W_seq (W_reg ?_)
 refine O_v rfl (C_box H0 [(idCells a)] rfl ?_)
 intro b1 w2 hb3 hx4 H5
 refine O_v rfl (C_box H5 [(idCells b)] rfl ?_)
 intro b6 w7 hb8 hx9 H10
 refine O_as (v := (.int .i64 0)) rfl rfl ?_
 refine O_nil (Then_n (W_seq (W_seq (W_reg ?_))))
 refine O_as (v := (.int .i64 0)) rfl rfl ?_
 refine O_nil (Then_n (W_block ?_))
 refine W_loop (fun m11 e12 w13 => ∃ (k : Nat), m11 = 32 - k ∧ (k ≤ 32) ∧ (∀ i, i < k → nth (idList a) i = nth (idList b) i) ∧ ∃ eb14, e12 = envL [(2, (.pointer (some ⟨b1, 0, none⟩))), (3, (.pointer (some ⟨b6, 0, none⟩))), (5, (.int .i64 (k : Int)))] eb14 ∧ Ctx w nob w13 [boxR b6 44 [(idCells b)], boxR b1 44 [(idCells a)]] []) _ ⟨0, rfl, (by omega), (all_zero _), _, envL_self ⟨rfl, rfl, rfl, trivial⟩, H10⟩ ?_
 rintro m11 _ w13 ⟨k, rfl, hk, hn, eb14, rfl, H15⟩
 refine W_seq (W_seq (W_reg ?_))
 refine O_mv (v := (.int .i64 (k : Int))) rfl rfl ?_
 refine O_v rfl (R_cmp (a := (k : Int)) (b := 32) (r := (decide ((k : Int) < 32))) rfl rfl rfl ?_)
 refine O_nil (Then_n ?_)
 refine W_cond rfl (fun hc16 => ?_) (fun hc16 => ?_)
 ·have hc16 := (of_decide_eq_true hc16)
  refine W_skip (Then_n (W_seq (W_block (W_seq (W_seq ?_)))))
  refine W_rgd TryzMixed [(0, .q 0), (1, .q 0), (2, .q 0), (3, .q 0), (4, .q 0), (5, .q 0), (6, .q 0)] (by kernel_rfl) ?_
  refine Lx_mv (v := (.int .i64 (k : Int))) rfl rfl rfl (Lx_q rfl rfl _ (fun v19 hv20 => R_index_array (n := 32) (k := 1) (o := 0) (oo := (0 + k * 1)) (j := (k : Int)) Tryz.underlying44 Tryz.sizeOf5 rfl rfl (by omega) (by omega) rfl qk) (Lx_q rfl rfl _ (fun v21 hv22 => R_load1 (v := (.int .u8 ((nth (idList a) k).toNat : Int))) Tryz.isAgg5 rfl ((Sl.elem (Sl_box ((H15.ext hv22).getOwn 1 rfl)) (i := k) (by rw [idList_len]; omega) rfl).chunks 0 1 0 (0 + k * 1) _ rfl rfl rfl) qk) (Lx_mv (v := (.int .i64 (k : Int))) rfl rfl rfl ?_)))
  refine Lx_q rfl rfl _ (fun v25 hv26 => R_index_array (n := 32) (k := 1) (o := 0) (oo := (0 + k * 1)) (j := (k : Int)) Tryz.underlying44 Tryz.sizeOf5 rfl rfl (by omega) (by omega) rfl qk) (Lx_q rfl rfl _ (fun v27 hv28 => R_load1 (v := (.int .u8 ((nth (idList b) k).toNat : Int))) Tryz.isAgg5 rfl ((Sl.elem (Sl_box ((H15.ext hv28).getOwn 0 rfl)) (i := k) (by rw [idList_len]; omega) rfl).chunks 0 1 0 (0 + k * 1) _ rfl rfl rfl) qk) (Lx_q rfl rfl _ (fun v29 hv30 => R_cmp (a := ((nth (idList a) k).toNat : Int)) (b := ((nth (idList b) k).toNat : Int)) (r := (decide (((nth (idList a) k).toNat : Int) < ((nth (idList b) k).toNat : Int)))) rfl rfl rfl qk) ?_))
  refine Lx_nil (fun w31 hw32 => ?_)
  have H33 := H15.ext hw32
  refine Then_n ?_
  refine W_cond rfl (fun hc34 => ?_) (fun hc34 => ?_)
  ·have hc34 := (of_decide_eq_true hc34)
   refine W_seq (W_reg ?_)
   refine O_as (v := (.int .i64 (-1))) rfl rfl ?_
   refine O_nil (Then_n (W_ret (Then_r (Blk_r (Then_r (Then_r (Blk_r (Then_r ?_))))))))
   refine ret_1 (v := (.int .i64 (-1))) Tryz.results36 rfl ?_
   exact ⟨(rcmp_lt hn (by assumption) (by assumption)), H33.gr⟩
  ·have hc34 := (of_decide_eq_false hc34)
   refine W_skip (Then_n (W_seq ?_))
   refine W_rgd TryzMixed [(0, .q 0), (1, .q 0), (2, .q 0), (3, .q 0), (4, .q 0), (5, .q 0), (6, .q 0)] (by kernel_rfl) ?_
   refine Lx_mv (v := (.int .i64 (k : Int))) rfl rfl rfl (Lx_q rfl rfl _ (fun v37 hv38 => R_index_array (n := 32) (k := 1) (o := 0) (oo := (0 + k * 1)) (j := (k : Int)) Tryz.underlying44 Tryz.sizeOf5 rfl rfl (by omega) (by omega) rfl qk) (Lx_q rfl rfl _ (fun v39 hv40 => R_load1 (v := (.int .u8 ((nth (idList a) k).toNat : Int))) Tryz.isAgg5 rfl ((Sl.elem (Sl_box ((H33.ext hv40).getOwn 1 rfl)) (i := k) (by rw [idList_len]; omega) rfl).chunks 0 1 0 (0 + k * 1) _ rfl rfl rfl) qk) (Lx_mv (v := (.int .i64 (k : Int))) rfl rfl rfl ?_)))
   refine Lx_q rfl rfl _ (fun v43 hv44 => R_index_array (n := 32) (k := 1) (o := 0) (oo := (0 + k * 1)) (j := (k : Int)) Tryz.underlying44 Tryz.sizeOf5 rfl rfl (by omega) (by omega) rfl qk) (Lx_q rfl rfl _ (fun v45 hv46 => R_load1 (v := (.int .u8 ((nth (idList b) k).toNat : Int))) Tryz.isAgg5 rfl ((Sl.elem (Sl_box ((H33.ext hv46).getOwn 0 rfl)) (i := k) (by rw [idList_len]; omega) rfl).chunks 0 1 0 (0 + k * 1) _ rfl rfl rfl) qk) (Lx_q rfl rfl _ (fun v47 hv48 => R_cmp (a := ((nth (idList a) k).toNat : Int)) (b := ((nth (idList b) k).toNat : Int)) (r := (decide (((nth (idList b) k).toNat : Int) < ((nth (idList a) k).toNat : Int)))) rfl rfl rfl qk) ?_))
   refine Lx_nil (fun w49 hw50 => ?_)
   have H51 := H33.ext hw50
   refine Then_n ?_
   refine W_cond rfl (fun hc52 => ?_) (fun hc52 => ?_)
   ·have hc52 := (of_decide_eq_true hc52)
    refine W_seq (W_reg ?_)
    refine O_as (v := (.int .i64 1)) rfl rfl ?_
    refine O_nil (Then_n (W_ret (Blk_r (Then_r (Then_r (Blk_r (Then_r ?_)))))))
    refine ret_1 (v := (.int .i64 1)) Tryz.results36 rfl ?_
    exact ⟨(rcmp_gt hn (by assumption) (by assumption)), H51.gr⟩
   ·have hc52 := (of_decide_eq_false hc52)
    refine W_skip (Blk_n (Then_n (W_reg ?_)))
    refine O_mv (v := (.int .i64 (k : Int))) rfl rfl ?_
    refine O_v rfl (R_arith (a := (k : Int)) (b := 1) (r0 := (k : Int) + 1) (r := ((k + 1 : Nat) : Int)) rfl rfl rfl (wrapN _ (by omega)) ?_)
    refine O_as (v := (.int .i64 ((k + 1 : Nat) : Int))) rfl rfl ?_
    refine O_nil (Then_n ?_)
    refine ⟨_, ?_, (k + 1), rfl, (by omega), (all_succ hn (UInt8.toNat_inj.1 (by omega))), _, envL_self ⟨rfl, rfl, rfl, trivial⟩, H51⟩
    omega
 ·have hc16 := (of_decide_eq_false hc16)
  refine W_exit (Then_x (Then_x (Blk_x (Then_n (W_seq (W_reg ?_))))))
  refine O_as (v := (.int .i64 0)) rfl rfl ?_
  refine O_nil (Then_n (W_ret ?_))
  refine ret_1 (v := (.int .i64 0)) Tryz.results36 rfl ?_
  exact ⟨(rcmp_eq hn (by omega)), H15.gr⟩
end Go.Proofs.YthjdhfoeckfmbaaGreat
namespace Go.Proofs.YthjdhfoeckfmbaaGreat
open Go
set_option linter.unusedVariables false
set_option linter.unusedSimpArgs false
set_option linter.unusedSectionVars false
end Go.Proofs.YthjdhfoeckfmbaaGreat
namespace Go.Proofs.YthjdhfoeckfmbaaGreat
open Go
set_option linter.unusedVariables false
set_option linter.unusedSimpArgs false
set_option linter.unusedSectionVars false
section
variable {rows : List RowS} (hp : rows.Pairwise fun x y => x.node ≠ y.node) (hT : ∀ x ∈ rows, ¬ x.node.T = 0)
include hp hT
end
section
variable {rows : List RowS} (hp : rows.Pairwise fun x y => x.node ≠ y.node) (hT : ∀ x ∈ rows, ¬ x.node.T = 0)
include hp hT
end
end Go.Proofs.YthjdhfoeckfmbaaGreat
namespace Go.Proofs.YthjdhfoeckfmbaaGreat
open Go
set_option linter.unusedVariables false
set_option linter.unusedSimpArgs false
def setKv (l : List ID) : List (ID × Bool) := l.foldl (fun kv x => kvPut x true kv) []
theorem setKv_snoc (l : List ID) (x : ID) : kvPut x true (setKv l) = setKv (l ++ [x]) := by simp [setKv, List.foldl_append]
theorem kvPut_keys {α β : Type} [DecidableEq α] (k : α) (v : β) : ∀ kv : List (α × β), (kvPut k v kv).map Prod.fst = if k ∈ kv.map Prod.fst then kv.map Prod.fst else kv.map Prod.fst ++ [k]
  | [] => rfl
  | p :: r => by
    rw [kvPut]
    split
    · rename_i h
      have h : k = p.1 := h
      simp [h]
    · rename_i h
      have h : ¬ k = p.1 := h
      rw [List.map_cons, kvPut_keys k v r]
      by_cases hm : k ∈ r.map Prod.fst
      · rw [if_pos hm, if_pos (by simp only [List.map_cons, List.mem_cons]; exact .inr hm)]; rfl
      · rw [if_neg hm, if_neg (by simp only [List.map_cons, List.mem_cons]; exact fun e => e.elim h hm)]; rfl
theorem setKv_keys (l : List ID) : ((setKv l).map Prod.fst).Nodup ∧ ∀ x, x ∈ (setKv l).map Prod.fst ↔ x ∈ l := by
  have key : ∀ (l : List ID) (kv : List (ID × Bool)), (kv.map Prod.fst).Nodup → ((l.foldl (fun kv x => kvPut x true kv) kv).map Prod.fst).Nodup ∧ ∀ x, x ∈ (l.foldl (fun kv x => kvPut x true kv) kv).map Prod.fst ↔ x ∈ kv.map Prod.fst ∨ x ∈ l := by
    intro l
    induction l with
    | nil => intro kv h; exact ⟨h, fun x => by simp⟩
    | cons y l ih =>
      intro kv h
      have h2 : ((kvPut y true kv).map Prod.fst).Nodup := by
        rw [kvPut_keys]
        split
        · exact h
        · rename_i hy
          refine List.nodup_append.2 ⟨h, by simp, fun a ha b hb => ?_⟩
          rw [List.mem_singleton.1 hb]
          exact fun e => hy (e ▸ ha)
      obtain ⟨h3, h4⟩ := ih (kvPut y true kv) h2
      refine ⟨h3, fun x => ?_⟩
      show x ∈ (l.foldl (fun kv x => kvPut x true kv) (kvPut y true kv)).map Prod.fst ↔ _
      rw [h4, kvPut_keys]
      by_cases hy : y ∈ kv.map Prod.fst
      · rw [if_pos hy]
        constructor
        · rintro (a | a)
          · exact .inl a
          · exact .inr (List.mem_cons_of_mem _ a)
        · rintro (a | a)
          · exact .inl a
          · rcases List.mem_cons.1 a with e | e
            · exact .inl (e ▸ hy)
            · exact .inr e
      · rw [if_neg hy]
        simp only [List.mem_append, List.mem_cons, List.not_mem_nil, or_false]
        exact or_assoc
  have := key l [] (by simp)
  exact ⟨this.1, fun x => by have h2 := this.2 x; simpa [setKv] using h2⟩
theorem setKv_get (l : List ID) (x : ID) : (kvGet (setKv l) x).getD false = decide (x ∈ l) := by
  have key : ∀ (l : List ID) (kv : List (ID × Bool)), (kvGet (l.foldl (fun kv x => kvPut x true kv) kv) x).getD false = (decide (x ∈ l) || (kvGet kv x).getD false) := by
    intro l
    induction l with
    | nil => intro kv; simp
    | cons y l ih =>
      intro kv
      show (kvGet (l.foldl (fun kv x => kvPut x true kv) (kvPut y true kv)) x).getD false = _
      rw [ih, kvGet_put]
      by_cases h : x = y
      · simp [h]
      · simp [h]
  have := key l []
  simpa [setKv, kvGet_nil] using this
theorem nodup_same_len {α : Type} [DecidableEq α] : ∀ {a b : List α}, a.Nodup → b.Nodup → (∀ x, x ∈ a ↔ x ∈ b) → a.length = b.length := fun {a b} ha hb h =>
  ((List.perm_ext_iff_of_nodup ha hb).2 h).length_eq
theorem Rise.nodup {l : List ID} (h : Rise l) : l.Nodup := List.Pairwise.imp (fun {a b} hab e => by subst e; rw [cmpId_self] at hab; cases hab) h
section
variable {c : ChangeS} {k j : Nat} {kv : List (ID × Bool)}
def editData (l : List OpS) : List ID := (l.filter (fun o => decide (o.kind = 2))).map (·.data)
def wants (c : ChangeS) : List ID := (c.tree :: c.parents) ++ editData c.ops
theorem want_par (h : kv = setKv (c.tree :: c.parents.take k)) (hk : k < c.parents.length) : kvPut (nth c.parents k) true kv = setKv (c.tree :: c.parents.take (k + 1)) := by
  rw [h, setKv_snoc, take_snoc hk]; rfl
theorem want_ops0 (h : kv = setKv (c.tree :: c.parents.take k)) (hk : c.parents.length ≤ k) : kv = setKv ((c.tree :: c.parents) ++ editData (c.ops.take 0)) := by
  rw [h, List.take_of_length_le hk]; simp [editData]
theorem want_op_y (h : kv = setKv ((c.tree :: c.parents) ++ editData (c.ops.take j))) (hj : j < c.ops.length) (he : (nth c.ops j).kind = 2) : kvPut (nth c.ops j).data true kv = setKv ((c.tree :: c.parents) ++ editData (c.ops.take (j + 1))) := by
  rw [h, setKv_snoc, take_snoc hj]
  simp [editData, List.filter_append, he, List.append_assoc]
theorem want_op_n (h : kv = setKv ((c.tree :: c.parents) ++ editData (c.ops.take j))) (hj : j < c.ops.length) (he : ¬ (nth c.ops j).kind = 2) : kv = setKv ((c.tree :: c.parents) ++ editData (c.ops.take (j + 1))) := by
  rw [h, take_snoc hj]
  simp [editData, List.filter_append, he]
theorem want_end (h : kv = setKv ((c.tree :: c.parents) ++ editData (c.ops.take j))) (hj : c.ops.length ≤ j) : kv = setKv (wants c) := by
  rw [h, List.take_of_length_le hj]; rfl
theorem good_move {o : OpS} (h : goodOp o = true) (hk : ¬ o.kind = 2) : o.data = zeroId := by
  rcases goodOp_data h with ⟨_, h⟩ | ⟨h2, _⟩
  · have := of_decide_eq_true h
    exact this.2.2.2.1
  · exact absurd h2 hk
theorem good_edit {o : OpS} (h : goodOp o = true) (hk : o.kind = 2) : ¬ o.data = zeroId := by
  rcases goodOp_data h with ⟨h1, _⟩ | ⟨_, h⟩
  · omega
  · have := of_decide_eq_true h
    exact this.2.2.2.1
theorem links_wants (h : changeOk c = true) : Rise (linksOf (putChangeB c)) ∧ ∀ x, x ∈ linksOf (putChangeB c) ↔ x ∈ wants c := by
  have hr : linksRaw (putChangeB c) = (c.parents ++ [c.tree]) ++ c.ops.map (·.data) := links_chg (chgs_kind h) (X := c) (e := 0) (changeOf_put h).symm
  obtain ⟨h1, h2⟩ := putAll_set (linksRaw (putChangeB c)) [] List.Pairwise.nil
  refine ⟨h1, fun x => ?_⟩
  show x ∈ putAll [] _ ↔ _
  rw [h2, hr]
  obtain ⟨_, p1, _, _, _, p2, _, _, p3, _⟩ := of_decide_eq_true h
  rw [List.any_eq_false] at p1 p3
  have hz : ∀ y ∈ c.parents, ¬ y = zeroId := fun y hy e => p1 y hy (by simp [e])
  have hg : ∀ o ∈ c.ops, goodOp o = true := change_ops h
  simp only [List.not_mem_nil, or_false, List.mem_append, List.mem_singleton, wants, editData, List.mem_cons, List.mem_map, List.mem_filter, decide_eq_true_eq]
  constructor
  · rintro ⟨(a | a) | ⟨o, ho, a⟩, hne⟩
    · exact .inl (.inr a)
    · exact .inl (.inl a)
    · by_cases hk : o.kind = 2
      · exact .inr ⟨o, ⟨ho, hk⟩, a⟩
      · exact absurd (a ▸ good_move (hg o ho) hk) hne
  · rintro ((a | a) | ⟨o, ⟨ho, hk⟩, a⟩)
    · exact ⟨.inl (.inr a), fun e => p2 (a ▸ e)⟩
    · exact ⟨.inl (.inl a), hz x a⟩
    · exact ⟨.inr ⟨o, ho, a⟩, fun e => good_edit (hg o ho) hk (a.trans e)⟩
theorem lk_bad (h : changeOk c = true) (hkv : kv = setKv (wants c)) (hk : k < (linksOf (putChangeB c)).length)
    (hb : ((kvGet kv (nth (linksOf (putChangeB c)) k)).getD false = false ∨ nth (linksOf (putChangeB c)) k = zeroId) ∨ (0 : Int) < (k : Int) ∧ ¬ cmpId (nth (linksOf (putChangeB c)) (k - 1)) (nth (linksOf (putChangeB c)) k) = -1) : Value.bool false = Value.bool true := by
  exfalso
  obtain ⟨h1, h2⟩ := links_wants h
  have hm := nth_mem hk
  rcases hb with (hb | hb) | ⟨hb, hc⟩
  · rw [hkv, setKv_get, decide_eq_false_iff_not] at hb
    exact hb ((h2 _).1 hm)
  · have h3 := ((putAll_set (linksRaw (putChangeB c)) [] List.Pairwise.nil).2 (nth (linksOf (putChangeB c)) k)).1 hm
    rcases h3 with h3 | h3
    · exact h3.2 hb
    · simp at h3
  · have h3 := List.pairwise_iff_getElem.1 h1 (k - 1) k (by omega) hk (by omega)
    rw [nth_eq hk, nth_eq (show k - 1 < _ by omega)] at hc
    exact hc h3
theorem lk_len (h : changeOk c = true) (hkv : kv = setKv (wants c)) : Value.bool (decide (((linksOf (putChangeB c)).length : Int) = (kv.length : Int))) = Value.bool true := by
  obtain ⟨h1, h2⟩ := links_wants h
  obtain ⟨h3, h4⟩ := setKv_keys (wants c)
  have := nodup_same_len h1.nodup h3 (fun x => by rw [h2, h4])
  rw [List.length_map] at this
  rw [hkv, ← this]; simp
end
section
variable {b : List UInt8}
theorem blob_links (h : putBlobE b = 0) : linksOf (putBlobB b) = [] := by
  have hl : b.length ≤ 4096 := by
    unfold putBlobE at h
    split at h
    · assumption
    · cases h
  have hB : putBlobB b = [1] ++ b := if_pos hl
  have hk : kindOf (putBlobB b) = 1 := by
    rw [hB]
    have h0 : ¬ ([1] ++ b).length = 0 := by simp
    rw [kind_1 (by simp; omega) (by rfl), if_pos]
    unfold blobE
    exact if_pos ⟨by simp, rfl, by simp; omega⟩
  rw [linksOf, links_none (by rw [hk]; decide) (by rw [hk]; decide) (by rw [hk]; decide)]
  rfl
theorem blob_l0 (h : putBlobE b = 0) : (!decide (((linksOf (putBlobB b)).length : Int) = 0)) = false := by rw [blob_links h]; rfl
theorem blob_len (h : putBlobE b = 0) : (putBlobB b).length ≤ 140737488355328 := by
  unfold putBlobE at h
  split at h
  · rename_i hl
    rw [show putBlobB b = [1] ++ b from if_pos hl]
    simp only [List.length_append, List.length_cons, List.length_nil]; omega
  · cases h
theorem links_few (b : List UInt8) : (linksOf b).length ≤ 1100000 := by
  have h1 := putAll_len (linksRaw b) []
  have h2 := raw_len (out := linksRaw b) rfl
  simp only [List.length_nil] at h1
  unfold linksOf; omega
end
end Go.Proofs.YthjdhfoeckfmbaaGreat
namespace Go.Proofs.YthjdhfoeckfmbaaGreat
open Go
set_option linter.unusedVariables false
set_option linter.unusedSimpArgs false
set_option linter.unusedSectionVars false
theorem keyT_id {P : Program} {t e : TypeId} {i : TypeInfo} (hu : P.underlying t = some (.array 32 e)) (he : P.underlying e = some (.int .u8)) (hi : P.info? e = some i) (hs : i.size = 1) (ha : ∀ w, (isAgg e).run P w = .ok false w)
    (E : EqV P t 2 (fun d : ID => idV d)) : KeyT P t (fun d : ID => idV d) where
  wide := by rw [hu]
  check em w a := by
    rw [show (10000 : Nat) = (9998 + 1) + 1 from rfl]
    unfold Instr.checkKey
    simp only [Sem.run_bind, run_underlying hu, Result.andThen_ok, idV, aggOf]
    simp only [Std.Legacy.Range.forIn_eq_forIn_range', Std.Legacy.Range.size, Nat.sub_zero, Nat.add_one_sub_one, Nat.div_one]
    have hsz : ∀ w, (sizeOf e).run P w = .ok 1 w := fun w => by rw [run_sizeOf w hi]; simp [Program.cellsOf, hi, hs]
    have key : ∀ q, q < 32 → (part e (idCh a).flatten.toArray (q * 1)).run P w = .ok (.int .u8 (if h : q < 32 then a[q].toNat else 0)) w := by
      intro q hq
      have hfl : ∀ l : List Value, (l.map fun v => [v]).flatten = l := fun l => by
        induction l with
        | nil => rfl
        | cons x l ih => simp [ih]
      have e0 : (idCh a).flatten.toArray = ((idCells a).map fun v => [v]).flatten.toArray := by rw [hfl]; simp [idCh]
      rw [e0]
      refine part_1 (cs := (idCells a).map fun v => [v]) (kk := q) ha ?_ ?_
      · rw [List.getElem?_map, idCells_get a q hq, dif_pos hq]; rfl
      · rw [lenTo, ← List.map_take, hfl, List.length_take, Nat.mul_one]
        exact Nat.min_eq_left (by rw [show (idCells a).length = 32 from rfl]; omega)
    have all : ∀ q ∈ List.range' 0 32, q < 32 := fun q hq => by simp [List.mem_range'] at hq; omega
    generalize List.range' 0 32 = is at all
    induction is with
    | nil => simp
    | cons j is ih =>
      have h1 := key j (all j (by simp))
      have h2 : (Instr.checkKey em (9998 + 1) e (.int .u8 (if h : j < 32 then (a[j].toNat : Int) else 0))).run P w = .ok () w := MapKept.run_checkKey he (by simp [MapKept.IsKey]) em 9998
      simp only [List.forIn_cons, Sem.run_bind, hsz, Result.andThen_ok, h1, h2, Sem.run_pure]
      exact ih (fun y hy => all y (by simp [hy]))
  eq w a b := E 9998 w a b
  same a := by
    rw [show (10000 : Nat) = (9998 + 1) + 1 from rfl]
    simp [Instr.sameBits, idV, aggOf, idCh, idCells, byteV]
theorem C_insert [DD] {α β : Type} [DecidableEq α] {key : α → Value} {val : β → Value} {P : Program} {ρ : Operand → Value} {w0 w : World} {M : Nat → Prop} {B : List Own} {I : List Imm} {K : Value → World → Prop} {d : Option Tmp} {ty : TypeId} {pos : String} {af : Array Edge} {g : Option (Nat × Bool)}
    (H : Ctx w0 M w B I) (i : Nat) {r : Nat} {kv : List (α × β)} (hi : B[i]? = some (mapO r key val kv)) {t kt e : TypeId} {m k x : Operand} {kk : α} {v : β} (E : KeyT P kt key) (hu : P.underlying t = some (.map kt e))
    (hm : ρ m = .map (some r)) (hk : ρ k = key kk) (hx : ρ x = val v)
    (h : ∀ w', Gr (fun k => some r = some k) w w' → Ctx w0 M w' (B.set i (mapO r key val (kvPut kk v kv))) I → K undef w') : Runs P ρ ⟨d, .insert t m k x, ty, pos, af, g⟩ w K :=
  C_mapUpdate (d := d) (ty := ty) (pos := pos) (af := af) (g := g) H i hi E hu hm hk hx h
end Go.Proofs.YthjdhfoeckfmbaaGreat
namespace Go.Proofs.YthjdhfoeckfmbaaGreat
open Go
set_option maxRecDepth 100000
set_option linter.unusedVariables false
set_option linter.unusedSimpArgs false
set_option linter.unusedSectionVars false
variable [DD]
theorem keyT_ID45 : KeyT Tryz.prog 45 (fun x : ID => idV x) := keyT_id (e := 5) (i := Tryz.t5) Tryz.underlying45 Tryz.underlying5 (by kernel_rfl) rfl Tryz.isAgg5 eqv_ID45
end Go.Proofs.YthjdhfoeckfmbaaGreat
