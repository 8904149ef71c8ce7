/- Proved: for every input, pollardlaw04.ObjLinks returns true and leaves its arguments as they were. No condition. -/
import Derived.Test.YthjdhfoeckfmbaaGreatProg
import Derived.Test.YthjdhfoeckfmbaaGreatX0
namespace Go.Proofs.YthjdhfoeckfmbaaGreat
open Go
set_option linter.unusedVariables false
set_option linter.unusedSimpArgs false
set_option linter.unusedSectionVars false
def numGo (u : Nat) : List UInt8 := if h : 127 < u then (UInt8.ofNat u ||| 128) :: numGo (u / 128) else [UInt8.ofNat u]
termination_by u
decreasing_by omega
def numClamp (n : Int) : Nat := (min (max n 0) 4611686018427387904).toNat
def numB (n : Int) : List UInt8 := numGo (numClamp n)
theorem numClamp_le (n : Int) : numClamp n ≤ 4611686018427387904 := by unfold numClamp; omega
theorem numGo_big {u : Nat} (h : 127 < u) : numGo u = (UInt8.ofNat u ||| 128) :: numGo (u / 128) := by rw [numGo]; rw [dif_pos h]
theorem numGo_small {u : Nat} (h : ¬ 127 < u) : numGo u = [UInt8.ofNat u] := by rw [numGo]; rw [dif_neg h]
theorem numGo_len : ∀ (k u : Nat), u < 128 ^ (k + 1) → 1 ≤ (numGo u).length ∧ (numGo u).length ≤ k + 1
  | 0, u, h => by rw [numGo_small (by omega)]; simp
  | k + 1, u, h => by
    by_cases hu : 127 < u
    · rw [numGo_big hu]
      have := numGo_len k (u / 128) (by rw [Nat.pow_succ] at h; exact Nat.div_lt_of_lt_mul (by omega))
      simp only [List.length_cons]; omega
    · rw [numGo_small hu]; simp
theorem numB_len (n : Int) : 1 ≤ (numB n).length ∧ (numB n).length ≤ 9 := by
  have h := numClamp_le n
  have e : 128 ^ (8 + 1) = 9223372036854775808 := by decide
  exact numGo_len 8 _ (by rw [e]; omega)
theorem conv_clamp (n : Int) : IntKind.u64.wrap (min (max n 0) 4611686018427387904) = ((numClamp n : Nat) : Int) := by
  rw [u64_in _ (by omega)]; unfold numClamp; omega
theorem numGo_len1 (u : Nat) : 1 ≤ (numGo u).length := by
  by_cases h : 127 < u
  · rw [numGo_big h]; simp
  · rw [numGo_small h]; simp
theorem num_step {acc b : List UInt8} {u : Nat} {n : Int} (h : acc ++ numGo u = b ++ numB n) (hu : 127 < u) : (acc ++ [UInt8.ofNat u ||| 128]) ++ numGo (u / 128) = b ++ numB n := by
  rw [← h, numGo_big hu]; simp
theorem num_end {acc b : List UInt8} {u : Nat} {n : Int} (h : acc ++ numGo u = b ++ numB n) (hu : ¬ 127 < u) : acc ++ [UInt8.ofNat u] = b ++ numB n := by rw [← h, numGo_small hu]
theorem num_room {acc b : List UInt8} {u : Nat} {n : Int} (h : acc ++ numGo u = b ++ numB n) : acc.length + 1 ≤ b.length + 9 := by
  have h1 := congrArg List.length h
  have h2 := numB_len n
  have h3 := numGo_len1 u
  simp only [List.length_append] at h1
  omega
def atB (s : Stamp) : List UInt8 := numB s.T ++ numB s.R
def textB (s : ByteArray) : List UInt8 := numB s.size ++ s.data.toList
theorem atB_len (s : Stamp) : (atB s).length ≤ 18 := by
  have := numB_len s.T
  have := numB_len s.R
  simp only [atB, List.length_append]; omega
theorem textB_len (s : ByteArray) : (textB s).length ≤ 9 + s.size := by
  have := numB_len s.size
  have e : s.data.toList.length = s.size := by rw [Array.length_toList]; rfl
  simp only [textB, List.length_append, e]; omega
theorem size_data' (s : ByteArray) : s.data.toList.length = s.size := by rw [Array.length_toList]; rfl
theorem bad_ascii : ∀ (j : Nat) b, (⟨#[0, 47, 10]⟩ : ByteArray).data.toList[j]? = some b → b.toNat < 128 := by
  intro j b h
  match j with
  | 0 => simp at h; subst h; decide
  | 1 => simp at h; subst h; decide
  | 2 => simp at h; subst h; decide
  | n + 3 => simp at h
theorem containsAny_iff (l chars : List UInt8) : Lib.containsAny l chars = l.any fun b => chars.contains b := by
  unfold Lib.containsAny
  induction l with
  | nil => rfl
  | cons b l ih =>
    unfold Lib.indexAny
    simp only [List.any_cons]
    by_cases hb : chars.contains b = true
    · simp only [hb, if_true, Bool.true_or]; rfl
    · have hb' : chars.contains b = false := by simpa using hb
      simp only [hb', Bool.false_eq_true, if_false, Bool.false_or]
      rw [← ih]
      by_cases hi : (Lib.indexAny l chars == -1) = true
      · rw [if_pos hi]
        have : Lib.indexAny l chars = -1 := by simpa using hi
        rw [this]
      · rw [if_neg hi]
        have h1 := Lib.indexAny_ge chars l
        have h2 : Lib.indexAny l chars ≠ -1 := by simpa using hi
        rw [decide_eq_decide]; omega
theorem nameOk_any {s : ByteArray} : Value.bool ((((decide ((1 : Int) ≤ ((s.size : Nat) : Int)) && decide (((s.size : Nat) : Int) ≤ 60)) && !decide (s = (⟨#[46]⟩ : ByteArray))) && !decide (s = (⟨#[46, 46]⟩ : ByteArray))) && !Lib.containsAny s.data.toList (⟨#[0, 47, 10]⟩ : ByteArray).data.toList) = Value.bool (nameOk s) := by
  have hc : Lib.containsAny s.data.toList (⟨#[0, 47, 10]⟩ : ByteArray).data.toList = false ↔ ∀ j, j < s.size → badByte (sbyte s j) = false := by
    rw [containsAny_iff, List.any_eq_false]
    constructor
    · intro h j hj
      have := h s[j] (by
        have e : s.data.toList[j]'(by rw [size_data' s]; exact hj) = s[j] := rfl
        rw [← e]; exact List.getElem_mem _)
      rw [sbyte_eq hj]
      simp only [badByte, List.contains_cons, List.contains_nil, Bool.or_false, Bool.not_eq_true, Bool.or_eq_false_iff, beq_eq_false_iff_ne, ne_eq, decide_eq_false_iff_not] at this ⊢
      exact ⟨⟨this.1, this.2.1⟩, this.2.2⟩
    · intro h b hb
      obtain ⟨j, hj, rfl⟩ := List.getElem_of_mem hb
      have hj' : j < s.size := by rw [← size_data' s]; exact hj
      have := h j hj'
      rw [sbyte_eq hj', show s[j] = s.data.toList[j] from rfl] at this
      simp only [badByte, List.contains_cons, List.contains_nil, Bool.or_false, Bool.not_eq_true, Bool.or_eq_false_iff, beq_eq_false_iff_ne, ne_eq, decide_eq_false_iff_not] at this ⊢
      exact ⟨this.1.1, this.1.2, this.2⟩
  refine boolE ?_
  simp only [Bool.and_eq_true, Bool.not_eq_true', decide_eq_false_iff_not, decide_eq_true_eq, hc]
  constructor
  · rintro ⟨⟨⟨⟨h1, h2⟩, h3⟩, h4⟩, h5⟩
    exact ⟨fun e => by rw [e] at h1; exact absurd h1 (by decide), by omega, h3, h4, h5⟩
  · rintro ⟨h1, h2, h3, h4, h5⟩
    refine ⟨⟨⟨⟨?_, by omega⟩, h3⟩, h4⟩, h5⟩
    rcases Nat.eq_zero_or_pos s.size with h0 | h0
    · exact absurd (ByteArray.size_eq_zero_iff.1 h0) h1
    · omega
def headB (h : Head) : List UInt8 := atB h.tm ++ idList h.data
def itemTo (x : ItemS) (j : Nat) : List UInt8 := (((((([] : List UInt8) ++ atB x.node) ++ atB x.tm) ++ textB x.name) ++ idList x.sub) ++ numB ((x.heads.length : Nat) : Int)) ++ ((x.heads.take j).map headB).flatten
def itemB (x : ItemS) : List UInt8 := itemTo x x.heads.length
def dirTo (items : List ItemS) (k : Nat) : List UInt8 := ([2] ++ numB ((items.length : Nat) : Int)) ++ ((items.take k).map itemB).flatten
def dirB (items : List ItemS) : List UInt8 := dirTo items items.length
def putDirB (items : List ItemS) : List UInt8 := if dirOk items = true then dirB items else []
def putDirE (items : List ItemS) : Int := if dirOk items = true then 0 else 1
theorem putDir_no {items : List ItemS} (h : dirOk items = false) : ([] : List UInt8) = putDirB items ∧ (1 : Int) = putDirE items := by
  unfold putDirB putDirE; rw [if_neg (by rw [h]; simp), if_neg (by rw [h]; simp)]; exact ⟨rfl, rfl⟩
theorem dirTo_zero (items : List ItemS) : ([2] : List UInt8) ++ numB ((items.length : Nat) : Int) = dirTo items 0 := by simp [dirTo]
theorem item_end {items : List ItemS} {acc acc2 : List UInt8} {k j : Nat} (ha : acc = dirTo items k) (h2 : acc2 = acc ++ itemTo (nth items k) j) (hk : k < items.length) (hj : j = (nth items k).heads.length) : acc2 = dirTo items (k + 1) := by
  subst ha hj
  rw [h2]
  unfold dirTo
  rw [List.take_succ_eq_append_getElem hk, List.map_append, List.flatten_append, nth_eq hk]
  simp [itemB, List.append_assoc]
theorem item_start (acc : List UInt8) (x : ItemS) : acc ++ ((((([] : List UInt8) ++ atB x.node) ++ atB x.tm) ++ textB x.name) ++ idList x.sub ++ numB ((x.heads.length : Nat) : Int)) = acc ++ itemTo x 0 := by simp [itemTo]
theorem head_step {acc acc2 : List UInt8} {x : ItemS} {j : Nat} (h : acc2 = acc ++ itemTo x j) (hj : j < x.heads.length) : acc2 ++ ((([] : List UInt8) ++ atB (nth x.heads j).tm) ++ idList (nth x.heads j).data) = acc ++ itemTo x (j + 1) := by
  rw [h]
  unfold itemTo
  rw [List.take_succ_eq_append_getElem hj, List.map_append, List.flatten_append, nth_eq hj]
  simp [headB, List.append_assoc]
theorem dir_end {items : List ItemS} {acc : List UInt8} {k : Nat} (ha : acc = dirTo items k) (hD : dirOk items = true) (hk : k = items.length) : acc = putDirB items ∧ (0 : Int) = putDirE items := by
  subst hk
  unfold putDirB putDirE
  rw [if_pos hD, if_pos hD]
  exact ⟨ha, rfl⟩
theorem dirOk_lens {items : List ItemS} {k : Nat} (h : dirOk items = true) (hk : k < items.length) : (nth items k).name.size ≤ 60 ∧ (nth items k).heads.length ≤ 1000 ∧ items.length ≤ 1000 := by
  have h1 := of_decide_eq_true h
  have h2 := of_decide_eq_true (h1.2 k hk).1
  have h3 := of_decide_eq_true h2.2.2.2.1
  exact ⟨h3.2.1, h2.2.2.2.2.1, h1.1⟩
def fixedSt (s : Stamp) : Bool := decide (s.T = 0 ∧ (s.R = 0 ∨ s.R = 1))
end Go.Proofs.YthjdhfoeckfmbaaGreat
namespace Go.Proofs.YthjdhfoeckfmbaaGreat
open Go
set_option linter.unusedVariables false
set_option linter.unusedSimpArgs false
def rdTake (q : List UInt8 × Bool) (n : Nat) : List UInt8 × (List UInt8 × Bool) :=
  if q.2 = true ∨ q.1.length < n then ([], ([], true)) else (q.1.take n, (q.1.drop n, false))
def rdNumGo (most : Int) : Nat → Nat → Nat → List UInt8 × Bool → Nat × (List UInt8 × Bool)
  | 0, _, _, _ => (0, ([], true))
  | f + 1, k, u, q =>
    if (rdTake q 1).1 = [] then (0, (rdTake q 1).2) else
    let b := nth (rdTake q 1).1 0
    let v := u ||| ((b &&& 127).toNat * 2 ^ (7 * k))
    if 127 < b.toNat then rdNumGo most f (k + 1) v (rdTake q 1).2
    else if (4611686018427387904 < v ∨ most < (v : Int)) ∨ (b.toNat = 0 ∧ 0 < k) then (0, ([], true))
    else (v, (rdTake q 1).2)
def rdNum (q : List UInt8 × Bool) (most : Int) : Nat × (List UInt8 × Bool) := rdNumGo most 9 0 0 q
def rdText (q : List UInt8 × Bool) (most : Int) : ByteArray × (List UInt8 × Bool) :=
  (⟨(rdTake (rdNum q most).2 (rdNum q most).1).1.toArray⟩, (rdTake (rdNum q most).2 (rdNum q most).1).2)
def rdId (q : List UInt8 × Bool) : ID × (List UInt8 × Bool) := (idPut zeroId (rdTake q 32).1, (rdTake q 32).2)
def rdAt (q : List UInt8 × Bool) : Stamp × (List UInt8 × Bool) :=
  (⟨((rdNum q 1099511627776).1 : Int), ((rdNum (rdNum q 1099511627776).2 65536).1 : Int)⟩, (rdNum (rdNum q 1099511627776).2 65536).2)
def rdDone (q : List UInt8 × Bool) : Bool := !q.2 && decide (q.1 = [])
def openSt (b : List UInt8) (kind : UInt8) : List UInt8 × Bool := if b = [] ∨ nth b 0 ≠ kind then ([], true) else (b.drop 1, false)
section
variable {q : List UInt8 × Bool} {r : RdS}
theorem take_f {n : Nat} (E : r.st = q) (h : r.bad = true ∨ ((r.b.length : Nat) : Int) < ((n : Nat) : Int)) : rdTake q n = ([], ([], true)) := by
  subst E
  unfold rdTake
  rw [if_pos]
  rcases h with h | h
  · exact .inl h
  · exact .inr (by show r.b.length < n; omega)
theorem take_t {n : Nat} (E : r.st = q) (h : r.bad = false ∧ ¬ ((r.b.length : Nat) : Int) < ((n : Nat) : Int)) : rdTake q n = (r.b.take n, (r.b.drop n, false)) := by
  subst E
  unfold rdTake
  rw [if_neg]
  · rfl
  · rintro (h1 | h1)
    · rw [show r.bad = true from h1] at h; cases h.1
    · exact h.2 (by have : r.b.length < n := h1; omega)
theorem take_st {n : Nat} {H : SlH} (E : r.st = q) (h : r.bad = false ∧ ¬ ((r.b.length : Nat) : Int) < ((n : Nat) : Int)) : (⟨r.b.drop n, H, r.bad⟩ : RdS).st = (rdTake q n).2 := by
  rw [take_t E h, h.1]; rfl
theorem take_ne {n : Nat} (h0 : r.b.take n = []) (hn : 0 < n) (h : r.bad = false ∧ ¬ ((r.b.length : Nat) : Int) < ((n : Nat) : Int)) : False := by
  have := congrArg List.length h0
  rw [List.length_take, List.length_nil] at this
  omega
theorem take_len (q : List UInt8 × Bool) (n : Nat) : (rdTake q n).1.length = n ∨ (rdTake q n).1 = [] := by
  unfold rdTake
  split
  · exact .inr rfl
  · left
    simp; omega
theorem take_len32 (q : List UInt8 × Bool) : (rdTake q 32).1.length = 32 ∨ (rdTake q 32).1 = [] := take_len q 32
theorem take_len1 {h : SlH} (hv : (rdTake q 1).1 = [] → 0 < 1 → h.a.isNone = true) (hn : h.a.isNone = false) : (rdTake q 1).1.length = 1 := by
  rcases take_len q 1 with h1 | h1
  · exact h1
  · rw [hv h1 (by decide)] at hn; cases hn
theorem take_nil1 (h : (rdTake q 1).1 = []) : (rdTake q 1).1 = [] := h
theorem done_eq (E : r.st = q) : Value.bool (!r.bad && decide (((r.b.length : Nat) : Int) = 0)) = Value.bool (rdDone q) := by
  subst E
  congr 1
  show _ = (!r.bad && decide (r.b = []))
  congr 1
  rw [decide_eq_decide, ← List.length_eq_zero_iff]
  omega
theorem open_f {b : List UInt8} {kind : UInt8} (h : ((b.length : Nat) : Int) = 0 ∨ ¬ ((nth b 0).toNat : Int) = (kind.toNat : Int)) : openSt b kind = ([], true) := by
  unfold openSt
  rw [if_pos]
  rcases h with h | h
  · exact .inl (List.length_eq_zero_iff.1 (by omega))
  · exact .inr fun e => h (by rw [e])
theorem open_t {b : List UInt8} {kind : UInt8} (h : ¬ ((b.length : Nat) : Int) = 0 ∧ ((nth b 0).toNat : Int) = (kind.toNat : Int)) : openSt b kind = (b.drop 1, false) := by
  unfold openSt
  rw [if_neg]
  rintro (e | e)
  · exact h.1 (by rw [e]; rfl)
  · exact e (UInt8.toNat_inj.1 (by have := h.2; omega))
variable {most : Int} {q0 : Nat × (List UInt8 × Bool)} {k u : Nat}
theorem num_nil (hgo : rdNumGo most (9 - k) k u q = q0) (hk : k < 9) (h : (rdTake q 1).1 = []) : Value.int .i64 0 = Value.int .i64 ((q0.1 : Nat) : Int) ∧ (rdTake q 1).2 = q0.2 := by
  rw [show 9 - k = (8 - k) + 1 from by omega] at hgo
  subst hgo
  simp [rdNumGo, h]
theorem num_next (hgo : rdNumGo most (9 - k) k u q = q0) (hk : k < 9) (h : (rdTake q 1).1.length = 1) (hb : (127 : Int) < ((nth (rdTake q 1).1 0).toNat : Int)) :
    rdNumGo most (9 - (k + 1)) (k + 1) (u ||| ((nth (rdTake q 1).1 0 &&& 127).toNat * 2 ^ (7 * k))) (rdTake q 1).2 = q0 := by
  rw [show 9 - k = (9 - (k + 1)) + 1 from by omega] at hgo
  have hne : (rdTake q 1).1 ≠ [] := fun e => by rw [e] at h; cases h
  rw [rdNumGo, if_neg hne] at hgo
  simp only at hgo
  rwa [if_pos (by omega)] at hgo
theorem num_bad (hgo : rdNumGo most (9 - k) k u q = q0) (hk : k < 9) (h : (rdTake q 1).1.length = 1) (hb : ¬ (127 : Int) < ((nth (rdTake q 1).1 0).toNat : Int))
    (hc : ((4611686018427387904 : Int) < (((u ||| ((nth (rdTake q 1).1 0 &&& 127).toNat * 2 ^ (7 * k)) : Nat) : Int)) ∨ most < (((u ||| ((nth (rdTake q 1).1 0 &&& 127).toNat * 2 ^ (7 * k)) : Nat) : Int))) ∨ (((nth (rdTake q 1).1 0).toNat : Int) = 0 ∧ (0 : Int) < ((7 * k : Nat) : Int))) :
    Value.int .i64 0 = Value.int .i64 ((q0.1 : Nat) : Int) ∧ ([], true) = q0.2 := by
  rw [show 9 - k = (9 - (k + 1)) + 1 from by omega] at hgo
  have hne : (rdTake q 1).1 ≠ [] := fun e => by rw [e] at h; cases h
  rw [rdNumGo, if_neg hne] at hgo
  simp only at hgo
  rw [if_neg (by omega), if_pos (by omega)] at hgo
  subst hgo
  exact ⟨rfl, rfl⟩
theorem num_ok (hgo : rdNumGo most (9 - k) k u q = q0) (hk : k < 9) (h : (rdTake q 1).1.length = 1) (hb : ¬ (127 : Int) < ((nth (rdTake q 1).1 0).toNat : Int))
    (hc : (¬ (4611686018427387904 : Int) < (((u ||| ((nth (rdTake q 1).1 0 &&& 127).toNat * 2 ^ (7 * k)) : Nat) : Int)) ∧ ¬ most < (((u ||| ((nth (rdTake q 1).1 0 &&& 127).toNat * 2 ^ (7 * k)) : Nat) : Int))) ∧ (¬ ((nth (rdTake q 1).1 0).toNat : Int) = 0 ∨ ¬ (0 : Int) < ((7 * k : Nat) : Int))) :
    Value.int .i64 (((u ||| ((nth (rdTake q 1).1 0 &&& 127).toNat * 2 ^ (7 * k)) : Nat) : Int)) = Value.int .i64 ((q0.1 : Nat) : Int) ∧ (rdTake q 1).2 = q0.2 := by
  rw [show 9 - k = (9 - (k + 1)) + 1 from by omega] at hgo
  have hne : (rdTake q 1).1 ≠ [] := fun e => by rw [e] at h; cases h
  rw [rdNumGo, if_neg hne] at hgo
  simp only at hgo
  rw [if_neg (by omega), if_neg (by omega)] at hgo
  subst hgo
  exact ⟨rfl, rfl⟩
theorem rnum_end (hgo : rdNumGo most (9 - k) k u q = q0) (hk : k = 9) : Value.int .i64 0 = Value.int .i64 ((q0.1 : Nat) : Int) ∧ ([], true) = q0.2 := by
  subst hk
  subst hgo
  exact ⟨rfl, rfl⟩
theorem num_shift : Value.int .i64 (((7 * k : Nat) : Int) + 7) = Value.int .i64 ((7 * (k + 1) : Nat) : Int) := congrArg _ (by omega)
end
theorem num_b1 {u k : Nat} (hu : u < 2 ^ (7 * k)) (hk : k < 9) : u < 18446744073709551616 :=
  Nat.lt_trans hu (Nat.lt_of_le_of_lt (Nat.pow_le_pow_right (by decide) (show 7 * k ≤ 56 from by omega)) (by decide))
theorem and127 (b : UInt8) : (b &&& 127).toNat < 128 := by
  rw [UInt8.toNat_and]
  exact Nat.lt_of_le_of_lt Nat.and_le_right (by decide)
theorem num_b2 {k : Nat} (b : UInt8) (hk : k < 9) : (b &&& 127).toNat * 2 ^ (7 * k) < 18446744073709551616 := by
  have h1 := and127 b
  have h2 : 2 ^ (7 * k) ≤ 2 ^ 56 := Nat.pow_le_pow_right (by decide) (by omega)
  calc _ ≤ 127 * 2 ^ 56 := Nat.mul_le_mul (by omega) h2
    _ < _ := by decide
theorem num_lt {u k : Nat} {b : UInt8} (hu : u < 2 ^ (7 * k)) (hk : k < 9) : (u ||| ((b &&& 127).toNat * 2 ^ (7 * k))) < 2 ^ (7 * (k + 1)) := by
  have h1 := and127 b
  refine Nat.or_lt_two_pow (Nat.lt_of_lt_of_le hu (Nat.pow_le_pow_right (by decide) (by omega))) ?_
  rw [show 7 * (k + 1) = 7 + 7 * k from by omega, Nat.pow_add]
  exact Nat.mul_lt_mul_of_pos_right (by omega) (Nat.pow_pos (by decide))
def putBlobB (b : List UInt8) : List UInt8 := if b.length ≤ 4096 then [1] ++ b else []
def putBlobE (b : List UInt8) : Int := if b.length ≤ 4096 then 0 else 2
theorem putBlob_f {b : List UInt8} (h : (4096 : Int) < ((b.length : Nat) : Int)) : ([] : List UInt8) = putBlobB b ∧ (2 : Int) = putBlobE b := by
  unfold putBlobB putBlobE
  rw [if_neg (by omega), if_neg (by omega)]; exact ⟨rfl, rfl⟩
theorem putBlob_t {b : List UInt8} (h : ¬ (4096 : Int) < ((b.length : Nat) : Int)) : [1] ++ b = putBlobB b ∧ (0 : Int) = putBlobE b := by
  unfold putBlobB putBlobE
  rw [if_pos (by omega), if_pos (by omega)]; exact ⟨rfl, rfl⟩
def blobOk (b : List UInt8) : Prop := 0 < b.length ∧ (nth b 0).toNat = 1 ∧ b.length ≤ 4097
instance (b : List UInt8) : Decidable (blobOk b) := by unfold blobOk; infer_instance
def blobB (b : List UInt8) : List UInt8 := if blobOk b then b.drop 1 else []
def blobE (b : List UInt8) : Int := if blobOk b then 0 else 20
theorem blob_f {b : List UInt8} (h : (((b.length : Nat) : Int) = 0 ∨ ¬ ((nth b 0).toNat : Int) = 1) ∨ (4096 : Int) < ((b.length - 1 : Nat) : Int)) : ([] : List UInt8) = blobB b ∧ (20 : Int) = blobE b := by
  unfold blobB blobE
  have : ¬ blobOk b := fun ⟨h1, h2, h3⟩ => by omega
  rw [if_neg this, if_neg this]; exact ⟨rfl, rfl⟩
theorem blob_t {b : List UInt8} (h : (¬ ((b.length : Nat) : Int) = 0 ∧ ((nth b 0).toNat : Int) = 1) ∧ ¬ (4096 : Int) < ((b.length - 1 : Nat) : Int)) : b.drop 1 = blobB b ∧ (0 : Int) = blobE b := by
  unfold blobB blobE
  have : blobOk b := ⟨by omega, by omega, by omega⟩
  rw [if_pos this, if_pos this]; exact ⟨rfl, rfl⟩
def labelOk (l : Label) : Bool := !decide (l.target = zeroId) && nameOk l.name && decide (((l.msg.size : Nat) : Int) ≤ 200)
def labelB (l : Label) : List UInt8 := (([4] ++ idList l.target) ++ textB l.name) ++ textB l.msg
def putLabelB (l : Label) : List UInt8 := if labelOk l = true then labelB l else []
def putLabelE (l : Label) : Int := if labelOk l = true then 0 else 1
theorem label_eq {l : Label} : Value.bool ((!decide (l.target = zeroId) && nameOk l.name) && decide (((l.msg.size : Nat) : Int) ≤ 200)) = Value.bool (labelOk l) := rfl
theorem putLabel_f {l : Label} (h : labelOk l = false) : ([] : List UInt8) = putLabelB l ∧ (1 : Int) = putLabelE l := by
  unfold putLabelB putLabelE
  rw [h]; exact ⟨rfl, rfl⟩
theorem putLabel_t {l : Label} (h : labelOk l = true) : (([4] ++ idList l.target) ++ textB l.name) ++ textB l.msg = putLabelB l ∧ (0 : Int) = putLabelE l := by
  unfold putLabelB putLabelE
  rw [h]; exact ⟨rfl, rfl⟩
theorem label_size {l : Label} (h : labelOk l = true) : l.name.size ≤ 60 ∧ l.msg.size ≤ 200 := by
  simp only [labelOk, Bool.and_eq_true, decide_eq_true_eq] at h
  exact ⟨(of_decide_eq_true h.1.2).2.1, by omega⟩
theorem label_h1 {l : Label} (h : labelOk l = true) : ([4] ++ idList l.target).length + l.name.size ≤ 70368744177664 := by
  have := label_size h
  rw [List.length_append, idList_len]
  simp only [List.length_cons, List.length_nil]; omega
theorem label_h2 {l : Label} (h : labelOk l = true) : (([4] ++ idList l.target) ++ textB l.name).length + l.msg.size ≤ 70368744177664 := by
  have := label_size h
  have h2 := textB_len l.name
  rw [List.length_append, List.length_append, idList_len]
  simp only [List.length_cons, List.length_nil]; omega
def labelRd (q : List UInt8 × Bool) : Label × (List UInt8 × Bool) :=
  (⟨(rdId q).1, (rdText (rdId q).2 60).1, (rdText (rdText (rdId q).2 60).2 200).1⟩, (rdText (rdText (rdId q).2 60).2 200).2)
def zeroLabel : Label := ⟨zeroId, ByteArray.empty, ByteArray.empty⟩
def labelOf (b : List UInt8) : Label × Int :=
  if rdDone (labelRd (openSt b 4)).2 = true ∧ labelOk (labelRd (openSt b 4)).1 = true then ((labelRd (openSt b 4)).1, 0) else (zeroLabel, 20)
theorem labelOf_f {b : List UInt8} (h : rdDone (labelRd (openSt b 4)).2 = false ∨ labelOk (labelRd (openSt b 4)).1 = false) : Value.tuple #[labelV zeroLabel, .int .i64 20] = .tuple #[labelV (labelOf b).1, .int .i64 (labelOf b).2] := by
  unfold labelOf
  rw [if_neg (fun hh => by rcases h with h | h <;> simp_all)]
theorem labelOf_t {b : List UInt8} (h : rdDone (labelRd (openSt b 4)).2 = true ∧ labelOk (labelRd (openSt b 4)).1 = true) : Value.tuple #[labelV (labelRd (openSt b 4)).1, .int .i64 0] = .tuple #[labelV (labelOf b).1, .int .i64 (labelOf b).2] := by
  unfold labelOf
  rw [if_pos h]
def cmpId (a b : ID) : Int := Lib.compareBytes (idList a) (idList b)
end Go.Proofs.YthjdhfoeckfmbaaGreat
namespace Go.Proofs.YthjdhfoeckfmbaaGreat
open Go
set_option maxRecDepth 100000
set_option linter.unusedVariables false
set_option linter.unusedSimpArgs false
set_option linter.unusedSectionVars false
variable [DD]
theorem cF37 : callable Tryz.prog 37 = true := by kernel_rfl
set_option maxHeartbeats 1000000 in
theorem obj_Blob (hb : SlH) (b : List UInt8) (w : World) (Sb : Sl (Old w) encB 1 hb b w) :
    Calls Tryz.prog 11 #[(slV hb b)] w (Ret fun v w' => ∃ h0, v = .tuple #[slV h0 (blobB b), (.int .i64 (blobE b))] ∧ Ext w w' ∧ OwnS w.heap.size 5 1 encB h0 (blobB b) w') := by
 refine calls_W Tryz.func11 rfl Tryz.ntmps11 rfl ?_
 have H0 := Ctx.start w nob
 have H1 := H0.addSl _ Sb (fun b hb => ⟨hb, fun _ ho => (nomatch ho)⟩)
 have LSb := Sb.len
 refine W_seq (W_reg ?_)
 refine O_as (v := (.slice none 0 0)) rfl rfl (O_as (v := (.int .i64 0)) rfl rfl ?_)
 refine O_nil (Then_n (W_seq (W_seq ?_)))
 refine W_rg [(0, .q 0), (1, .q 0), (2, .q 0), (3, .q 0), (4, .q 0), (5, .q 0), (6, .q 0), (7, .q 0), (8, .q 0), (9, .q 0), (10, .q 0), (11, .q 0), (12, .q 0), (13, .q 0), (14, .q 0)] (by kernel_rfl) ?_
 refine Lx_mv (v := (slV hb b)) rfl rfl rfl (Lx_q rfl rfl _ (fun v4 hv5 => R_len_slice (a := hb.a) (n := b.length) (c := hb.c) Tryz.underlying22 rfl qk) (Lx_q rfl rfl _ (fun v6 hv7 => R_cmp (a := (b.length : Int)) (b := 0) (r := (decide ((b.length : Int) = 0))) rfl rfl rfl qk) (Lx_mv (v := (.bool (decide ((b.length : Int) = 0)))) rfl rfl rfl ?_)))
 refine Lx_qf rfl rfl rfl rfl rfl _ (fun hA v10 hv11 => R_move (v := (slV hb b)) rfl qk) ?_
 refine Lx_qf rfl rfl rfl rfl rfl _ (fun hA v12 hv13 => by
      have hP : ¬ ((b.length : Int) = 0) := (of_decide_eq_false (notT hA))
      exact R_index_pure (H1.sl 0 rfl) (n := b.length) rfl (j := 0) (oo := (hb.o + 0 * 1)) Tryz.underlying22 Tryz.sizeOf5 (gv_t hA) rfl (by omega) (by omega) rfl qk) ?_
 refine Lx_qf rfl rfl rfl rfl rfl _ (fun hA v14 hv15 => by
      have hP : ¬ ((b.length : Int) = 0) := (of_decide_eq_false (notT hA))
      exact R_load1 (v := (.int .u8 ((nth b 0).toNat : Int))) Tryz.isAgg5 (gv_t hA) ((Sl.elem ((H1.ext hv15).sl 0 rfl) (i := 0) (by omega) rfl).chunks 0 1 0 (hb.o + 0 * 1) _ rfl rfl rfl) qk) ?_
 refine Lx_qf rfl rfl rfl rfl rfl _ (fun hA v16 hv17 => R_cmp (a := ((nth b 0).toNat : Int)) (b := 1) (r := (!(decide (((nth b 0).toNat : Int) = 1)))) (gv_t hA) rfl rfl qk) (Lx_q rfl rfl _ (fun v18 hv19 => R_pick rfl pk_or qk) (Lx_mv (v := (.bool ((decide ((b.length : Int) = 0)) || (!(decide (((nth b 0).toNat : Int) = 1)))))) rfl rfl rfl (Lx_qf rfl rfl rfl rfl rfl _ (fun hA v22 hv23 => R_move (v := (slV hb b)) rfl qk) ?_)))
 refine Lx_qf rfl rfl rfl rfl rfl _ (fun hA v24 hv25 => R_len_slice (a := hb.a) (n := b.length) (c := hb.c) Tryz.underlying22 (gv_t hA) qk) ?_
 refine Lx_qf rfl rfl rfl rfl rfl _ (fun hA v26 hv27 => by
      have hP : (¬ ((b.length : Int) = 0) ∧ (((nth b 0).toNat : Int) = 1)) := (And.imp (fun h => (of_decide_eq_false h)) (fun h => (of_decide_eq_true (notF h))) (orF (notT hA)))
      exact R_arith (a := (b.length : Int)) (b := 1) (r0 := (b.length : Int) - 1) (r := ((b.length - 1 : Nat) : Int)) (gv_t hA) rfl rfl (wrapP _ (by omega) (by omega)) qk) ?_
 refine Lx_qf rfl rfl rfl rfl rfl _ (fun hA v28 hv29 => R_cmp (a := ((b.length - 1 : Nat) : Int)) (b := 4096) (r := (decide (4096 < ((b.length - 1 : Nat) : Int)))) (gv_t hA) rfl rfl qk) (Lx_q rfl rfl _ (fun v30 hv31 => R_pick rfl pk_or qk) ?_)
 refine Lx_nil (fun w32 hw33 => ?_)
 have H34 := H1.ext hw33
 refine Then_n ?_
 refine W_cond rfl (fun hc35 => ?_) (fun hc35 => ?_)
 ·have hc35 : ((((b.length : Int) = 0) ∨ ¬ (((nth b 0).toNat : Int) = 1)) ∨ (4096 < ((b.length - 1 : Nat) : Int))) := (Or.imp (fun h => (Or.imp (fun h => (of_decide_eq_true h)) (fun h => (of_decide_eq_false (notT h))) (orT h))) (fun h => (of_decide_eq_true h)) (orT hc35))
  refine W_seq (W_reg ?_)
  refine O_as (v := (.slice none 0 0)) rfl rfl (O_as (v := (.int .i64 20)) rfl rfl ?_)
  refine O_nil (Then_n (W_ret (Then_r ?_)))
  refine ret_2 (v := (.slice none 0 0)) (v' := (.int .i64 20)) Tryz.results11 rfl rfl ?_
  have H36 := H34.addNil 5 1 encB
  have hE : [] = blobB b := (blob_f (by assumption)).1
  have hV : 20 = blobE b := (blob_f (by assumption)).2
  refine ⟨nilH, ?_, H36.gr, ?_⟩
  · exact two_eq (fun l n => Value.tuple #[slV nilH l, Value.int .i64 n]) hE hV
  · have hO := H36.retRow 0 rfl
    exact hE ▸ hO
 ·have hc35 : ((¬ ((b.length : Int) = 0) ∧ (((nth b 0).toNat : Int) = 1)) ∧ ¬ (4096 < ((b.length - 1 : Nat) : Int))) := (And.imp (fun h => (And.imp (fun h => (of_decide_eq_false h)) (fun h => (of_decide_eq_true (notF h))) (orF h))) (fun h => (of_decide_eq_false h)) (orF hc35))
  refine W_skip (Then_n (W_seq (W_reg ?_)))
  refine O_mv (v := (slV hb b)) rfl rfl ?_
  refine O_v rfl (R_sliceS (h := hb) (l := b) (a := 1) (b := b.length) (m := hb.c) (b.drop 1) Tryz.underlying22 Tryz.sizeOf5 rfl rfl rfl rfl (by decide) (by omega) (by first | omega | exact Nat.le_refl _) (by have := Sl.cap (H34.sl 0 rfl); omega) (by first | omega | exact Nat.le_refl _ | (have := Sl.cap (H34.sl 0 rfl); omega)) (by rw [List.take_length])  ?_)
  refine O_v rfl (R_callL (vs := [(slV (hSub hb 1 1 hb.c) (b.drop 1))]) cF37 rfl rfl ((bytes_Clone (hSub hb 1 1 hb.c) (b.drop 1) w32 (Sl.sub (H34.slOld 0 rfl) 1 b.length hb.c (by omega) (by first | omega | exact Nat.le_refl _) (by have := Sl.cap (H34.sl 0 rfl); omega) (by first | omega | exact Nat.le_refl _ | (have := Sl.cap (H34.sl 0 rfl); omega)) (by rw [List.take_length])) (by rw [List.length_drop]; omega)).ret ?_))
  rintro _ w38 ⟨h37, rfl, hx39, ho40⟩
  have H41 := H34.addRow hx39 ho40
  refine O_as (v := (slV h37 (b.drop 1))) rfl rfl (O_as (v := (.int .i64 0)) rfl rfl ?_)
  refine O_nil (Then_n (W_ret ?_))
  refine ret_2 (v := (slV h37 (b.drop 1))) (v' := (.int .i64 0)) Tryz.results11 rfl rfl ?_
  have hE : (b.drop 1) = blobB b := (blob_t (by assumption)).1
  have hV : 0 = blobE b := (blob_t (by assumption)).2
  refine ⟨h37, ?_, H41.gr, ?_⟩
  · exact two_eq (fun l n => Value.tuple #[slV h37 l, Value.int .i64 n]) hE hV
  · have hO := H41.retRow 0 rfl
    exact hE ▸ hO
set_option maxHeartbeats 1000000 in
theorem Reader_Done (br : Nat) (r : RdS) (Sr : Nat → Prop) (q : List UInt8 × Bool) (w : World) (Qr : RdQ 132 br Sr r w) (Er : r.st = q) :
    Calls Tryz.prog 49 #[(.pointer (some ⟨br, 0, none⟩))] w (Ret fun v w' => ∃ (r' : RdS), v = (.bool (rdDone q)) ∧ Gr (fun c => c = br) w w' ∧ RdQ 132 br Sr r' w' ∧ r'.st = q) := by
 refine calls_W Tryz.func49 rfl Tryz.ntmps49 rfl ?_
 have H0 := Qr
 refine W_seq (W_reg ?_)
 refine O_as (v := (.bool false)) rfl rfl ?_
 refine O_nil (Then_n (W_seq ?_))
 refine W_rg [(0, .q 0), (1, .q 0), (2, .q 0), (3, .q 0), (4, .q 0), (5, .q 0), (6, .q 0), (7, .q 0), (8, .q 0), (9, .q 0), (10, .q 0), (11, .q 0), (12, .q 0), (13, .q 0)] (by kernel_rfl) ?_
 refine Lx_mv (v := (.pointer (some ⟨br, 0, none⟩))) rfl rfl rfl (Lx_q rfl rfl _ (fun v3 hv4 => R_nilCheck rfl qk) (Lx_q rfl rfl _ (fun v5 hv6 => R_fieldAddr (off := 1) (oo := 1) Tryz.underlying132 rfl rfl Tryz.sizeOf4 rfl rfl qk) (Lx_q rfl rfl _ (fun v7 hv8 => R_load1 (v := (.bool r.bad)) Tryz.isAgg4 rfl ((H0.ext hv8).bx 0 rfl 1 1 1 1 _ rfl rfl rfl) qk) ?_)))
 refine Lx_q rfl rfl _ (fun v9 hv10 => R_not rfl qk) (Lx_mv (v := (.bool (!r.bad))) rfl rfl rfl (Lx_qt rfl rfl rfl rfl rfl _ (fun hA v13 hv14 => R_move (v := (.pointer (some ⟨br, 0, none⟩))) rfl qk) (Lx_qt rfl rfl rfl rfl rfl _ (fun hA v15 hv16 => R_nilCheck (gv_t hA) qk) ?_)))
 refine Lx_qt rfl rfl rfl rfl rfl _ (fun hA v17 hv18 => R_fieldAddr (off := 0) (oo := 0) Tryz.underlying132 rfl rfl Tryz.sizeOf22 (gv_t hA) rfl qk) (Lx_qt rfl rfl rfl rfl rfl _ (fun hA v19 hv20 => R_load1 (v := (slV r.bh r.b)) Tryz.isAgg22 (gv_t hA) ((H0.ext hv20).bx 0 rfl 0 1 0 0 _ rfl rfl rfl) qk) (Lx_qt rfl rfl rfl rfl rfl _ (fun hA v21 hv22 => R_len_slice (a := r.bh.a) (n := r.b.length) (c := r.bh.c) Tryz.underlying22 (gv_t hA) qk) (Lx_qt rfl rfl rfl rfl rfl _ (fun hA v23 hv24 => R_cmp (a := (r.b.length : Int)) (b := 0) (r := (decide ((r.b.length : Int) = 0))) (gv_t hA) rfl rfl qk) ?_)))
 refine Lx_q rfl rfl _ (fun v25 hv26 => R_pick rfl pk_and qk) (Lx_q rfl rfl _ (fun v27 hv28 => R_assign (v := (.bool ((!r.bad) && (decide ((r.b.length : Int) = 0))))) rfl qk) ?_)
 refine Lx_nil (fun w29 hw30 => ?_)
 have H31 := H0.ext hw30
 refine Then_n (W_ret ?_)
 refine ret_1 (v := (.bool ((!r.bad) && (decide ((r.b.length : Int) = 0))))) Tryz.results49 rfl ?_
 have HQ := ((H31.pick (B' := [boxR br 132 (rdCh r)]) (I' := [slI Sr encB 1 r.bh r.b]) [0] (by decide) rfl (List.forall_mem_cons.2 ⟨List.mem_of_getElem? (i := 0) rfl, fun _ h => (nomatch h)⟩)).rdStart)
 exact ⟨r, (done_eq Er), H31.gr, HQ, Er⟩
set_option maxHeartbeats 1000000 in
theorem Reader_Fail (br : Nat) (r : RdS) (Sr : Nat → Prop) (q : List UInt8 × Bool) (w : World) (Qr : RdQ 132 br Sr r w) (Er : r.st = q) :
    Calls Tryz.prog 87 #[(.pointer (some ⟨br, 0, none⟩))] w (Ret fun v w' => ∃ (r' : RdS), v = .tuple #[] ∧ Gr (fun c => c = br) w w' ∧ RdQ 132 br Sr r' w' ∧ r'.st = ([], true)) := by
 refine calls_W Tryz.func87 rfl Tryz.ntmps87 rfl ?_
 have H0 := Qr
 refine W_reg ?_
 refine O_mv (v := (.pointer (some ⟨br, 0, none⟩))) rfl rfl (O_mv (v := (.pointer (some ⟨br, 0, none⟩))) rfl rfl ?_)
 refine O_v rfl (R_nilCheck rfl ?_)
 refine O_v rfl (R_fieldAddr (off := 0) (oo := 0) Tryz.underlying132 rfl rfl Tryz.sizeOf22 rfl rfl ?_)
 refine O_u (C_store1 H0 0 rfl 0 (v := (.slice none 0 0)) [[(.slice none 0 0)], [(.bool r.bad)]] Tryz.sizeOf22 rfl rfl rfl rfl rfl rfl rfl ?_)
 intro w1 hg2 H3
 refine O_v rfl (R_nilCheck rfl ?_)
 refine O_v rfl (R_fieldAddr (off := 1) (oo := 1) Tryz.underlying132 rfl rfl Tryz.sizeOf4 rfl rfl ?_)
 refine O_u (C_store1 H3 0 rfl 1 (v := (.bool true)) [[(.slice none 0 0)], [(.bool true)]] Tryz.sizeOf4 rfl rfl rfl rfl rfl rfl rfl ?_)
 intro w4 hg5 H6
 refine O_nil (ret_n ?_)
 have H7 := H6.immOf 0 rfl (slI Sr encB 1 nilH ([] : List UInt8)) (fun _ h => h) (fun _ => (Sl.nil _ _ _ _))
 refine ret_0 Tryz.results87 ?_
 have HQ := ((H7.pick (B' := [boxR br 132 (rdCh ({ b := ([] : List UInt8), bh := nilH, bad := true } : RdS))]) (I' := [slI Sr encB 1 nilH ([] : List UInt8)]) [0] (by decide) rfl (List.forall_mem_cons.2 ⟨List.mem_of_getElem? (i := 0) rfl, fun _ h => (nomatch h)⟩)).rdStart)
 exact ⟨({ b := ([] : List UInt8), bh := nilH, bad := true } : RdS), rfl, H7.gr, HQ, rfl⟩
theorem cF87 : callable Tryz.prog 87 = true := by kernel_rfl
set_option maxHeartbeats 1000000 in
theorem Reader_take (br : Nat) (r : RdS) (Sr : Nat → Prop) (q : List UInt8 × Bool) (n : Nat) (w : World) (Qr : RdQ 132 br Sr r w) (Er : r.st = q) :
    Calls Tryz.prog 88 #[(.pointer (some ⟨br, 0, none⟩)), (.int .i64 ((n : Nat) : Int))] w (Ret fun v w' => ∃ (r' : RdS) (h : SlH), v = slV h ((rdTake q n).1) ∧ Gr (fun c => c = br) w w' ∧ RdQ 132 br Sr r' w' ∧ r'.st = (rdTake q n).2 ∧ Sl Sr encB 1 h ((rdTake q n).1) w' ∧ ((rdTake q n).1 = [] → 0 < n → h.a.isNone = true)) := by
 refine calls_W Tryz.func88 rfl Tryz.ntmps88 rfl ?_
 have H0 := Qr
 refine W_seq (W_reg ?_)
 refine O_as (v := (.slice none 0 0)) rfl rfl ?_
 refine O_nil (Then_n (W_seq (W_seq ?_)))
 refine W_rg [(0, .q 0), (1, .q 0), (2, .q 0), (3, .q 0), (4, .q 0), (5, .q 0), (6, .q 0), (7, .q 0), (8, .q 0), (9, .q 0), (10, .q 0), (11, .q 0), (12, .q 0)] (by kernel_rfl) ?_
 refine Lx_mv (v := (.pointer (some ⟨br, 0, none⟩))) rfl rfl rfl (Lx_q rfl rfl _ (fun v3 hv4 => R_nilCheck rfl qk) (Lx_q rfl rfl _ (fun v5 hv6 => R_fieldAddr (off := 1) (oo := 1) Tryz.underlying132 rfl rfl Tryz.sizeOf4 rfl rfl qk) (Lx_q rfl rfl _ (fun v7 hv8 => R_load1 (v := (.bool r.bad)) Tryz.isAgg4 rfl ((H0.ext hv8).bx 0 rfl 1 1 1 1 _ rfl rfl rfl) qk) ?_)))
 refine Lx_mv (v := (.bool r.bad)) rfl rfl rfl (Lx_qf rfl rfl rfl rfl rfl _ (fun hA v11 hv12 => R_move (v := (.int .i64 (n : Int))) rfl qk) (Lx_qf rfl rfl rfl rfl rfl _ (fun hA v13 hv14 => R_move (v := (.pointer (some ⟨br, 0, none⟩))) rfl qk) (Lx_qf rfl rfl rfl rfl rfl _ (fun hA v15 hv16 => R_nilCheck (gv_t hA) qk) ?_)))
 refine Lx_qf rfl rfl rfl rfl rfl _ (fun hA v17 hv18 => R_fieldAddr (off := 0) (oo := 0) Tryz.underlying132 rfl rfl Tryz.sizeOf22 (gv_t hA) rfl qk) (Lx_qf rfl rfl rfl rfl rfl _ (fun hA v19 hv20 => R_load1 (v := (slV r.bh r.b)) Tryz.isAgg22 (gv_t hA) ((H0.ext hv20).bx 0 rfl 0 1 0 0 _ rfl rfl rfl) qk) (Lx_qf rfl rfl rfl rfl rfl _ (fun hA v21 hv22 => R_len_slice (a := r.bh.a) (n := r.b.length) (c := r.bh.c) Tryz.underlying22 (gv_t hA) qk) (Lx_qf rfl rfl rfl rfl rfl _ (fun hA v23 hv24 => R_cmp (a := (n : Int)) (b := (r.b.length : Int)) (r := (decide ((r.b.length : Int) < (n : Int)))) (gv_t hA) (gv_t hA) rfl qk) ?_)))
 refine Lx_q rfl rfl _ (fun v25 hv26 => R_pick rfl pk_or qk) ?_
 refine Lx_nil (fun w27 hw28 => ?_)
 have H29 := H0.ext hw28
 refine Then_n ?_
 refine W_cond rfl (fun hc30 => ?_) (fun hc30 => ?_)
 ·have hc30 : (r.bad = true ∨ ((r.b.length : Int) < (n : Int))) := (Or.imp (fun h => h) (fun h => (of_decide_eq_true h)) (orT hc30))
  refine W_seq (W_reg ?_)
  refine O_mv (v := (.pointer (some ⟨br, 0, none⟩))) rfl rfl ?_
  refine O_v rfl (R_callL (vs := [(.pointer (some ⟨br, 0, none⟩))]) cF87 rfl rfl ((Reader_Fail br r Sr q w27 ((H29.pick (B' := [boxR br 132 (rdCh r)]) (I' := [slI Sr encB 1 r.bh r.b]) [0] (by decide) rfl (List.forall_mem_cons.2 ⟨List.mem_of_getElem? (i := 0) rfl, fun _ h => (nomatch h)⟩)).rdStart) Er).ret ?_))
  rintro _ w32 ⟨r31, rfl, hg33, hQ34, hr35⟩
  have H36 := H29.rdUpd (r := r) 0 0 rfl rfl hg33 hQ34
  refine O_nil (Then_n (W_seq (W_reg ?_)))
  refine O_as (v := (.slice none 0 0)) rfl rfl ?_
  refine O_nil (Then_n (W_ret (Then_r ?_)))
  refine ret_1 (v := (.slice none 0 0)) Tryz.results88 rfl ?_
  have HQ := ((H36.pick (B' := [boxR br 132 (rdCh r31)]) (I' := [slI Sr encB 1 r31.bh r31.b]) [0] (by decide) rfl (List.forall_mem_cons.2 ⟨List.mem_of_getElem? (i := 0) rfl, fun _ h => (nomatch h)⟩)).rdStart)
  exact ⟨r31, nilH, (by rw [take_f Er (by assumption)]; rfl), H36.gr, HQ, (by rw [take_f Er (by assumption)]; exact hr35), (by rw [take_f Er (by assumption)]; exact (Sl.nil _ _ _ _)), (fun _ _ => rfl)⟩
 ·have hc30 : (r.bad = false ∧ ¬ ((r.b.length : Int) < (n : Int))) := (And.imp (fun h => h) (fun h => (of_decide_eq_false h)) (orF hc30))
  refine W_skip (Then_n (W_seq (W_reg ?_)))
  refine O_mv (v := (.pointer (some ⟨br, 0, none⟩))) rfl rfl ?_
  refine O_v rfl (R_nilCheck rfl ?_)
  refine O_v rfl (R_fieldAddr (off := 0) (oo := 0) Tryz.underlying132 rfl rfl Tryz.sizeOf22 rfl rfl ?_)
  refine O_v rfl (R_load1 (v := (slV r.bh r.b)) Tryz.isAgg22 rfl (H29.bx 0 rfl 0 1 0 0 _ rfl rfl rfl) ?_)
  refine O_mv (v := (.int .i64 (n : Int))) rfl rfl (O_mv (v := (.int .i64 (n : Int))) rfl rfl ?_)
  refine O_v rfl (R_sliceS (h := r.bh) (l := r.b) (a := 0) (b := n) (m := n) (r.b.take n) Tryz.underlying22 Tryz.sizeOf5 rfl rfl rfl rfl (by decide) (by omega) (by first | omega | exact Nat.le_refl _) (by have := Sl.cap (H29.sl 0 rfl); omega) (by first | omega | exact Nat.le_refl _ | (have := Sl.cap (H29.sl 0 rfl); omega)) rfl  ?_)
  refine O_as (v := (slV (hSub r.bh 1 0 n) (r.b.take n))) rfl rfl ?_
  refine O_nil (Then_n (W_seq (W_reg ?_)))
  refine O_mv (v := (.pointer (some ⟨br, 0, none⟩))) rfl rfl (O_mv (v := (.pointer (some ⟨br, 0, none⟩))) rfl rfl ?_)
  refine O_v rfl (R_nilCheck rfl ?_)
  refine O_v rfl (R_fieldAddr (off := 0) (oo := 0) Tryz.underlying132 rfl rfl Tryz.sizeOf22 rfl rfl ?_)
  refine O_v rfl (R_load1 (v := (slV r.bh r.b)) Tryz.isAgg22 rfl (H29.bx 0 rfl 0 1 0 0 _ rfl rfl rfl) ?_)
  refine O_mv (v := (.int .i64 (n : Int))) rfl rfl ?_
  refine O_v rfl (R_sliceS (h := r.bh) (l := r.b) (a := n) (b := r.b.length) (m := r.bh.c) (r.b.drop n) Tryz.underlying22 Tryz.sizeOf5 rfl rfl rfl rfl (by decide) (by omega) (by first | omega | exact Nat.le_refl _) (by have := Sl.cap (H29.sl 0 rfl); omega) (by first | omega | exact Nat.le_refl _ | (have := Sl.cap (H29.sl 0 rfl); omega)) (by rw [List.take_length])  ?_)
  refine O_v rfl (R_nilCheck rfl ?_)
  refine O_v rfl (R_fieldAddr (off := 0) (oo := 0) Tryz.underlying132 rfl rfl Tryz.sizeOf22 rfl rfl ?_)
  refine O_u (C_store1 H29 0 rfl 0 (v := (slV (hSub r.bh 1 n r.bh.c) (r.b.drop n))) [[(slV (hSub r.bh 1 n r.bh.c) (r.b.drop n))], [(.bool r.bad)]] Tryz.sizeOf22 rfl rfl rfl rfl rfl rfl rfl ?_)
  intro w37 hg38 H39
  refine O_nil (Then_n (W_seq (W_reg ?_)))
  refine O_mv (v := (slV (hSub r.bh 1 0 n) (r.b.take n))) rfl rfl (O_as (v := (slV (hSub r.bh 1 0 n) (r.b.take n))) rfl rfl ?_)
  refine O_nil (Then_n (W_ret ?_))
  have H40 := H39.immOf 0 rfl (slI Sr encB 1 (hSub r.bh 1 n r.bh.c) (r.b.drop n)) (fun _ h => h) (fun _ => (Sl.sub (H39.sl 0 rfl) n r.b.length r.bh.c (by omega) (by first | omega | exact Nat.le_refl _) (by have := Sl.cap (H29.sl 0 rfl); omega) (by first | omega | exact Nat.le_refl _ | (have := Sl.cap (H29.sl 0 rfl); omega)) (by rw [List.take_length])))
  refine ret_1 (v := (slV (hSub r.bh 1 0 n) (r.b.take n))) Tryz.results88 rfl ?_
  have HQ := ((H40.pick (B' := [boxR br 132 (rdCh ({ b := r.b.drop n, bh := hSub r.bh 1 n r.bh.c, bad := r.bad } : RdS))]) (I' := [slI Sr encB 1 (hSub r.bh 1 n r.bh.c) (r.b.drop n)]) [0] (by decide) rfl (List.forall_mem_cons.2 ⟨List.mem_of_getElem? (i := 0) rfl, fun _ h => (nomatch h)⟩)).rdStart)
  exact ⟨({ b := r.b.drop n, bh := hSub r.bh 1 n r.bh.c, bad := r.bad } : RdS), hSub r.bh 1 0 n, (by rw [take_t Er (by assumption)]), H40.gr, HQ, (take_st Er (by assumption)), (by rw [take_t Er (by assumption)]; exact (Sl.sub (H40.sl 1 rfl) 0 n n (by omega) (by first | omega | exact Nat.le_refl _) (by have := Sl.cap (H29.sl 0 rfl); omega) (by first | omega | exact Nat.le_refl _ | (have := Sl.cap (H29.sl 0 rfl); omega)) rfl)), (fun h0 hn => by rw [take_t Er (by assumption)] at h0; exact (take_ne h0 hn (by assumption)).elim)⟩
theorem cF88 : callable Tryz.prog 88 = true := by kernel_rfl
set_option maxHeartbeats 1000000 in
theorem Reader_Id (br : Nat) (r : RdS) (Sr : Nat → Prop) (q : List UInt8 × Bool) (w : World) (Qr : RdQ 132 br Sr r w) (Er : r.st = q) :
    Calls Tryz.prog 63 #[(.pointer (some ⟨br, 0, none⟩))] w (Ret fun v w' => ∃ (r' : RdS), v = (aggOf (idCh ((rdId q).1))) ∧ Gr (fun c => c = br) w w' ∧ RdQ 132 br Sr r' w' ∧ r'.st = (rdId q).2) := by
 refine calls_W Tryz.func63 rfl Tryz.ntmps63 rfl ?_
 have H0 := Qr
 refine W_seq (W_reg ?_)
 refine O_v rfl (C_alloc H0 [(idCells zeroId)] Tryz.zeroValue45 ?_)
 intro b1 w2 hb3 hx4 H5
 refine O_nil (Then_n (W_seq ?_))
 refine W_rgdM TryzMixed (fun c => c = br) (fun i => if i == 2 then 1 else if i == 3 then 2 else 0) [(0, .q 2), (1, .q 2), (2, .c 1), (3, .c 2)] (by kernel_rfl) ?_
 refine Lx_q rfl rfl _ (fun v6 hv7 => R_slice_arr Tryz.underlying45 Tryz.sizeOf5 rfl (by decide) qk) (Lx_mv (v := (.pointer (some ⟨br, 0, none⟩))) rfl rfl rfl ?_)
 refine Lx_c rfl rfl (fun w10 hw11 => ?_)
 have H12 := H5.ext hw11
 refine (R_callL (vs := [(.pointer (some ⟨br, 0, none⟩)), (.int .i64 32)]) cF88 rfl rfl ((Reader_take br r Sr q 32 w10 ((H12.pick (B' := [boxR br 132 (rdCh r)]) (I' := [slI Sr encB 1 r.bh r.b]) [1] (by decide) rfl (List.forall_mem_cons.2 ⟨List.mem_of_getElem? (i := 0) rfl, fun _ h => (nomatch h)⟩)).rdStart) Er).ret ?_))
 rintro _ w14 ⟨r13, h19, rfl, hg15, hQ16, hr17, hv20, hx21⟩
 have H18 := H12.rdUpd (r := r) 1 0 rfl rfl hg15 hQ16
 have H22 := H18.immOf 0 rfl (slI Sr encB 1 h19 ((rdTake q 32).1)) (fun _ h => h) (fun _ => hv20)
 refine ⟨hg15, ?_⟩
 refine Lx_c rfl rfl (fun w23 hw24 => ?_)
 have H25 := H22.ext hw24
 refine (C_copyId H25 0 (v := zeroId) rfl (H25.sl 0 rfl) (take_len32 _) Tryz.underlying22 Tryz.sizeOf5 rfl ?_)
 intro w26 hg27 H28
 refine ⟨Gr.mono (M' := fun _ => True) hg27 (fun _ _ => trivial), ?_⟩
 refine Lx_nil (fun w29 hw30 => ?_)
 have H31 := H28.ext hw30
 refine Then_n (W_seq (W_reg ?_))
 refine O_v rfl (R_loadA (cs := [(idCells (idPut zeroId ((rdTake q 32).1)))]) Tryz.isAgg45 Tryz.sizeOf45 rfl rfl (H31.bx 0 rfl 0 1 0 0 _ rfl rfl rfl) ?_)
 refine O_u (C_storeW H31 0 rfl (sub := [(idCells (idPut zeroId ((rdTake q 32).1)))]) Tryz.sizeOf45 rfl rfl rfl rfl rfl ?_)
 intro w32 hg33 H34
 refine O_nil (Then_n (W_ret ?_))
 refine ret_c Tryz.results63 (inMem (cs := [(idCells (idPut zeroId ((rdTake q 32).1)))]) rfl Tryz.isAgg45 Tryz.sizeOf45 rfl (boxR_at (H34.getOwn 0 rfl))) ?_
 have HQ := ((H34.pick (B' := [boxR br 132 (rdCh r13)]) (I' := [slI Sr encB 1 r13.bh r13.b]) [1] (by decide) rfl (List.forall_mem_cons.2 ⟨List.mem_of_getElem? (i := 1) rfl, fun _ h => (nomatch h)⟩)).rdStart)
 exact ⟨r13, rfl, H34.gr, HQ, (hr17)⟩
set_option maxHeartbeats 4000000 in
theorem Reader_Num (br : Nat) (r : RdS) (Sr : Nat → Prop) (q : List UInt8 × Bool) (most : Int) (w : World) (Qr : RdQ 132 br Sr r w) (Er : r.st = q) :
    Calls Tryz.prog 46 #[(.pointer (some ⟨br, 0, none⟩)), (.int .i64 most)] w (Ret fun v w' => ∃ (r' : RdS), v = (.int .i64 ((((rdNum q most).1) : Nat) : Int)) ∧ Gr (fun c => c = br) w w' ∧ RdQ 132 br Sr r' w' ∧ r'.st = (rdNum q most).2) := by
 refine calls_W Tryz.func46 rfl Tryz.ntmps46 rfl ?_
 have H0 := Qr
 refine W_seq (W_reg ?_)
 refine O_as (v := (.int .i64 0)) rfl rfl ?_
 refine O_nil (Then_n (W_seq (W_reg ?_)))
 refine O_as (v := (.int .u64 0)) rfl rfl ?_
 refine O_nil (Then_n (W_seq (W_seq (W_reg ?_))))
 refine O_as (v := (.int .i64 0)) rfl rfl ?_
 refine O_nil (Then_n (W_block ?_))
 refine W_loop (fun m1 e2 w3 => ∃ (k : Nat), ∃ (u : Nat), ∃ (rr : RdS), ∃ (rq : List UInt8 × Bool), m1 = 9 - k ∧ (k ≤ 9) ∧ (u < 2 ^ (7 * k)) ∧ (rr.st = rq) ∧ (rdNumGo most (9 - k) k u rq = rdNum q most) ∧ ∃ eb4, e2 = envL [(0, (.pointer (some ⟨br, 0, none⟩))), (1, (.int .i64 most)), (5, (.int .u64 (u : Int))), (6, (.int .i64 ((7 * k : Nat) : Int)))] eb4 ∧ Ctx w (fun c => c = br) w3 [boxR br 132 [[(slV rr.bh rr.b)], [(.bool rr.bad)]]] [slI Sr encB 1 rr.bh rr.b]) _ ⟨0, 0, r, q, rfl, (by omega), (Nat.one_pos), Er, rfl, _, envL_self ⟨rfl, rfl, rfl, rfl, trivial⟩, H0⟩ ?_
 rintro m1 _ w3 ⟨k, u, rr, rq, rfl, hk, hu, hrr, hgo, eb4, rfl, H5⟩
 refine W_seq (W_seq (W_reg ?_))
 refine O_mv (v := (.int .i64 ((7 * k : Nat) : Int))) rfl rfl ?_
 refine O_v rfl (R_cmp (a := ((7 * k : Nat) : Int)) (b := 63) (r := (decide (((7 * k : Nat) : Int) < 63))) rfl rfl rfl ?_)
 refine O_nil (Then_n ?_)
 refine W_cond rfl (fun hc6 => ?_) (fun hc6 => ?_)
 ·have hc6 := (of_decide_eq_true hc6)
  refine W_skip (Then_n (W_seq (W_block (W_seq (W_reg ?_)))))
  refine O_mv (v := (.pointer (some ⟨br, 0, none⟩))) rfl rfl ?_
  refine O_v rfl (R_callL (vs := [(.pointer (some ⟨br, 0, none⟩)), (.int .i64 1)]) cF88 rfl rfl ((Reader_take br rr Sr rq 1 w3 ((H5.pick (B' := [boxR br 132 (rdCh rr)]) (I' := [slI Sr encB 1 rr.bh rr.b]) [0] (by decide) rfl (List.forall_mem_cons.2 ⟨List.mem_of_getElem? (i := 0) rfl, fun _ h => (nomatch h)⟩)).rdStart) hrr).ret ?_))
  rintro _ w8 ⟨r7, h13, rfl, hg9, hQ10, hr11, hv14, hx15⟩
  have H12 := H5.rdUpd (r := rr) 0 0 rfl rfl hg9 hQ10
  have H16 := H12.immOf 0 rfl (slI Sr encB 1 h13 ((rdTake rq 1).1)) (fun _ h => h) (fun _ => hv14)
  refine O_as (v := (slV h13 ((rdTake rq 1).1))) rfl rfl ?_
  refine O_nil (Then_n (W_seq (W_seq (W_reg ?_))))
  refine O_mv (v := (slV h13 ((rdTake rq 1).1))) rfl rfl ?_
  refine O_v rfl (R_slice_nil (a := h13.a) Tryz.underlying22 rfl rfl ?_)
  refine O_nil (Then_n ?_)
  refine W_cond rfl (fun hc17 => ?_) (fun hc17 => ?_)
  ·have hc17 : h13.a.isNone = true := hc17
   have hlen := take_nil1 ((H16.sl 0 rfl).isNil hc17)
   refine W_seq (W_reg ?_)
   refine O_as (v := (.int .i64 0)) rfl rfl ?_
   refine O_nil (Then_n (W_ret (Then_r (Blk_r (Then_r (Then_r (Blk_r (Then_r ?_))))))))
   refine ret_1 (v := (.int .i64 0)) Tryz.results46 rfl ?_
   have HQ := ((H16.pick (B' := [boxR br 132 (rdCh r7)]) (I' := [slI Sr encB 1 r7.bh r7.b]) [0] (by decide) rfl (List.forall_mem_cons.2 ⟨List.mem_of_getElem? (i := 1) rfl, fun _ h => (nomatch h)⟩)).rdStart)
   exact ⟨r7, (num_nil hgo (by omega) hlen).1, H16.gr, HQ, (hr11.trans (num_nil hgo (by omega) hlen).2)⟩
  ·have hc17 : h13.a.isNone = false := hc17
   have hlen := take_len1 (hx15) (hc17)
   refine W_skip (Then_n (W_seq (W_reg ?_)))
   refine O_mv (v := (.int .u64 (u : Int))) rfl rfl (O_mv (v := (slV h13 ((rdTake rq 1).1))) rfl rfl ?_)
   refine O_v rfl (R_index_pure (H16.sl 0 rfl) (n := ((rdTake rq 1).1).length) rfl (j := 0) (oo := (h13.o + 0 * 1)) Tryz.underlying22 Tryz.sizeOf5 rfl rfl (by omega) (by omega) rfl ?_)
   refine O_v rfl (R_load1 (v := (.int .u8 ((nth ((rdTake rq 1).1) 0).toNat : Int))) Tryz.isAgg5 rfl ((Sl.elem (H16.sl 0 rfl) (i := 0) (by omega) rfl).chunks 0 1 0 (h13.o + 0 * 1) _ rfl rfl rfl) ?_)
   refine O_v rfl (R_bits (k := .u8) (a := ((nth ((rdTake rq 1).1) 0).toNat : Int)) (b := ((127 : UInt8).toNat : Int)) (r := (((nth ((rdTake rq 1).1) 0) &&& (127 : UInt8)).toNat : Int)) rfl rfl (bit_and8 _ _) ?_)
   refine O_v rfl (R_conv_int (a := (((nth ((rdTake rq 1).1) 0) &&& (127 : UInt8)).toNat : Int)) (r := (((nth ((rdTake rq 1).1) 0) &&& (127 : UInt8)).toNat : Int)) Tryz.underlying5 Tryz.underlying126 rfl (conv_864 _) ?_)
   refine O_mv (v := (.int .i64 ((7 * k : Nat) : Int))) rfl rfl ?_
   refine O_v rfl (R_shl (a := (((nth ((rdTake rq 1).1) 0) &&& (127 : UInt8)).toNat : Int)) (b := (((7 * k) : Nat) : Int)) (r := ((((nth ((rdTake rq 1).1) 0) &&& (127 : UInt8)).toNat * 2 ^ (7 * k) : Nat) : Int)) rfl rfl (by omega) (shl_nat (by omega) (num_b2 _ (by omega))) ?_)
   refine O_v rfl (R_bits (k := .u64) (a := (u : Int)) (b := ((((nth ((rdTake rq 1).1) 0) &&& (127 : UInt8)).toNat * 2 ^ (7 * k) : Nat) : Int)) (r := ((u ||| (((nth ((rdTake rq 1).1) 0) &&& (127 : UInt8)).toNat * 2 ^ (7 * k)) : Nat) : Int)) rfl rfl (bit_or64 (num_b1 hu (by omega)) (num_b2 _ (by omega))) ?_)
   refine O_as (v := (.int .u64 ((u ||| (((nth ((rdTake rq 1).1) 0) &&& (127 : UInt8)).toNat * 2 ^ (7 * k)) : Nat) : Int))) rfl rfl ?_
   refine O_nil (Then_n (W_seq (W_seq (W_reg ?_))))
   refine O_mv (v := (slV h13 ((rdTake rq 1).1))) rfl rfl ?_
   refine O_v rfl (R_index_pure (H16.sl 0 rfl) (n := ((rdTake rq 1).1).length) rfl (j := 0) (oo := (h13.o + 0 * 1)) Tryz.underlying22 Tryz.sizeOf5 rfl rfl (by omega) (by omega) rfl ?_)
   refine O_v rfl (R_load1 (v := (.int .u8 ((nth ((rdTake rq 1).1) 0).toNat : Int))) Tryz.isAgg5 rfl ((Sl.elem (H16.sl 0 rfl) (i := 0) (by omega) rfl).chunks 0 1 0 (h13.o + 0 * 1) _ rfl rfl rfl) ?_)
   refine O_v rfl (R_cmp (a := ((nth ((rdTake rq 1).1) 0).toNat : Int)) (b := 127) (r := (decide (127 < ((nth ((rdTake rq 1).1) 0).toNat : Int)))) rfl rfl rfl ?_)
   refine O_nil (Then_n ?_)
   refine W_cond rfl (fun hc18 => ?_) (fun hc18 => ?_)
   ·have hc18 := (of_decide_eq_true hc18)
    refine W_exit (Then_x (Blk_x (Then_n (W_reg ?_))))
    refine O_mv (v := (.int .i64 ((7 * k : Nat) : Int))) rfl rfl ?_
    refine O_v rfl (R_arith (a := ((7 * k : Nat) : Int)) (b := 7) (r0 := ((7 * k : Nat) : Int) + 7) (r := ((7 * k : Nat) : Int) + 7) rfl rfl rfl (w64 _ (by omega)) ?_)
    refine O_as (v := (.int .i64 (((7 * k : Nat) : Int) + 7))) rfl rfl ?_
    refine O_nil (Then_n ?_)
    have H19 := H16.sub (List.Sublist.cons_cons _ List.Sublist.slnil) (List.forall_mem_cons.2 ⟨List.mem_of_getElem? (i := 1) rfl, memN⟩)
    refine ⟨_, ?_, (k + 1), (u ||| (((nth ((rdTake rq 1).1) 0) &&& (127 : UInt8)).toNat * 2 ^ (7 * k))), r7, ((rdTake rq 1).2), rfl, (by omega), (num_lt hu (by omega)), hr11, (num_next hgo (by omega) hlen (by assumption)), _, envL_self ⟨rfl, rfl, rfl, num_shift, trivial⟩, H19⟩
    omega
   ·have hc18 := (of_decide_eq_false hc18)
    refine W_skip (Then_n (W_seq (W_seq ?_)))
    refine W_rg [(0, .q 0), (1, .q 0), (2, .q 0), (3, .q 0), (4, .q 0), (5, .q 0), (6, .q 0), (7, .q 0), (8, .q 0), (9, .q 0), (10, .q 0), (11, .q 0), (12, .q 0), (13, .q 0), (14, .q 0), (15, .q 0), (16, .q 0), (17, .q 0)] (by kernel_rfl) ?_
    refine Lx_mv (v := (.int .u64 ((u ||| (((nth ((rdTake rq 1).1) 0) &&& (127 : UInt8)).toNat * 2 ^ (7 * k)) : Nat) : Int))) rfl rfl rfl (Lx_q rfl rfl _ (fun v22 hv23 => R_cmp (a := ((u ||| (((nth ((rdTake rq 1).1) 0) &&& (127 : UInt8)).toNat * 2 ^ (7 * k)) : Nat) : Int)) (b := 4611686018427387904) (r := (decide (4611686018427387904 < ((u ||| (((nth ((rdTake rq 1).1) 0) &&& (127 : UInt8)).toNat * 2 ^ (7 * k)) : Nat) : Int)))) rfl rfl rfl qk) (Lx_mv (v := (.bool (decide (4611686018427387904 < ((u ||| (((nth ((rdTake rq 1).1) 0) &&& (127 : UInt8)).toNat * 2 ^ (7 * k)) : Nat) : Int))))) rfl rfl rfl (Lx_qf rfl rfl rfl rfl rfl _ (fun hA v26 hv27 => R_move (v := (.int .u64 ((u ||| (((nth ((rdTake rq 1).1) 0) &&& (127 : UInt8)).toNat * 2 ^ (7 * k)) : Nat) : Int))) rfl qk) ?_)))
    refine Lx_qf rfl rfl rfl rfl rfl _ (fun hA v28 hv29 => by
            have hP : ¬ (4611686018427387904 < ((u ||| (((nth ((rdTake rq 1).1) 0) &&& (127 : UInt8)).toNat * 2 ^ (7 * k)) : Nat) : Int)) := (of_decide_eq_false (notT hA))
            exact R_conv_int (a := ((u ||| (((nth ((rdTake rq 1).1) 0) &&& (127 : UInt8)).toNat * 2 ^ (7 * k)) : Nat) : Int)) (r := ((u ||| (((nth ((rdTake rq 1).1) 0) &&& (127 : UInt8)).toNat * 2 ^ (7 * k)) : Nat) : Int)) Tryz.underlying126 Tryz.underlying2 (gv_t hA) (w64 _ (by omega)) qk) ?_
    refine Lx_qf rfl rfl rfl rfl rfl _ (fun hA v30 hv31 => R_move (v := (.int .i64 most)) rfl qk) (Lx_qf rfl rfl rfl rfl rfl _ (fun hA v32 hv33 => R_cmp (a := ((u ||| (((nth ((rdTake rq 1).1) 0) &&& (127 : UInt8)).toNat * 2 ^ (7 * k)) : Nat) : Int)) (b := most) (r := (decide (most < ((u ||| (((nth ((rdTake rq 1).1) 0) &&& (127 : UInt8)).toNat * 2 ^ (7 * k)) : Nat) : Int)))) (gv_t hA) (gv_t hA) rfl qk) (Lx_q rfl rfl _ (fun v34 hv35 => R_pick rfl pk_or qk) (Lx_mv (v := (.bool ((decide (4611686018427387904 < ((u ||| (((nth ((rdTake rq 1).1) 0) &&& (127 : UInt8)).toNat * 2 ^ (7 * k)) : Nat) : Int))) || (decide (most < ((u ||| (((nth ((rdTake rq 1).1) 0) &&& (127 : UInt8)).toNat * 2 ^ (7 * k)) : Nat) : Int)))))) rfl rfl rfl ?_)))
    refine Lx_qf rfl rfl rfl rfl rfl _ (fun hA v38 hv39 => R_move (v := (slV h13 ((rdTake rq 1).1))) rfl qk) ?_
    refine Lx_qf rfl rfl rfl rfl rfl _ (fun hA v40 hv41 => by
            have hP : (¬ (4611686018427387904 < ((u ||| (((nth ((rdTake rq 1).1) 0) &&& (127 : UInt8)).toNat * 2 ^ (7 * k)) : Nat) : Int)) ∧ ¬ (most < ((u ||| (((nth ((rdTake rq 1).1) 0) &&& (127 : UInt8)).toNat * 2 ^ (7 * k)) : Nat) : Int))) := (And.imp (fun h => (of_decide_eq_false h)) (fun h => (of_decide_eq_false h)) (orF (notT hA)))
            exact R_index_pure (H16.sl 0 rfl) (n := ((rdTake rq 1).1).length) rfl (j := 0) (oo := (h13.o + 0 * 1)) Tryz.underlying22 Tryz.sizeOf5 (gv_t hA) rfl (by omega) (by omega) rfl qk) ?_
    refine Lx_qf rfl rfl rfl rfl rfl _ (fun hA v42 hv43 => by
            have hP : (¬ (4611686018427387904 < ((u ||| (((nth ((rdTake rq 1).1) 0) &&& (127 : UInt8)).toNat * 2 ^ (7 * k)) : Nat) : Int)) ∧ ¬ (most < ((u ||| (((nth ((rdTake rq 1).1) 0) &&& (127 : UInt8)).toNat * 2 ^ (7 * k)) : Nat) : Int))) := (And.imp (fun h => (of_decide_eq_false h)) (fun h => (of_decide_eq_false h)) (orF (notT hA)))
            exact R_load1 (v := (.int .u8 ((nth ((rdTake rq 1).1) 0).toNat : Int))) Tryz.isAgg5 (gv_t hA) ((Sl.elem ((H16.ext hv43).sl 0 rfl) (i := 0) (by omega) rfl).chunks 0 1 0 (h13.o + 0 * 1) _ rfl rfl rfl) qk) ?_
    refine Lx_qf rfl rfl rfl rfl rfl _ (fun hA v44 hv45 => R_cmp (a := ((nth ((rdTake rq 1).1) 0).toNat : Int)) (b := 0) (r := (decide (((nth ((rdTake rq 1).1) 0).toNat : Int) = 0))) (gv_t hA) rfl rfl qk) (Lx_qf rfl rfl rfl rfl rfl _ (fun hA v46 hv47 => R_move (v := (.bool (decide (((nth ((rdTake rq 1).1) 0).toNat : Int) = 0)))) (gv_t hA) qk) (Lx_gt (!((decide (4611686018427387904 < ((u ||| (((nth ((rdTake rq 1).1) 0) &&& (127 : UInt8)).toNat * 2 ^ (7 * k)) : Nat) : Int))) || (decide (most < ((u ||| (((nth ((rdTake rq 1).1) 0) &&& (127 : UInt8)).toNat * 2 ^ (7 * k)) : Nat) : Int))))) (decide (((nth ((rdTake rq 1).1) 0).toNat : Int) = 0)) rfl rfl rfl rfl rfl _ (fun hA v48 hv49 => R_move (v := (.int .i64 ((7 * k : Nat) : Int))) rfl qk) (Lx_gt (!((decide (4611686018427387904 < ((u ||| (((nth ((rdTake rq 1).1) 0) &&& (127 : UInt8)).toNat * 2 ^ (7 * k)) : Nat) : Int))) || (decide (most < ((u ||| (((nth ((rdTake rq 1).1) 0) &&& (127 : UInt8)).toNat * 2 ^ (7 * k)) : Nat) : Int))))) (decide (((nth ((rdTake rq 1).1) 0).toNat : Int) = 0)) rfl rfl rfl rfl rfl _ (fun hA v50 hv51 => R_cmp (a := ((7 * k : Nat) : Int)) (b := 0) (r := (decide (0 < ((7 * k : Nat) : Int)))) (gv_t hA) rfl rfl qk) ?_)))
    refine Lx_qf rfl rfl rfl rfl rfl _ (fun hA v52 hv53 => R_pick (gv_t hA) (pk_andA hA) qk) (Lx_q rfl rfl _ (fun v54 hv55 => R_pick rfl pk_or qk) ?_)
    refine Lx_nil (fun w56 hw57 => ?_)
    have H58 := H16.ext hw57
    refine Then_n ?_
    refine W_cond rfl (fun hc59 => ?_) (fun hc59 => ?_)
    ·have hc59 : (((4611686018427387904 < ((u ||| (((nth ((rdTake rq 1).1) 0) &&& (127 : UInt8)).toNat * 2 ^ (7 * k)) : Nat) : Int)) ∨ (most < ((u ||| (((nth ((rdTake rq 1).1) 0) &&& (127 : UInt8)).toNat * 2 ^ (7 * k)) : Nat) : Int))) ∨ ((((nth ((rdTake rq 1).1) 0).toNat : Int) = 0) ∧ (0 < ((7 * k : Nat) : Int)))) := (Or.imp (fun h => (Or.imp (fun h => (of_decide_eq_true h)) (fun h => (of_decide_eq_true h)) (orT h))) (fun h => (And.imp (fun h => (of_decide_eq_true h)) (fun h => (of_decide_eq_true h)) (andT h))) (orT hc59))
     refine W_exit (Then_x ?_)
     refine Blk_o rfl ?_
     refine Then_x (Then_x (Blk_x (Then_n (W_seq (W_reg ?_)))))
     refine O_mv (v := (.pointer (some ⟨br, 0, none⟩))) rfl rfl ?_
     refine O_v rfl (R_callL (vs := [(.pointer (some ⟨br, 0, none⟩))]) cF87 rfl rfl ((Reader_Fail br r7 Sr ((rdTake rq 1).2) w56 ((H58.pick (B' := [boxR br 132 (rdCh r7)]) (I' := [slI Sr encB 1 r7.bh r7.b]) [0] (by decide) rfl (List.forall_mem_cons.2 ⟨List.mem_of_getElem? (i := 1) rfl, fun _ h => (nomatch h)⟩)).rdStart) hr11).ret ?_))
     rintro _ w61 ⟨r60, rfl, hg62, hQ63, hr64⟩
     have H65 := H58.rdUpd (r := r7) 0 1 rfl rfl hg62 hQ63
     refine O_nil (Then_n (W_seq (W_reg ?_)))
     refine O_as (v := (.int .i64 0)) rfl rfl ?_
     refine O_nil (Then_n (W_ret ?_))
     refine ret_1 (v := (.int .i64 0)) Tryz.results46 rfl ?_
     have HQ := ((H65.pick (B' := [boxR br 132 (rdCh r60)]) (I' := [slI Sr encB 1 r60.bh r60.b]) [0] (by decide) rfl (List.forall_mem_cons.2 ⟨List.mem_of_getElem? (i := 1) rfl, fun _ h => (nomatch h)⟩)).rdStart)
     exact ⟨r60, (num_bad hgo (by omega) hlen (by assumption) (by assumption)).1, H65.gr, HQ, (hr64.trans (num_bad hgo (by omega) hlen (by assumption) (by assumption)).2)⟩
    ·have hc59 : ((¬ (4611686018427387904 < ((u ||| (((nth ((rdTake rq 1).1) 0) &&& (127 : UInt8)).toNat * 2 ^ (7 * k)) : Nat) : Int)) ∧ ¬ (most < ((u ||| (((nth ((rdTake rq 1).1) 0) &&& (127 : UInt8)).toNat * 2 ^ (7 * k)) : Nat) : Int))) ∧ (¬ (((nth ((rdTake rq 1).1) 0).toNat : Int) = 0) ∨ ¬ (0 < ((7 * k : Nat) : Int)))) := (And.imp (fun h => (And.imp (fun h => (of_decide_eq_false h)) (fun h => (of_decide_eq_false h)) (orF h))) (fun h => (Or.imp (fun h => (of_decide_eq_false h)) (fun h => (of_decide_eq_false h)) (andF h))) (orF hc59))
     refine W_skip (Then_n (W_seq (W_reg ?_)))
     refine O_mv (v := (.int .u64 ((u ||| (((nth ((rdTake rq 1).1) 0) &&& (127 : UInt8)).toNat * 2 ^ (7 * k)) : Nat) : Int))) rfl rfl ?_
     refine O_v rfl (R_conv_int (a := ((u ||| (((nth ((rdTake rq 1).1) 0) &&& (127 : UInt8)).toNat * 2 ^ (7 * k)) : Nat) : Int)) (r := ((u ||| (((nth ((rdTake rq 1).1) 0) &&& (127 : UInt8)).toNat * 2 ^ (7 * k)) : Nat) : Int)) Tryz.underlying126 Tryz.underlying2 rfl (w64 _ (by omega)) ?_)
     refine O_as (v := (.int .i64 ((u ||| (((nth ((rdTake rq 1).1) 0) &&& (127 : UInt8)).toNat * 2 ^ (7 * k)) : Nat) : Int))) rfl rfl ?_
     refine O_nil (Then_n (W_ret (Blk_r (Then_r (Then_r (Blk_r (Then_r ?_)))))))
     refine ret_1 (v := (.int .i64 ((u ||| (((nth ((rdTake rq 1).1) 0) &&& (127 : UInt8)).toNat * 2 ^ (7 * k)) : Nat) : Int))) Tryz.results46 rfl ?_
     have HQ := ((H58.pick (B' := [boxR br 132 (rdCh r7)]) (I' := [slI Sr encB 1 r7.bh r7.b]) [0] (by decide) rfl (List.forall_mem_cons.2 ⟨List.mem_of_getElem? (i := 1) rfl, fun _ h => (nomatch h)⟩)).rdStart)
     exact ⟨r7, (num_ok hgo (by omega) hlen (by assumption) (by assumption)).1, H58.gr, HQ, (hr11.trans (num_ok hgo (by omega) hlen (by assumption) (by assumption)).2)⟩
 ·have hc6 := (of_decide_eq_false hc6)
  refine W_exit (Then_x (Then_x (Blk_x (Then_n (W_seq (W_reg ?_))))))
  refine O_mv (v := (.pointer (some ⟨br, 0, none⟩))) rfl rfl ?_
  refine O_v rfl (R_callL (vs := [(.pointer (some ⟨br, 0, none⟩))]) cF87 rfl rfl ((Reader_Fail br rr Sr rq w3 ((H5.pick (B' := [boxR br 132 (rdCh rr)]) (I' := [slI Sr encB 1 rr.bh rr.b]) [0] (by decide) rfl (List.forall_mem_cons.2 ⟨List.mem_of_getElem? (i := 0) rfl, fun _ h => (nomatch h)⟩)).rdStart) hrr).ret ?_))
  rintro _ w67 ⟨r66, rfl, hg68, hQ69, hr70⟩
  have H71 := H5.rdUpd (r := rr) 0 0 rfl rfl hg68 hQ69
  refine O_nil (Then_n (W_seq (W_reg ?_)))
  refine O_as (v := (.int .i64 0)) rfl rfl ?_
  refine O_nil (Then_n (W_ret ?_))
  refine ret_1 (v := (.int .i64 0)) Tryz.results46 rfl ?_
  have HQ := ((H71.pick (B' := [boxR br 132 (rdCh r66)]) (I' := [slI Sr encB 1 r66.bh r66.b]) [0] (by decide) rfl (List.forall_mem_cons.2 ⟨List.mem_of_getElem? (i := 0) rfl, fun _ h => (nomatch h)⟩)).rdStart)
  exact ⟨r66, (rnum_end hgo (by omega)).1, H71.gr, HQ, (hr70.trans (rnum_end hgo (by omega)).2)⟩
theorem cF46 : callable Tryz.prog 46 = true := by kernel_rfl
set_option maxHeartbeats 1000000 in
theorem Reader_Text (br : Nat) (r : RdS) (Sr : Nat → Prop) (q : List UInt8 × Bool) (most : Int) (w : World) (Qr : RdQ 132 br Sr r w) (Er : r.st = q) :
    Calls Tryz.prog 65 #[(.pointer (some ⟨br, 0, none⟩)), (.int .i64 most)] w (Ret fun v w' => ∃ (r' : RdS), v = (.string ((rdText q most).1)) ∧ Gr (fun c => c = br) w w' ∧ RdQ 132 br Sr r' w' ∧ r'.st = (rdText q most).2) := by
 refine calls_W Tryz.func65 rfl Tryz.ntmps65 rfl ?_
 have H0 := Qr
 refine W_seq (W_reg ?_)
 refine O_as (v := (.string ByteArray.empty)) rfl rfl ?_
 refine O_nil (Then_n (W_seq (W_reg ?_)))
 refine O_mv (v := (.pointer (some ⟨br, 0, none⟩))) rfl rfl (O_mv (v := (.pointer (some ⟨br, 0, none⟩))) rfl rfl (O_mv (v := (.int .i64 most)) rfl rfl ?_))
 refine O_v rfl (R_callL (vs := [(.pointer (some ⟨br, 0, none⟩)), (.int .i64 most)]) cF46 rfl rfl ((Reader_Num br r Sr q most w ((H0.pick (B' := [boxR br 132 (rdCh r)]) (I' := [slI Sr encB 1 r.bh r.b]) [0] (by decide) rfl (List.forall_mem_cons.2 ⟨List.mem_of_getElem? (i := 0) rfl, fun _ h => (nomatch h)⟩)).rdStart) Er).ret ?_))
 rintro _ w2 ⟨r1, rfl, hg3, hQ4, hr5⟩
 have H6 := H0.rdUpd (r := r) 0 0 rfl rfl hg3 hQ4
 refine O_v rfl (R_callL (vs := [(.pointer (some ⟨br, 0, none⟩)), (.int .i64 (((rdNum q most).1) : Int))]) cF88 rfl rfl ((Reader_take br r1 Sr ((rdNum q most).2) ((rdNum q most).1) w2 ((H6.pick (B' := [boxR br 132 (rdCh r1)]) (I' := [slI Sr encB 1 r1.bh r1.b]) [0] (by decide) rfl (List.forall_mem_cons.2 ⟨List.mem_of_getElem? (i := 0) rfl, fun _ h => (nomatch h)⟩)).rdStart) hr5).ret ?_))
 rintro _ w8 ⟨r7, h13, rfl, hg9, hQ10, hr11, hv14, hx15⟩
 have H12 := H6.rdUpd (r := r1) 0 0 rfl rfl hg9 hQ10
 have H16 := H12.immOf 0 rfl (slI Sr encB 1 h13 ((rdTake ((rdNum q most).2) ((rdNum q most).1)).1)) (fun _ h => h) (fun _ => hv14)
 refine O_v rfl (R_conv_bs (l := (rdTake ((rdNum q most).2) ((rdNum q most).1)).1) Tryz.underlying22 Tryz.underlying5 Tryz.underlying9 (H16.sl 0 rfl) rfl ?_)
 refine O_as (v := (.string (⟨((rdTake ((rdNum q most).2) ((rdNum q most).1)).1).toArray⟩ : ByteArray))) rfl rfl ?_
 refine O_nil (Then_n (W_ret ?_))
 refine ret_1 (v := (.string (⟨((rdTake ((rdNum q most).2) ((rdNum q most).1)).1).toArray⟩ : ByteArray))) Tryz.results65 rfl ?_
 have HQ := ((H16.pick (B' := [boxR br 132 (rdCh r7)]) (I' := [slI Sr encB 1 r7.bh r7.b]) [0] (by decide) rfl (List.forall_mem_cons.2 ⟨List.mem_of_getElem? (i := 1) rfl, fun _ h => (nomatch h)⟩)).rdStart)
 exact ⟨r7, rfl, H16.gr, HQ, (hr11)⟩
set_option maxHeartbeats 1000000 in
theorem Clone_byte (hs : SlH) (s : List UInt8) (w : World) (Ss : Sl (Old w) encB 1 hs s w) (hl : s.length ≤ 140737488355328) :
    Calls Tryz.prog 85 #[(slV hs s)] w (Ret fun v w' => ∃ h, v = slV h (s) ∧ Ext w w' ∧ OwnS w.heap.size 5 1 encB h (s) w') := by
 refine calls_W Tryz.func85 rfl Tryz.ntmps85 rfl ?_
 have H0 := Ctx.start w nob
 have H1 := H0.addSl _ Ss (fun b hb => ⟨hb, fun _ ho => (nomatch ho)⟩)
 have LSs := Ss.len
 refine W_seq (W_reg ?_)
 refine O_as (v := (.slice none 0 0)) rfl rfl ?_
 refine O_nil (Then_n (W_seq (W_seq (W_reg ?_))))
 refine O_mv (v := (slV hs s)) rfl rfl ?_
 refine O_v rfl (R_slice_nil (a := hs.a) Tryz.underlying22 rfl rfl ?_)
 refine O_nil (Then_n ?_)
 refine W_cond rfl (fun hc2 => ?_) (fun hc2 => ?_)
 ·have hc2 : hs.a.isNone = true := hc2
  refine W_seq (W_reg ?_)
  refine O_as (v := (.slice none 0 0)) rfl rfl ?_
  refine O_nil (Then_n (W_ret (Then_r ?_)))
  refine ret_1 (v := (.slice none 0 0)) Tryz.results85 rfl ?_
  have H3 := H1.addNil 5 1 encB
  have hE : [] = s := (Sl.isNil Ss (by assumption)).symm
  refine ⟨nilH, ?_, H3.gr, ?_⟩
  · exact congrArg (fun l => slV nilH l) hE
  · have hO := H3.retRow 0 rfl
    exact hE ▸ hO
 ·have hc2 : hs.a.isNone = false := hc2
  refine W_skip (Then_n (W_seq (W_reg ?_)))
  refine O_v rfl (C_buildSliceL H1 (enc := encB) (val := byteV) ([] : List UInt8) Tryz.underlying22 Tryz.sizeOf5 Tryz.zeroValue5 rfl (by decide) (fun _ => rfl) (fun _ => rfl) rfl rfl (by decide) ?_)
  intro b4 w5 hb6 hx7 H8
  refine O_mv (v := (slV hs s)) rfl rfl ?_
  refine O_v rfl (C_append H8 0 rfl (bytes := 1) (l := ([] : List UInt8)) (ys := s) Tryz.underlying22 rfl rfl rfl rfl rfl (by decide) rfl rfl (H8.sl 0 rfl) (fun _ => rfl) (fun _ => rfl) (by simpa using hl) (by decide) ?_)
  intro h9 w10 hg11 H12
  refine O_as (v := (slV h9 (([] : List UInt8) ++ s))) rfl rfl ?_
  refine O_nil (Then_n (W_ret ?_))
  refine ret_1 (v := (slV h9 (([] : List UInt8) ++ s))) Tryz.results85 rfl ?_
  have hE : ([] : List UInt8) ++ s = s := List.nil_append _
  refine ⟨h9, ?_, H12.gr, ?_⟩
  · exact congrArg (fun l => slV h9 l) hE
  · have hO := H12.retRow 0 rfl
    exact hE ▸ hO
theorem cF85 : callable Tryz.prog 85 = true := by kernel_rfl
set_option maxHeartbeats 1000000 in
theorem enc_Read (hb : SlH) (b : List UInt8) (w : World) (Sb : Sl (Old w) encB 1 hb b w) (hl : b.length ≤ 140737488355328) :
    Calls Tryz.prog 86 #[(slV hb b)] w (Ret fun v w' => ∃ (bR : Nat) (rR : RdS) (SR : Nat → Prop), v = .pointer (some ⟨bR, 0, none⟩) ∧ Ext w w' ∧ w.heap.size ≤ bR ∧ (∀ c, SR c → w.heap.size ≤ c) ∧ RdQ 132 bR SR rR w' ∧ rR.st = (b, false)) := by
 refine calls_W Tryz.func86 rfl Tryz.ntmps86 rfl ?_
 have H0 := Ctx.start w nob
 have H1 := H0.addSl _ Sb (fun b hb => ⟨hb, fun _ ho => (nomatch ho)⟩)
 have LSb := Sb.len
 refine W_seq (W_reg ?_)
 refine O_as (v := (.pointer none)) rfl rfl ?_
 refine O_nil (Then_n (W_seq (W_reg ?_)))
 refine O_mv (v := (slV hb b)) rfl rfl ?_
 refine O_v rfl (R_callL (vs := [(slV hb b)]) cF85 rfl rfl ((Clone_byte hb b w (H1.slOld 0 rfl) (by omega)).ret ?_))
 rintro _ w3 ⟨h2, rfl, hx4, ho5⟩
 have H6 := H1.addRow hx4 ho5
 refine O_v rfl (R_buildL (vs := [(0, (slV h2 b))]) (v := aggOf [[(slV h2 b)], [(.bool false)]]) rfl (fun _ => by kernel_rfl) ?_)
 refine O_v rfl (C_box H6 [[(slV h2 b)], [(.bool false)]] rfl ?_)
 intro b7 w8 hb9 hx10 H11
 refine O_as (v := (.pointer (some ⟨b7, 0, none⟩))) rfl rfl ?_
 refine O_nil (Then_n (W_ret ?_))
 refine ret_1 (v := (.pointer (some ⟨b7, 0, none⟩))) Tryz.results86 rfl ?_
 have hn12 := H11.newRow 1 rfl
 have H13 := H11.freeze 1 rfl (fun _ => rfl)
 exact ⟨b7, ({ b := b, bh := h2, bad := false } : RdS), (fun z_ => (slV h2 b).ownBlock = some z_), rfl, H13.gr, H13.boxNew' 0 rfl, hn12, ((H13.pick (B' := [boxR b7 132 (rdCh ({ b := b, bh := h2, bad := false } : RdS))]) (I' := [slI (fun z_ => (slV h2 b).ownBlock = some z_) encB 1 h2 b]) [0] (by decide) rfl (List.forall_mem_cons.2 ⟨List.mem_of_getElem? (i := 0) rfl, fun _ h => (nomatch h)⟩)).rdStart), rfl⟩
theorem cF86 : callable Tryz.prog 86 = true := by kernel_rfl
set_option maxHeartbeats 1000000 in
theorem obj_open (hb : SlH) (b : List UInt8) (kind : UInt8) (w : World) (Sb : Sl (Old w) encB 1 hb b w) (hl : b.length ≤ 140737488355328) :
    Calls Tryz.prog 45 #[(slV hb b), (.int .u8 (kind.toNat : Int))] w (Ret fun v w' => ∃ (bR : Nat) (rR : RdS) (SR : Nat → Prop), v = .pointer (some ⟨bR, 0, none⟩) ∧ Ext w w' ∧ w.heap.size ≤ bR ∧ (∀ c, SR c → w.heap.size ≤ c) ∧ RdQ 132 bR SR rR w' ∧ rR.st = openSt b kind) := by
 refine calls_W Tryz.func45 rfl Tryz.ntmps45 rfl ?_
 have H0 := Ctx.start w nob
 have H1 := H0.addSl _ Sb (fun b hb => ⟨hb, fun _ ho => (nomatch ho)⟩)
 have LSb := Sb.len
 refine W_seq (W_reg ?_)
 refine O_as (v := (.pointer none)) rfl rfl ?_
 refine O_nil (Then_n (W_seq (W_seq ?_)))
 refine W_rg [(0, .q 0), (1, .q 0), (2, .q 0), (3, .q 0), (4, .q 0), (5, .q 0), (6, .q 0), (7, .q 0), (8, .q 0), (9, .q 0)] (by kernel_rfl) ?_
 refine Lx_mv (v := (slV hb b)) rfl rfl rfl (Lx_q rfl rfl _ (fun v4 hv5 => R_len_slice (a := hb.a) (n := b.length) (c := hb.c) Tryz.underlying22 rfl qk) (Lx_q rfl rfl _ (fun v6 hv7 => R_cmp (a := (b.length : Int)) (b := 0) (r := (decide ((b.length : Int) = 0))) rfl rfl rfl qk) (Lx_mv (v := (.bool (decide ((b.length : Int) = 0)))) rfl rfl rfl ?_)))
 refine Lx_qf rfl rfl rfl rfl rfl _ (fun hA v10 hv11 => R_move (v := (slV hb b)) rfl qk) ?_
 refine Lx_qf rfl rfl rfl rfl rfl _ (fun hA v12 hv13 => by
      have hP : ¬ ((b.length : Int) = 0) := (of_decide_eq_false (notT hA))
      exact R_index_pure (H1.sl 0 rfl) (n := b.length) rfl (j := 0) (oo := (hb.o + 0 * 1)) Tryz.underlying22 Tryz.sizeOf5 (gv_t hA) rfl (by omega) (by omega) rfl qk) ?_
 refine Lx_qf rfl rfl rfl rfl rfl _ (fun hA v14 hv15 => by
      have hP : ¬ ((b.length : Int) = 0) := (of_decide_eq_false (notT hA))
      exact R_load1 (v := (.int .u8 ((nth b 0).toNat : Int))) Tryz.isAgg5 (gv_t hA) ((Sl.elem ((H1.ext hv15).sl 0 rfl) (i := 0) (by omega) rfl).chunks 0 1 0 (hb.o + 0 * 1) _ rfl rfl rfl) qk) ?_
 refine Lx_qf rfl rfl rfl rfl rfl _ (fun hA v16 hv17 => R_move (v := (.int .u8 (kind.toNat : Int))) rfl qk) (Lx_qf rfl rfl rfl rfl rfl _ (fun hA v18 hv19 => R_cmp (a := ((nth b 0).toNat : Int)) (b := (kind.toNat : Int)) (r := (!(decide (((nth b 0).toNat : Int) = (kind.toNat : Int))))) (gv_t hA) (gv_t hA) rfl qk) (Lx_q rfl rfl _ (fun v20 hv21 => R_pick rfl pk_or qk) ?_))
 refine Lx_nil (fun w22 hw23 => ?_)
 have H24 := H1.ext hw23
 refine Then_n ?_
 refine W_cond rfl (fun hc25 => ?_) (fun hc25 => ?_)
 ·have hc25 : (((b.length : Int) = 0) ∨ ¬ (((nth b 0).toNat : Int) = (kind.toNat : Int))) := (Or.imp (fun h => (of_decide_eq_true h)) (fun h => (of_decide_eq_false (notT h))) (orT hc25))
  refine W_seq (W_reg ?_)
  refine O_v rfl (R_callL (vs := [(.slice none 0 0)]) cF86 rfl rfl ((enc_Read nilH [] w22 (Sl.nil _ _ _ _) (Nat.zero_le _)).ret ?_))
  rintro _ w29 ⟨b26, r27, S28, rfl, hx30, hb31, hS32, hQ33, hr34⟩
  have H35 := H24.addRd hx30 hb31 hS32 hQ33
  refine O_as (v := (.pointer (some ⟨b26, 0, none⟩))) rfl rfl ?_
  refine O_nil (Then_n (W_seq (W_reg ?_)))
  refine O_mv (v := (.pointer (some ⟨b26, 0, none⟩))) rfl rfl ?_
  refine O_v rfl (R_callL (vs := [(.pointer (some ⟨b26, 0, none⟩))]) cF87 rfl rfl ((Reader_Fail b26 r27 S28 ([], false) w29 ((H35.pick (B' := [boxR b26 132 (rdCh r27)]) (I' := [slI S28 encB 1 r27.bh r27.b]) [0] (by decide) rfl (List.forall_mem_cons.2 ⟨List.mem_of_getElem? (i := 0) rfl, fun _ h => (nomatch h)⟩)).rdStart) hr34).ret ?_))
  rintro _ w37 ⟨r36, rfl, hg38, hQ39, hr40⟩
  have H41 := H35.rdUpd (r := r27) 0 0 rfl rfl hg38 hQ39
  refine O_nil (Then_n (W_seq (W_reg ?_)))
  refine O_mv (v := (.pointer (some ⟨b26, 0, none⟩))) rfl rfl (O_as (v := (.pointer (some ⟨b26, 0, none⟩))) rfl rfl ?_)
  refine O_nil (Then_n (W_ret (Then_r ?_)))
  refine ret_1 (v := (.pointer (some ⟨b26, 0, none⟩))) Tryz.results45 rfl ?_
  exact ⟨b26, r36, S28, rfl, H41.gr, H41.boxNew' 0 rfl, (fun c hc => Nat.le_trans H24.gr.size (hS32 c hc)), ((H41.pick (B' := [boxR b26 132 (rdCh r36)]) (I' := [slI S28 encB 1 r36.bh r36.b]) [0] (by decide) rfl (List.forall_mem_cons.2 ⟨List.mem_of_getElem? (i := 0) rfl, fun _ h => (nomatch h)⟩)).rdStart), (hr40.trans (open_f (by assumption)).symm)⟩
 ·have hc25 : (¬ ((b.length : Int) = 0) ∧ (((nth b 0).toNat : Int) = (kind.toNat : Int))) := (And.imp (fun h => (of_decide_eq_false h)) (fun h => (of_decide_eq_true (notF h))) (orF hc25))
  refine W_skip (Then_n (W_seq (W_reg ?_)))
  refine O_mv (v := (slV hb b)) rfl rfl ?_
  refine O_v rfl (R_sliceS (h := hb) (l := b) (a := 1) (b := b.length) (m := hb.c) (b.drop 1) Tryz.underlying22 Tryz.sizeOf5 rfl rfl rfl rfl (by decide) (by omega) (by first | omega | exact Nat.le_refl _) (by have := Sl.cap (H24.sl 0 rfl); omega) (by first | omega | exact Nat.le_refl _ | (have := Sl.cap (H24.sl 0 rfl); omega)) (by rw [List.take_length])  ?_)
  refine O_v rfl (R_callL (vs := [(slV (hSub hb 1 1 hb.c) (b.drop 1))]) cF86 rfl rfl ((enc_Read (hSub hb 1 1 hb.c) (b.drop 1) w22 (Sl.sub (H24.slOld 0 rfl) 1 b.length hb.c (by omega) (by first | omega | exact Nat.le_refl _) (by have := Sl.cap (H24.sl 0 rfl); omega) (by first | omega | exact Nat.le_refl _ | (have := Sl.cap (H24.sl 0 rfl); omega)) (by rw [List.take_length])) (by rw [List.length_drop]; omega)).ret ?_))
  rintro _ w45 ⟨b42, r43, S44, rfl, hx46, hb47, hS48, hQ49, hr50⟩
  have H51 := H24.addRd hx46 hb47 hS48 hQ49
  refine O_as (v := (.pointer (some ⟨b42, 0, none⟩))) rfl rfl ?_
  refine O_nil (Then_n (W_ret ?_))
  refine ret_1 (v := (.pointer (some ⟨b42, 0, none⟩))) Tryz.results45 rfl ?_
  exact ⟨b42, r43, S44, rfl, H51.gr, H51.boxNew' 0 rfl, (fun c hc => Nat.le_trans H24.gr.size (hS48 c hc)), ((H51.pick (B' := [boxR b42 132 (rdCh r43)]) (I' := [slI S44 encB 1 r43.bh r43.b]) [0] (by decide) rfl (List.forall_mem_cons.2 ⟨List.mem_of_getElem? (i := 0) rfl, fun _ h => (nomatch h)⟩)).rdStart), (hr50.trans (open_t (by assumption)).symm)⟩
set_option maxHeartbeats 1000000 in
theorem IndexFunc_Op (ha : SlH) (a : List OpS) (kfn : FuncId) (cfn : Array Value) (f : OpS → Bool) (w : World) (Sa : Sl (Old w) opCh 41 ha a w) (Kfn : callable Tryz.prog kfn = true) (Cfn : ∀ x ∈ a, ∀ w1, Ext w w1 → Calls Tryz.prog kfn (#[opV x] ++ cfn) w1 (Ret fun v w2 => v = .bool (f x) ∧ Ext w1 w2)) :
    Calls Tryz.prog 131 #[(slV ha a), (.func (.func kfn) #[] cfn)] w (Ret fun v w' => v = (.int .i64 (idxBy f a)) ∧ Ext w w') := by
 refine calls_W Tryz.func131 rfl Tryz.ntmps131 rfl ?_
 have H0 := Ctx.start w nob
 have H1 := H0.addSl _ Sa (fun b hb => ⟨hb, fun _ ho => (nomatch ho)⟩)
 have LSa := Sa.len
 refine W_seq (W_reg ?_)
 refine O_as (v := (.int .i64 0)) rfl rfl ?_
 refine O_nil (Then_n (W_seq (W_seq (W_reg ?_))))
 refine O_mv (v := (slV ha a)) rfl rfl ?_
 refine O_v rfl (R_len_slice (a := ha.a) (n := a.length) (c := ha.c) Tryz.underlying43 rfl ?_)
 refine O_mv (v := (.int .i64 0)) rfl rfl ?_
 refine O_nil (Then_n (W_block ?_))
 refine W_loop (fun m2 e3 w4 => ∃ (k : Nat), m2 = a.length - k ∧ (k ≤ a.length) ∧ (∀ i, i < k → f (nth a i) = false) ∧ ∃ eb5, e3 = envL [(0, (slV ha a)), (1, (.func (.func kfn) #[] cfn)), (7, (.int .i64 (a.length : Int))), (8, (.int .i64 (k : Int)))] eb5 ∧ Ctx w nob w4 [] [slI (Old w) opCh 41 ha a]) _ ⟨0, rfl, (by omega), (all_zero _), _, envL_self ⟨rfl, rfl, rfl, rfl, trivial⟩, H1⟩ ?_
 rintro m2 _ w4 ⟨k, rfl, hk, hn, eb5, rfl, H6⟩
 refine W_seq (W_reg ?_)
 refine O_v rfl (R_cmp (a := (k : Int)) (b := (a.length : Int)) (r := (decide ((k : Int) < (a.length : Int)))) rfl rfl rfl ?_)
 refine O_nil (Then_n (W_seq ?_))
 refine W_cond rfl (fun hc7 => ?_) (fun hc7 => ?_)
 ·have hc7 := (of_decide_eq_true hc7)
  refine W_skip (Then_n (W_seq (W_block (W_seq (W_reg ?_)))))
  refine O_mv (v := (.int .i64 (k : Int))) rfl rfl (O_as (v := (.int .i64 (k : Int))) rfl rfl ?_)
  refine O_nil (Then_n (W_seq (W_reg ?_)))
  refine O_mv (v := (.func (.func kfn) #[] cfn)) rfl rfl (O_mv (v := (slV ha a)) rfl rfl (O_mv (v := (.int .i64 (k : Int))) rfl rfl ?_))
  refine O_v rfl (R_index_pure (H6.sl 0 rfl) (n := a.length) rfl (j := (k : Int)) (oo := (ha.o + k * 41)) Tryz.underlying43 Tryz.sizeOf72 rfl rfl (by omega) (by omega) rfl ?_)
  refine O_v rfl (R_loadA (cs := [[(.int .i64 ((nth a k).kind))], [(.int .i64 (((nth a k).tm).T))], [(.int .i64 (((nth a k).tm).R))], [(.int .i64 (((nth a k).node).T))], [(.int .i64 (((nth a k).node).R))], [(.int .i64 (((nth a k).par).T))], [(.int .i64 (((nth a k).par).R))], [(.string ((nth a k).name))], (idCells ((nth a k).data)), [(slV ((nth a k).oh) ((nth a k).over))]]) Tryz.isAgg72 Tryz.sizeOf72 rfl rfl ((Sl.elem (H6.sl 0 rfl) (i := k) (by omega) rfl).chunks 0 10 0 (ha.o + k * 41) _ rfl rfl rfl) ?_)
  refine O_v rfl (R_callV (vs := [(aggOf (opCh (nth a k)))]) Kfn rfl rfl ((Cfn _ (nth_mem (by omega)) w4 H6.gr).ret ?_))
  rintro _ w8 ⟨rfl, hx9⟩
  have H10 := H6.ext hx9
  refine O_nil (Then_n ?_)
  refine W_cond rfl (fun hc11 => ?_) (fun hc11 => ?_)
  ·have hc11 : (f (nth a k)) = true := hc11
   refine W_seq (W_reg ?_)
   refine O_mv (v := (.int .i64 (k : Int))) rfl rfl (O_as (v := (.int .i64 (k : Int))) rfl rfl ?_)
   refine O_nil (Then_n (W_ret (Blk_r (Then_r (Then_r (Blk_r (Then_r ?_)))))))
   refine ret_1 (v := (.int .i64 (k : Int))) Tryz.results131 rfl ?_
   exact ⟨(by rw [idxBy_at hn (by omega) (by assumption)]), H10.gr⟩
  ·have hc11 : (f (nth a k)) = false := hc11
   refine W_skip (Blk_n (Then_n (W_reg ?_)))
   refine O_v rfl (R_arith (a := (k : Int)) (b := 1) (r0 := (k : Int) + 1) (r := ((k + 1 : Nat) : Int)) rfl rfl rfl (wrapN _ (by omega)) ?_)
   refine O_mv (v := (.int .i64 ((k + 1 : Nat) : Int))) rfl rfl ?_
   refine O_nil (Then_n ?_)
   refine ⟨_, ?_, (k + 1), rfl, (by omega), (all_succ hn (by assumption)), _, envL_self ⟨rfl, rfl, rfl, rfl, trivial⟩, H10⟩
   omega
 ·have hc7 := (of_decide_eq_false hc7)
  refine W_exit (Then_x (Then_x (Blk_x (Then_n (W_seq (W_reg ?_))))))
  refine O_as (v := (.int .i64 (-1))) rfl rfl ?_
  refine O_nil (Then_n (W_ret ?_))
  refine ret_1 (v := (.int .i64 (-1))) Tryz.results131 rfl ?_
  exact ⟨(by rw [idxBy_none (by rwa [show a.length = k from by omega])]), H6.gr⟩
theorem cF131 : callable Tryz.prog 131 = true := by kernel_rfl
set_option maxHeartbeats 1000000 in
theorem ContainsFunc_Op (ha : SlH) (a : List OpS) (kfn : FuncId) (cfn : Array Value) (f : OpS → Bool) (w : World) (Sa : Sl (Old w) opCh 41 ha a w) (Kfn : callable Tryz.prog kfn = true) (Cfn : ∀ x ∈ a, ∀ w1, Ext w w1 → Calls Tryz.prog kfn (#[opV x] ++ cfn) w1 (Ret fun v w2 => v = .bool (f x) ∧ Ext w1 w2)) :
    Calls Tryz.prog 101 #[(slV ha a), (.func (.func kfn) #[] cfn)] w (Ret fun v w' => v = (.bool (a.any f)) ∧ Ext w w') := by
 refine calls_W Tryz.func101 rfl Tryz.ntmps101 rfl ?_
 have H0 := Ctx.start w nob
 have H1 := H0.addSl _ Sa (fun b hb => ⟨hb, fun _ ho => (nomatch ho)⟩)
 have LSa := Sa.len
 refine W_seq (W_reg ?_)
 refine O_as (v := (.bool false)) rfl rfl ?_
 refine O_nil (Then_n (W_seq (W_reg ?_)))
 refine O_mv (v := (slV ha a)) rfl rfl (O_mv (v := (.func (.func kfn) #[] cfn)) rfl rfl ?_)
 refine O_v rfl (R_callL (vs := [(slV ha a), (.func (.func kfn) #[] cfn)]) cF131 rfl rfl ((IndexFunc_Op ha a kfn cfn f w (H1.slOld 0 rfl) Kfn (fun x hx w1 he => Cfn x hx w1 (H1.gr.trans he))).ret ?_))
 rintro _ w2 ⟨rfl, hx3⟩
 have H4 := H1.ext hx3
 refine O_v rfl (R_cmp (a := idxBy f a) (b := 0) (r := (decide (0 ≤ idxBy f a))) rfl rfl rfl ?_)
 refine O_as (v := (.bool (decide (0 ≤ idxBy f a)))) rfl rfl ?_
 refine O_nil (Then_n (W_ret ?_))
 refine ret_1 (v := (.bool (decide (0 ≤ idxBy f a)))) Tryz.results101 rfl ?_
 exact ⟨(boolIdx f a), H4.gr⟩
set_option maxHeartbeats 1000000 in
theorem Index_ID (hs : SlH) (s : List ID) (vv : ID) (w : World) (Ss : Sl (Old w) idCh 32 hs s w) :
    Calls Tryz.prog 130 #[(slV hs s), (aggOf (idCh vv))] w (Ret fun v w' => v = (.int .i64 (idxBy (fun (x : ID) => decide (vv = x)) s)) ∧ Ext w w') := by
 refine calls_W Tryz.func130 rfl Tryz.ntmps130 rfl ?_
 have H0 := Ctx.start w nob
 have H1 := H0.addSl _ Ss (fun b hb => ⟨hb, fun _ ho => (nomatch ho)⟩)
 have LSs := Ss.len
 refine W_seq (W_reg ?_)
 refine O_v rfl (C_box H1 [(idCells vv)] rfl ?_)
 intro b2 w3 hb4 hx5 H6
 refine O_as (v := (.int .i64 0)) rfl rfl ?_
 refine O_nil (Then_n (W_seq (W_seq (W_reg ?_))))
 refine O_mv (v := (slV hs s)) rfl rfl ?_
 refine O_v rfl (R_len_slice (a := hs.a) (n := s.length) (c := hs.c) Tryz.underlying39 rfl ?_)
 refine O_mv (v := (.int .i64 0)) rfl rfl ?_
 refine O_nil (Then_n (W_block ?_))
 refine W_loop (fun m7 e8 w9 => ∃ (k : Nat), m7 = s.length - k ∧ (k ≤ s.length) ∧ (∀ i, i < k → decide (vv = nth s i) = false) ∧ ∃ eb10, e8 = envL [(0, (slV hs s)), (3, (.pointer (some ⟨b2, 0, none⟩))), (7, (.int .i64 (s.length : Int))), (8, (.int .i64 (k : Int)))] eb10 ∧ Ctx w nob w9 [boxR b2 45 [(idCells vv)]] [slI (Old w) idCh 32 hs s]) _ ⟨0, rfl, (by omega), (all_zero _), _, envL_self ⟨rfl, rfl, rfl, rfl, trivial⟩, H6⟩ ?_
 rintro m7 _ w9 ⟨k, rfl, hk, hn, eb10, rfl, H11⟩
 refine W_seq (W_reg ?_)
 refine O_v rfl (R_cmp (a := (k : Int)) (b := (s.length : Int)) (r := (decide ((k : Int) < (s.length : Int)))) rfl rfl rfl ?_)
 refine O_nil (Then_n (W_seq ?_))
 refine W_cond rfl (fun hc12 => ?_) (fun hc12 => ?_)
 ·have hc12 := (of_decide_eq_true hc12)
  refine W_skip (Then_n (W_seq (W_block (W_seq (W_reg ?_)))))
  refine O_mv (v := (.int .i64 (k : Int))) rfl rfl (O_as (v := (.int .i64 (k : Int))) rfl rfl ?_)
  refine O_nil (Then_n (W_seq ?_))
  refine W_rgd TryzMixed [(0, .q 0), (1, .q 0), (2, .q 0), (3, .q 0), (4, .q 0), (5, .q 0)] (by kernel_rfl) ?_
  refine Lx_q rfl rfl _ (fun v13 hv14 => R_loadA (cs := [(idCells vv)]) Tryz.isAgg45 Tryz.sizeOf45 rfl rfl ((H11.ext hv14).bx 0 rfl 0 1 0 0 _ rfl rfl rfl) qk) (Lx_mv (v := (slV hs s)) rfl rfl rfl (Lx_mv (v := (.int .i64 (k : Int))) rfl rfl rfl (Lx_q rfl rfl _ (fun v19 hv20 => R_index_pure (H11.sl 0 rfl) (n := s.length) rfl (j := (k : Int)) (oo := (hs.o + k * 32)) Tryz.underlying39 Tryz.sizeOf45 rfl rfl (by omega) (by omega) rfl qk) ?_)))
  refine Lx_q rfl rfl _ (fun v21 hv22 => R_loadA (cs := [(idCells (nth s k))]) Tryz.isAgg45 Tryz.sizeOf45 rfl rfl ((Sl.elem ((H11.ext hv22).sl 0 rfl) (i := k) (by omega) rfl).chunks 0 1 0 (hs.o + k * 32) _ rfl rfl rfl) qk) (Lx_q rfl rfl _ (fun v23 hv24 => R_eqv (a := vv) (b := (nth s k)) eqv_ID45 rfl Tryz.eqGuardType45 rfl rfl qk) ?_)
  refine Lx_nil (fun w25 hw26 => ?_)
  have H27 := H11.ext hw26
  refine Then_n ?_
  refine W_cond rfl (fun hc28 => ?_) (fun hc28 => ?_)
  ·have hc28 := (of_decide_eq_true hc28)
   refine W_seq (W_reg ?_)
   refine O_mv (v := (.int .i64 (k : Int))) rfl rfl (O_as (v := (.int .i64 (k : Int))) rfl rfl ?_)
   refine O_nil (Then_n (W_ret (Blk_r (Then_r (Then_r (Blk_r (Then_r ?_)))))))
   refine ret_1 (v := (.int .i64 (k : Int))) Tryz.results130 rfl ?_
   exact ⟨(by rw [idxBy_at (f := fun (x : ID) => decide (vv = x)) hn (by omega) (decide_eq_true (by assumption))]), H27.gr⟩
  ·have hc28 := (of_decide_eq_false hc28)
   refine W_skip (Blk_n (Then_n (W_reg ?_)))
   refine O_v rfl (R_arith (a := (k : Int)) (b := 1) (r0 := (k : Int) + 1) (r := ((k + 1 : Nat) : Int)) rfl rfl rfl (wrapN _ (by omega)) ?_)
   refine O_mv (v := (.int .i64 ((k + 1 : Nat) : Int))) rfl rfl ?_
   refine O_nil (Then_n ?_)
   refine ⟨_, ?_, (k + 1), rfl, (by omega), (all_succ hn (decide_eq_false (by assumption))), _, envL_self ⟨rfl, rfl, rfl, rfl, trivial⟩, H27⟩
   omega
 ·have hc12 := (of_decide_eq_false hc12)
  refine W_exit (Then_x (Then_x (Blk_x (Then_n (W_seq (W_reg ?_))))))
  refine O_as (v := (.int .i64 (-1))) rfl rfl ?_
  refine O_nil (Then_n (W_ret ?_))
  refine ret_1 (v := (.int .i64 (-1))) Tryz.results130 rfl ?_
  exact ⟨(by rw [idxBy_none (f := fun (x : ID) => decide (vv = x)) (by rwa [show s.length = k from by omega])]), H11.gr⟩
theorem cF130 : callable Tryz.prog 130 = true := by kernel_rfl
set_option maxHeartbeats 1000000 in
theorem Contains_ID (hs : SlH) (s : List ID) (vv : ID) (w : World) (Ss : Sl (Old w) idCh 32 hs s w) :
    Calls Tryz.prog 98 #[(slV hs s), (aggOf (idCh vv))] w (Ret fun v w' => v = (.bool (s.any (fun (x : ID) => decide (vv = x)))) ∧ Ext w w') := by
 refine calls_W Tryz.func98 rfl Tryz.ntmps98 rfl ?_
 have H0 := Ctx.start w nob
 have H1 := H0.addSl _ Ss (fun b hb => ⟨hb, fun _ ho => (nomatch ho)⟩)
 have LSs := Ss.len
 refine W_seq (W_reg ?_)
 refine O_v rfl (C_box H1 [(idCells vv)] rfl ?_)
 intro b2 w3 hb4 hx5 H6
 refine O_as (v := (.bool false)) rfl rfl ?_
 refine O_nil (Then_n (W_seq (W_reg ?_)))
 refine O_mv (v := (slV hs s)) rfl rfl ?_
 refine O_v rfl (R_loadA (cs := [(idCells vv)]) Tryz.isAgg45 Tryz.sizeOf45 rfl rfl (H6.bx 0 rfl 0 1 0 0 _ rfl rfl rfl) ?_)
 refine O_v rfl (R_callL (vs := [(slV hs s), (aggOf (idCh vv))]) cF130 rfl rfl ((Index_ID hs s vv w3 (H6.slOld 0 rfl)).ret ?_))
 rintro _ w7 ⟨rfl, hx8⟩
 have H9 := H6.ext hx8
 refine O_v rfl (R_cmp (a := idxBy (fun (x : ID) => decide (vv = x)) s) (b := 0) (r := (decide (0 ≤ idxBy (fun (x : ID) => decide (vv = x)) s))) rfl rfl rfl ?_)
 refine O_as (v := (.bool (decide (0 ≤ idxBy (fun (x : ID) => decide (vv = x)) s)))) rfl rfl ?_
 refine O_nil (Then_n (W_ret ?_))
 refine ret_1 (v := (.bool (decide (0 ≤ idxBy (fun (x : ID) => decide (vv = x)) s)))) Tryz.results98 rfl ?_
 exact ⟨(boolIdx _ s), H9.gr⟩
set_option maxHeartbeats 1000000 in
theorem stamp_Right (s : Stamp) (w : World) :
    Calls Tryz.prog 100 #[(aggOf (stampCh s))] w (Ret fun v w' => v = (.bool (stRight s)) ∧ Ext w w') := by
 refine calls_W Tryz.func100 rfl Tryz.ntmps100 rfl ?_
 have H0 := Ctx.start w nob
 refine W_seq (W_reg ?_)
 refine O_v rfl (C_box H0 [[(.int .i64 s.T)], [(.int .i64 s.R)]] rfl ?_)
 intro b1 w2 hb3 hx4 H5
 refine O_as (v := (.bool false)) rfl rfl ?_
 refine O_nil (Then_n (W_seq ?_))
 refine W_rg [(0, .q 0), (1, .q 0), (2, .q 0), (3, .q 0), (4, .q 0), (5, .q 0), (6, .q 0), (7, .q 0), (8, .q 0), (9, .q 0), (10, .q 0), (11, .q 0), (12, .q 0), (13, .q 0), (14, .q 0), (15, .q 0), (16, .q 0), (17, .q 0), (18, .q 0)] (by kernel_rfl) ?_
 refine Lx_q rfl rfl _ (fun v6 hv7 => R_fieldAddr (off := 0) (oo := 0) Tryz.underlying69 rfl rfl Tryz.sizeOf2 rfl rfl qk) (Lx_q rfl rfl _ (fun v8 hv9 => R_load1 (v := (.int .i64 s.T)) Tryz.isAgg2 rfl ((H5.ext hv9).bx 0 rfl 0 1 0 0 _ rfl rfl rfl) qk) (Lx_q rfl rfl _ (fun v10 hv11 => R_cmp (a := s.T) (b := 1) (r := (decide (1 ≤ s.T))) rfl rfl rfl qk) (Lx_mv (v := (.bool (decide (1 ≤ s.T)))) rfl rfl rfl ?_)))
 refine Lx_qt rfl rfl rfl rfl rfl _ (fun hA v14 hv15 => R_fieldAddr (off := 0) (oo := 0) Tryz.underlying69 rfl rfl Tryz.sizeOf2 rfl rfl qk) (Lx_qt rfl rfl rfl rfl rfl _ (fun hA v16 hv17 => R_load1 (v := (.int .i64 s.T)) Tryz.isAgg2 (gv_t hA) ((H5.ext hv17).bx 0 rfl 0 1 0 0 _ rfl rfl rfl) qk) (Lx_qt rfl rfl rfl rfl rfl _ (fun hA v18 hv19 => R_cmp (a := s.T) (b := 1099511627776) (r := (decide (s.T ≤ 1099511627776))) (gv_t hA) rfl rfl qk) (Lx_q rfl rfl _ (fun v20 hv21 => R_pick rfl pk_and qk) ?_)))
 refine Lx_mv (v := (.bool ((decide (1 ≤ s.T)) && (decide (s.T ≤ 1099511627776))))) rfl rfl rfl (Lx_qt rfl rfl rfl rfl rfl _ (fun hA v24 hv25 => R_fieldAddr (off := 1) (oo := 1) Tryz.underlying69 rfl rfl Tryz.sizeOf3 rfl rfl qk) (Lx_qt rfl rfl rfl rfl rfl _ (fun hA v26 hv27 => R_load1 (v := (.int .i64 s.R)) Tryz.isAgg3 (gv_t hA) ((H5.ext hv27).bx 0 rfl 1 1 1 1 _ rfl rfl rfl) qk) (Lx_qt rfl rfl rfl rfl rfl _ (fun hA v28 hv29 => R_cmp (a := s.R) (b := 1) (r := (decide (1 ≤ s.R))) (gv_t hA) rfl rfl qk) ?_)))
 refine Lx_q rfl rfl _ (fun v30 hv31 => R_pick rfl pk_and qk) (Lx_mv (v := (.bool (((decide (1 ≤ s.T)) && (decide (s.T ≤ 1099511627776))) && (decide (1 ≤ s.R))))) rfl rfl rfl (Lx_qt rfl rfl rfl rfl rfl _ (fun hA v34 hv35 => R_fieldAddr (off := 1) (oo := 1) Tryz.underlying69 rfl rfl Tryz.sizeOf3 rfl rfl qk) (Lx_qt rfl rfl rfl rfl rfl _ (fun hA v36 hv37 => R_load1 (v := (.int .i64 s.R)) Tryz.isAgg3 (gv_t hA) ((H5.ext hv37).bx 0 rfl 1 1 1 1 _ rfl rfl rfl) qk) ?_)))
 refine Lx_qt rfl rfl rfl rfl rfl _ (fun hA v38 hv39 => R_cmp (a := s.R) (b := 65536) (r := (decide (s.R ≤ 65536))) (gv_t hA) rfl rfl qk) (Lx_q rfl rfl _ (fun v40 hv41 => R_pick rfl pk_and qk) (Lx_q rfl rfl _ (fun v42 hv43 => R_assign (v := (.bool ((((decide (1 ≤ s.T)) && (decide (s.T ≤ 1099511627776))) && (decide (1 ≤ s.R))) && (decide (s.R ≤ 65536))))) rfl qk) ?_))
 refine Lx_nil (fun w44 hw45 => ?_)
 have H46 := H5.ext hw45
 refine Then_n (W_ret ?_)
 refine ret_1 (v := (.bool ((((decide (1 ≤ s.T)) && (decide (s.T ≤ 1099511627776))) && (decide (1 ≤ s.R))) && (decide (s.R ≤ 65536))))) Tryz.results100 rfl ?_
 exact ⟨(boolE (by simp only [stRight, Bool.and_eq_true, Bool.or_eq_true, Bool.not_eq_true, decide_eq_true_eq]; omega)), H46.gr⟩
set_option maxHeartbeats 1000000 in
theorem isNaN_i64 (x : Int) (w : World) :
    Calls Tryz.prog 133 #[(.int .i64 x)] w (Ret fun v w' => v = (.bool false) ∧ Ext w w') := by
 refine calls_W Tryz.func133 rfl Tryz.ntmps133 rfl ?_
 have H0 := Ctx.start w nob
 refine W_seq (W_reg ?_)
 refine O_as (v := (.bool false)) rfl rfl ?_
 refine O_nil (Then_n (W_seq (W_reg ?_)))
 refine O_mv (v := (.int .i64 x)) rfl rfl (O_mv (v := (.int .i64 x)) rfl rfl ?_)
 refine O_v rfl (R_cmp (a := x) (b := x) (r := (!(decide (x = x)))) rfl rfl rfl ?_)
 refine O_as (v := (.bool (!(decide (x = x))))) rfl rfl ?_
 refine O_nil (Then_n (W_ret ?_))
 refine ret_1 (v := (.bool (!(decide (x = x))))) Tryz.results133 rfl ?_
 exact ⟨(by simp), H0.gr⟩
theorem cF133 : callable Tryz.prog 133 = true := by kernel_rfl
set_option maxHeartbeats 1000000 in
theorem Compare_i64 (x : Int) (y : Int) (w : World) :
    Calls Tryz.prog 115 #[(.int .i64 x), (.int .i64 y)] w (Ret fun v w' => v = (.int .i64 (cmpInt x y)) ∧ Ext w w') := by
 refine calls_W Tryz.func115 rfl Tryz.ntmps115 rfl ?_
 have H0 := Ctx.start w nob
 refine W_seq (W_reg ?_)
 refine O_as (v := (.int .i64 0)) rfl rfl ?_
 refine O_nil (Then_n (W_seq (W_reg ?_)))
 refine O_mv (v := (.int .i64 x)) rfl rfl ?_
 refine O_v rfl (R_callL (vs := [(.int .i64 x)]) cF133 rfl rfl ((isNaN_i64 x w ).ret ?_))
 rintro _ w1 ⟨rfl, hx2⟩
 have H3 := H0.ext hx2
 refine O_as (v := (.bool false)) rfl rfl ?_
 refine O_nil (Then_n (W_seq (W_reg ?_)))
 refine O_mv (v := (.int .i64 y)) rfl rfl ?_
 refine O_v rfl (R_callL (vs := [(.int .i64 y)]) cF133 rfl rfl ((isNaN_i64 y w1 ).ret ?_))
 rintro _ w4 ⟨rfl, hx5⟩
 have H6 := H3.ext hx5
 refine O_as (v := (.bool false)) rfl rfl ?_
 refine O_nil (Then_n (W_seq (W_seq (W_reg ?_))))
 refine O_mv (v := (.bool false)) rfl rfl ?_
 refine O_nil (Then_n ?_)
 refine W_cond_f rfl ?_
 refine W_skip (Then_n (W_seq (W_seq (W_reg ?_))))
 refine O_mv (v := (.bool false)) rfl rfl ?_
 refine O_nil (Then_n ?_)
 refine W_cond_f rfl ?_
 refine W_skip (Then_n (W_seq (W_seq (W_reg ?_))))
 refine O_mv (v := (.int .i64 x)) rfl rfl (O_mv (v := (.int .i64 y)) rfl rfl ?_)
 refine O_v rfl (R_cmp (a := x) (b := y) (r := (decide (x < y))) rfl rfl rfl ?_)
 refine O_nil (Then_n ?_)
 refine W_cond rfl (fun hc7 => ?_) (fun hc7 => ?_)
 ·have hc7 := (of_decide_eq_true hc7)
  refine W_seq (W_reg ?_)
  refine O_as (v := (.int .i64 (-1))) rfl rfl ?_
  refine O_nil (Then_n (W_ret (Then_r ?_)))
  refine ret_1 (v := (.int .i64 (-1))) Tryz.results115 rfl ?_
  exact ⟨(by rw [cmpInt_lt (by assumption)]), H6.gr⟩
 ·have hc7 := (of_decide_eq_false hc7)
  refine W_skip (Then_n (W_seq (W_seq (W_reg ?_))))
  refine O_mv (v := (.int .i64 x)) rfl rfl (O_mv (v := (.int .i64 y)) rfl rfl ?_)
  refine O_v rfl (R_cmp (a := x) (b := y) (r := (decide (y < x))) rfl rfl rfl ?_)
  refine O_nil (Then_n ?_)
  refine W_cond rfl (fun hc8 => ?_) (fun hc8 => ?_)
  ·have hc8 := (of_decide_eq_true hc8)
   refine W_seq (W_reg ?_)
   refine O_as (v := (.int .i64 1)) rfl rfl ?_
   refine O_nil (Then_n (W_ret (Then_r ?_)))
   refine ret_1 (v := (.int .i64 1)) Tryz.results115 rfl ?_
   exact ⟨(by rw [cmpInt_gt (by assumption) (by assumption)]), H6.gr⟩
  ·have hc8 := (of_decide_eq_false hc8)
   refine W_skip (Then_n (W_seq (W_reg ?_)))
   refine O_as (v := (.int .i64 0)) rfl rfl ?_
   refine O_nil (Then_n (W_ret ?_))
   refine ret_1 (v := (.int .i64 0)) Tryz.results115 rfl ?_
   exact ⟨(by rw [cmpInt_eq (by assumption) (by assumption)]), H6.gr⟩
set_option maxHeartbeats 1000000 in
theorem isNaN_int (x : Int) (w : World) :
    Calls Tryz.prog 134 #[(.int .i64 x)] w (Ret fun v w' => v = (.bool false) ∧ Ext w w') := by
 refine calls_W Tryz.func134 rfl Tryz.ntmps134 rfl ?_
 have H0 := Ctx.start w nob
 refine W_seq (W_reg ?_)
 refine O_as (v := (.bool false)) rfl rfl ?_
 refine O_nil (Then_n (W_seq (W_reg ?_)))
 refine O_mv (v := (.int .i64 x)) rfl rfl (O_mv (v := (.int .i64 x)) rfl rfl ?_)
 refine O_v rfl (R_cmp (a := x) (b := x) (r := (!(decide (x = x)))) rfl rfl rfl ?_)
 refine O_as (v := (.bool (!(decide (x = x))))) rfl rfl ?_
 refine O_nil (Then_n (W_ret ?_))
 refine ret_1 (v := (.bool (!(decide (x = x))))) Tryz.results134 rfl ?_
 exact ⟨(by simp), H0.gr⟩
theorem cF134 : callable Tryz.prog 134 = true := by kernel_rfl
set_option maxHeartbeats 1000000 in
theorem Compare_int (x : Int) (y : Int) (w : World) :
    Calls Tryz.prog 116 #[(.int .i64 x), (.int .i64 y)] w (Ret fun v w' => v = (.int .i64 (cmpInt x y)) ∧ Ext w w') := by
 refine calls_W Tryz.func116 rfl Tryz.ntmps116 rfl ?_
 have H0 := Ctx.start w nob
 refine W_seq (W_reg ?_)
 refine O_as (v := (.int .i64 0)) rfl rfl ?_
 refine O_nil (Then_n (W_seq (W_reg ?_)))
 refine O_mv (v := (.int .i64 x)) rfl rfl ?_
 refine O_v rfl (R_callL (vs := [(.int .i64 x)]) cF134 rfl rfl ((isNaN_int x w ).ret ?_))
 rintro _ w1 ⟨rfl, hx2⟩
 have H3 := H0.ext hx2
 refine O_as (v := (.bool false)) rfl rfl ?_
 refine O_nil (Then_n (W_seq (W_reg ?_)))
 refine O_mv (v := (.int .i64 y)) rfl rfl ?_
 refine O_v rfl (R_callL (vs := [(.int .i64 y)]) cF134 rfl rfl ((isNaN_int y w1 ).ret ?_))
 rintro _ w4 ⟨rfl, hx5⟩
 have H6 := H3.ext hx5
 refine O_as (v := (.bool false)) rfl rfl ?_
 refine O_nil (Then_n (W_seq (W_seq (W_reg ?_))))
 refine O_mv (v := (.bool false)) rfl rfl ?_
 refine O_nil (Then_n ?_)
 refine W_cond_f rfl ?_
 refine W_skip (Then_n (W_seq (W_seq (W_reg ?_))))
 refine O_mv (v := (.bool false)) rfl rfl ?_
 refine O_nil (Then_n ?_)
 refine W_cond_f rfl ?_
 refine W_skip (Then_n (W_seq (W_seq (W_reg ?_))))
 refine O_mv (v := (.int .i64 x)) rfl rfl (O_mv (v := (.int .i64 y)) rfl rfl ?_)
 refine O_v rfl (R_cmp (a := x) (b := y) (r := (decide (x < y))) rfl rfl rfl ?_)
 refine O_nil (Then_n ?_)
 refine W_cond rfl (fun hc7 => ?_) (fun hc7 => ?_)
 ·have hc7 := (of_decide_eq_true hc7)
  refine W_seq (W_reg ?_)
  refine O_as (v := (.int .i64 (-1))) rfl rfl ?_
  refine O_nil (Then_n (W_ret (Then_r ?_)))
  refine ret_1 (v := (.int .i64 (-1))) Tryz.results116 rfl ?_
  exact ⟨(by rw [cmpInt_lt (by assumption)]), H6.gr⟩
 ·have hc7 := (of_decide_eq_false hc7)
  refine W_skip (Then_n (W_seq (W_seq (W_reg ?_))))
  refine O_mv (v := (.int .i64 x)) rfl rfl (O_mv (v := (.int .i64 y)) rfl rfl ?_)
  refine O_v rfl (R_cmp (a := x) (b := y) (r := (decide (y < x))) rfl rfl rfl ?_)
  refine O_nil (Then_n ?_)
  refine W_cond rfl (fun hc8 => ?_) (fun hc8 => ?_)
  ·have hc8 := (of_decide_eq_true hc8)
   refine W_seq (W_reg ?_)
   refine O_as (v := (.int .i64 1)) rfl rfl ?_
   refine O_nil (Then_n (W_ret (Then_r ?_)))
   refine ret_1 (v := (.int .i64 1)) Tryz.results116 rfl ?_
   exact ⟨(by rw [cmpInt_gt (by assumption) (by assumption)]), H6.gr⟩
  ·have hc8 := (of_decide_eq_false hc8)
   refine W_skip (Then_n (W_seq (W_reg ?_)))
   refine O_as (v := (.int .i64 0)) rfl rfl ?_
   refine O_nil (Then_n (W_ret ?_))
   refine ret_1 (v := (.int .i64 0)) Tryz.results116 rfl ?_
   exact ⟨(by rw [cmpInt_eq (by assumption) (by assumption)]), H6.gr⟩
set_option maxHeartbeats 1000000 in
theorem cmp_Or (hvals : SlH) (vals : List Int) (w : World) (Svals : Sl (Old w) encI 1 hvals vals w) :
    Calls Tryz.prog 114 #[(slV hvals vals)] w (Ret fun v w' => v = (.int .i64 (orInt vals)) ∧ Ext w w') := by
 refine calls_W Tryz.func114 rfl Tryz.ntmps114 rfl ?_
 have H0 := Ctx.start w nob
 have H1 := H0.addSl _ Svals (fun b hb => ⟨hb, fun _ ho => (nomatch ho)⟩)
 have LSvals := Svals.len
 refine W_seq (W_reg ?_)
 refine O_as (v := (.int .i64 0)) rfl rfl ?_
 refine O_nil (Then_n (W_seq (W_reg ?_)))
 refine O_as (v := (.int .i64 0)) rfl rfl ?_
 refine O_nil (Then_n (W_seq (W_seq (W_reg ?_))))
 refine O_mv (v := (slV hvals vals)) rfl rfl ?_
 refine O_v rfl (R_len_slice (a := hvals.a) (n := vals.length) (c := hvals.c) Tryz.underlying167 rfl ?_)
 refine O_mv (v := (.int .i64 0)) rfl rfl ?_
 refine O_nil (Then_n (W_block ?_))
 refine W_loop (fun m2 e3 w4 => ∃ (k : Nat), m2 = vals.length - k ∧ (k ≤ vals.length) ∧ (∀ i, i < k → nth vals i = 0) ∧ ∃ eb5, e3 = envL [(3, (.int .i64 0)), (6, (slV hvals vals)), (7, (.int .i64 (vals.length : Int))), (8, (.int .i64 (k : Int)))] eb5 ∧ Ctx w nob w4 [] [slI (Old w) encI 1 hvals vals]) _ ⟨0, rfl, (by omega), (all_zero _), _, envL_self ⟨rfl, rfl, rfl, rfl, trivial⟩, H1⟩ ?_
 rintro m2 _ w4 ⟨k, rfl, hk, hn, eb5, rfl, H6⟩
 refine W_seq (W_reg ?_)
 refine O_v rfl (R_cmp (a := (k : Int)) (b := (vals.length : Int)) (r := (decide ((k : Int) < (vals.length : Int)))) rfl rfl rfl ?_)
 refine O_nil (Then_n (W_seq ?_))
 refine W_cond rfl (fun hc7 => ?_) (fun hc7 => ?_)
 ·have hc7 := (of_decide_eq_true hc7)
  refine W_skip (Then_n (W_seq (W_block (W_seq (W_reg ?_)))))
  refine O_v rfl (R_index_pure (H6.sl 0 rfl) (n := vals.length) rfl (j := (k : Int)) (oo := (hvals.o + k * 1)) Tryz.underlying167 Tryz.sizeOf3 rfl rfl (by omega) (by omega) rfl ?_)
  refine O_v rfl (R_load1 (v := (.int .i64 (nth vals k))) Tryz.isAgg3 rfl ((Sl.elem (H6.sl 0 rfl) (i := k) (by omega) rfl).chunks 0 1 0 (hvals.o + k * 1) _ rfl rfl rfl) ?_)
  refine O_as (v := (.int .i64 (nth vals k))) rfl rfl ?_
  refine O_nil (Then_n (W_seq (W_reg ?_)))
  refine O_mv (v := (.int .i64 (nth vals k))) rfl rfl (O_mv (v := (.int .i64 0)) rfl rfl ?_)
  refine O_v rfl (R_cmp (a := (nth vals k)) (b := 0) (r := (!(decide ((nth vals k) = 0)))) rfl rfl rfl ?_)
  refine O_nil (Then_n ?_)
  refine W_cond rfl (fun hc8 => ?_) (fun hc8 => ?_)
  ·have hc8 : ¬ ((nth vals k) = 0) := (of_decide_eq_false (notT hc8))
   refine W_seq (W_reg ?_)
   refine O_mv (v := (.int .i64 (nth vals k))) rfl rfl (O_as (v := (.int .i64 (nth vals k))) rfl rfl ?_)
   refine O_nil (Then_n (W_ret (Blk_r (Then_r (Then_r (Blk_r (Then_r ?_)))))))
   refine ret_1 (v := (.int .i64 (nth vals k))) Tryz.results114 rfl ?_
   exact ⟨(by rw [orInt_at hn (by omega) (by assumption)]), H6.gr⟩
  ·have hc8 : ((nth vals k) = 0) := (of_decide_eq_true (notF hc8))
   refine W_skip (Blk_n (Then_n (W_reg ?_)))
   refine O_v rfl (R_arith (a := (k : Int)) (b := 1) (r0 := (k : Int) + 1) (r := ((k + 1 : Nat) : Int)) rfl rfl rfl (wrapN _ (by omega)) ?_)
   refine O_mv (v := (.int .i64 ((k + 1 : Nat) : Int))) rfl rfl ?_
   refine O_nil (Then_n ?_)
   refine ⟨_, ?_, (k + 1), rfl, (by omega), (all_succ hn (by assumption)), _, envL_self ⟨rfl, rfl, rfl, rfl, trivial⟩, H6⟩
   omega
 ·have hc7 := (of_decide_eq_false hc7)
  refine W_exit (Then_x (Then_x (Blk_x (Then_n (W_seq (W_reg ?_))))))
  refine O_mv (v := (.int .i64 0)) rfl rfl (O_as (v := (.int .i64 0)) rfl rfl ?_)
  refine O_nil (Then_n (W_ret ?_))
  refine ret_1 (v := (.int .i64 0)) Tryz.results114 rfl ?_
  exact ⟨(by rw [orInt_none (by rwa [show vals.length = k from by omega])]), H6.gr⟩
theorem cF114 : callable Tryz.prog 114 = true := by kernel_rfl
theorem cF115 : callable Tryz.prog 115 = true := by kernel_rfl
theorem cF116 : callable Tryz.prog 116 = true := by kernel_rfl
set_option maxHeartbeats 1000000 in
theorem stamp_Cmp (a : Stamp) (b : Stamp) (w : World) :
    Calls Tryz.prog 84 #[(aggOf (stampCh a)), (aggOf (stampCh b))] w (Ret fun v w' => v = (.int .i64 (cmpSt a b)) ∧ Ext w w') := by
 refine calls_W Tryz.func84 rfl Tryz.ntmps84 rfl ?_
 have H0 := Ctx.start w nob
 refine W_seq (W_reg ?_)
 refine O_v rfl (C_box H0 [[(.int .i64 a.T)], [(.int .i64 a.R)]] rfl ?_)
 intro b1 w2 hb3 hx4 H5
 refine O_v rfl (C_box H5 [[(.int .i64 b.T)], [(.int .i64 b.R)]] rfl ?_)
 intro b6 w7 hb8 hx9 H10
 refine O_as (v := (.int .i64 0)) rfl rfl ?_
 refine O_nil (Then_n (W_seq ?_))
 refine W_rgd TryzMixed [(0, .q 0), (1, .q 0), (2, .q 0), (3, .q 0), (4, .q 0), (5, .q 0), (6, .q 0), (7, .q 0), (8, .q 0), (9, .q 0), (10, .c 0), (11, .q 0), (12, .q 0)] (by kernel_rfl) ?_
 refine Lx_q rfl rfl _ (fun v11 hv12 => R_fieldAddr (off := 0) (oo := 0) Tryz.underlying69 rfl rfl Tryz.sizeOf2 rfl rfl qk) (Lx_q rfl rfl _ (fun v13 hv14 => R_load1 (v := (.int .i64 a.T)) Tryz.isAgg2 rfl ((H10.ext hv14).bx 1 rfl 0 1 0 0 _ rfl rfl rfl) qk) (Lx_q rfl rfl _ (fun v15 hv16 => R_fieldAddr (off := 0) (oo := 0) Tryz.underlying69 rfl rfl Tryz.sizeOf2 rfl rfl qk) (Lx_q rfl rfl _ (fun v17 hv18 => R_load1 (v := (.int .i64 b.T)) Tryz.isAgg2 rfl ((H10.ext hv18).bx 0 rfl 0 1 0 0 _ rfl rfl rfl) qk) ?_)))
 refine Lx_q rfl rfl (.int .i64 (cmpInt a.T b.T)) (fun v19 hv20 => R_callL (vs := [(.int .i64 a.T), (.int .i64 b.T)]) cF115 rfl rfl (Compare_i64 a.T b.T v19 )) (Lx_q rfl rfl _ (fun v21 hv22 => R_fieldAddr (off := 1) (oo := 1) Tryz.underlying69 rfl rfl Tryz.sizeOf3 rfl rfl qk) (Lx_q rfl rfl _ (fun v23 hv24 => R_load1 (v := (.int .i64 a.R)) Tryz.isAgg3 rfl ((H10.ext hv24).bx 1 rfl 1 1 1 1 _ rfl rfl rfl) qk) (Lx_q rfl rfl _ (fun v25 hv26 => R_fieldAddr (off := 1) (oo := 1) Tryz.underlying69 rfl rfl Tryz.sizeOf3 rfl rfl qk) ?_)))
 refine Lx_q rfl rfl _ (fun v27 hv28 => R_load1 (v := (.int .i64 b.R)) Tryz.isAgg3 rfl ((H10.ext hv28).bx 0 rfl 1 1 1 1 _ rfl rfl rfl) qk) (Lx_q rfl rfl (.int .i64 (cmpInt a.R b.R)) (fun v29 hv30 => R_callL (vs := [(.int .i64 a.R), (.int .i64 b.R)]) cF116 rfl rfl (Compare_int a.R b.R v29 )) ?_)
 refine Lx_c rfl rfl (fun w31 hw32 => ?_)
 have H33 := H10.ext hw32
 refine (C_buildSliceL H33 (enc := encI) (val := intV) ([cmpInt a.T b.T, cmpInt a.R b.R] : List Int) Tryz.underlying167 Tryz.sizeOf3 Tryz.zeroValue3 rfl (by decide) (fun _ => rfl) (fun _ => rfl) rfl rfl (by decide) ?_)
 intro b34 w35 hb36 hx37 H38
 refine ⟨GrF.ofExt hx37, ?_⟩
 refine Lx_q rfl rfl (.int .i64 (orInt ([cmpInt a.T b.T, cmpInt a.R b.R] : List Int))) (fun v39 hv40 => R_callL (vs := [(slV ⟨some ⟨b34, 0, none⟩, b34, 0, 2⟩ ([cmpInt a.T b.T, cmpInt a.R b.R] : List Int))]) cF114 rfl rfl (cmp_Or ⟨some ⟨b34, 0, none⟩, b34, 0, 2⟩ ([cmpInt a.T b.T, cmpInt a.R b.R] : List Int) v39 ((H38.ext hv40).rowSl 0 rfl (fun _ => rfl)))) (Lx_q rfl rfl _ (fun v41 hv42 => R_assign (v := (.int .i64 (orInt ([cmpInt a.T b.T, cmpInt a.R b.R] : List Int)))) rfl qk) ?_)
 refine Lx_nil (fun w43 hw44 => ?_)
 have H45 := H38.ext hw44
 refine Then_n (W_ret ?_)
 refine ret_1 (v := (.int .i64 (orInt ([cmpInt a.T b.T, cmpInt a.R b.R] : List Int)))) Tryz.results84 rfl ?_
 exact ⟨(by rw [← orInt_cmp]), H45.gr⟩
end Go.Proofs.YthjdhfoeckfmbaaGreat
namespace Go.Proofs.YthjdhfoeckfmbaaGreat
open Go
set_option linter.unusedVariables false
set_option linter.unusedSimpArgs false
set_option linter.unusedSectionVars false
end Go.Proofs.YthjdhfoeckfmbaaGreat
namespace Go.Proofs.YthjdhfoeckfmbaaGreat
open Go
set_option linter.unusedVariables false
set_option linter.unusedSimpArgs false
set_option linter.unusedSectionVars false
def opOverAt (tm : Stamp) (over : List Stamp) (i : Nat) : Prop := stRight (nth over i) = true ∧ cmpSt (nth over i) tm < 0 ∧ (i = 0 ∨ cmpSt (nth over (i - 1)) (nth over i) < 0)
instance (tm : Stamp) (over : List Stamp) (i : Nat) : Decidable (opOverAt tm over i) := by unfold opOverAt; infer_instance
def moveOk (o : OpS) : Bool := decide (cmpSt o.node o.tm ≤ 0 ∧ (stRight o.par = true ∨ fixedSt o.par = true) ∧ nameOk o.name = true ∧ o.data = zeroId ∧ o.over.length = 0)
def editOk (o : OpS) : Bool := decide (cmpSt o.node o.tm < 0 ∧ o.par = ⟨0, 0⟩ ∧ o.name = ByteArray.empty ∧ o.data ≠ zeroId ∧ o.over.length ≤ 64 ∧ ∀ i, i < o.over.length → opOverAt o.tm o.over i)
def goodOp (o : OpS) : Bool := decide (stRight o.tm = true ∧ stRight o.node = true ∧ (o.kind = 1 ∧ moveOk o = true ∨ o.kind = 2 ∧ editOk o = true))
theorem moveOk_e {o : OpS} : Value.bool ((((decide (cmpSt o.node o.tm ≤ 0) && (stRight o.par || fixedSt o.par)) && nameOk o.name) && decide (o.data = zeroId)) && decide (((o.over.length : Nat) : Int) = 0)) = Value.bool (moveOk o) := by
  refine boolE ?_
  simp only [Bool.and_eq_true, Bool.or_eq_true, decide_eq_true_eq]
  constructor
  · rintro ⟨⟨⟨⟨h1, h2⟩, h3⟩, h4⟩, h5⟩; exact ⟨h1, h2, h3, h4, by omega⟩
  · rintro ⟨h1, h2, h3, h4, h5⟩; exact ⟨⟨⟨⟨h1, h2⟩, h3⟩, h4⟩, by omega⟩
theorem editOk_f1 {o : OpS} (h : (((0 ≤ cmpSt o.node o.tm ∨ ¬ o.par = (⟨0, 0⟩ : Stamp)) ∨ ¬ o.name = ByteArray.empty) ∨ o.data = zeroId) ∨ (64 : Int) < ((o.over.length : Nat) : Int)) : Value.bool false = Value.bool (editOk o) := by
  refine boolF ?_
  rintro ⟨h1, h2, h3, h4, h5, _⟩
  rcases h with (((h | h) | h) | h) | h
  · omega
  · exact h h2
  · exact h h3
  · exact h4 h
  · omega
theorem overAt_t {tm : Stamp} {over : List Stamp} {k : Nat} (h : (stRight (nth over k) = true ∧ ¬ 0 ≤ cmpSt (nth over k) tm) ∧ (¬ (0 : Int) < ((k : Nat) : Int) ∨ ¬ 0 ≤ cmpSt (nth over (k - 1)) (nth over k))) : opOverAt tm over k :=
  ⟨h.1.1, by omega, by rcases h.2 with h | h <;> omega⟩
theorem editOk_f2 {o : OpS} {k : Nat} (hk : k < o.over.length) (h : (stRight (nth o.over k) = false ∨ 0 ≤ cmpSt (nth o.over k) o.tm) ∨ ((0 : Int) < ((k : Nat) : Int) ∧ 0 ≤ cmpSt (nth o.over (k - 1)) (nth o.over k))) : Value.bool false = Value.bool (editOk o) := by
  refine boolF ?_
  rintro ⟨_, _, _, _, _, hh⟩
  obtain ⟨a1, a2, a3⟩ := hh k hk
  rcases h with (h | h) | h
  · rw [a1] at h; cases h
  · omega
  · rcases a3 with a3 | a3 <;> omega
theorem editOk_t {o : OpS} (h : (((¬ 0 ≤ cmpSt o.node o.tm ∧ o.par = (⟨0, 0⟩ : Stamp)) ∧ o.name = ByteArray.empty) ∧ ¬ o.data = zeroId) ∧ ¬ (64 : Int) < ((o.over.length : Nat) : Int)) (h2 : ∀ i, i < o.over.length → opOverAt o.tm o.over i) : Value.bool true = Value.bool (editOk o) :=
  boolT ⟨by omega, h.1.1.1.2, h.1.1.2, h.1.2, by omega, h2⟩
theorem good_f {o : OpS} (h : stRight o.tm = false ∨ stRight o.node = false) : Value.bool false = Value.bool (goodOp o) := boolF fun hh => by
  rcases h with h | h
  · rw [hh.1] at h; cases h
  · rw [hh.2.1] at h; cases h
theorem good_m {o : OpS} (h : stRight o.tm = true ∧ stRight o.node = true) (h1 : o.kind = 1) : Value.bool (moveOk o) = Value.bool (goodOp o) := boolE ⟨fun hm => ⟨h.1, h.2, .inl ⟨h1, hm⟩⟩, fun hh => by
  rcases hh.2.2 with h3 | h3
  · exact h3.2
  · omega⟩
theorem good_e {o : OpS} (h : stRight o.tm = true ∧ stRight o.node = true) (h1 : o.kind = 2) : Value.bool (editOk o) = Value.bool (goodOp o) := boolE ⟨fun hm => ⟨h.1, h.2, .inr ⟨h1, hm⟩⟩, fun hh => by
  rcases hh.2.2 with h3 | h3
  · omega
  · exact h3.2⟩
theorem good_n {o : OpS} (h1 : ¬ o.kind = 1) (h2 : ¬ o.kind = 2) : Value.bool false = Value.bool (goodOp o) := boolF fun hh => by rcases hh.2.2 with h | h <;> exact absurd h.1 (by assumption)
structure MakerS where
  at_ : Stamp
  ops : List OpS
  oh : SlH
  bad : Bool
  deriving Inhabited
structure OpC where
  kind : Int
  tm : Stamp
  node : Stamp
  par : Stamp
  name : ByteArray
  data : ID
  over : List Stamp
  deriving DecidableEq, Inhabited
def OpS.core (o : OpS) : OpC := ⟨o.kind, o.tm, o.node, o.par, o.name, o.data, o.over⟩
def OpC.good (o : OpC) : Bool := goodOp { kind := o.kind, tm := o.tm, node := o.node, par := o.par, name := o.name, data := o.data, over := o.over, oh := nilH }
structure MakerC where
  at_ : Stamp
  ops : List OpC
  bad : Bool
def MakerS.st (m : MakerS) : MakerC := ⟨m.at_, m.ops.map OpS.core, m.bad⟩
end Go.Proofs.YthjdhfoeckfmbaaGreat
namespace Go.Proofs.YthjdhfoeckfmbaaGreat
open Go
set_option maxRecDepth 100000
set_option linter.unusedVariables false
set_option linter.unusedSimpArgs false
set_option linter.unusedSectionVars false
variable [DD]
theorem cF84 : callable Tryz.prog 84 = true := by kernel_rfl
theorem cF100 : callable Tryz.prog 100 = true := by kernel_rfl
set_option maxHeartbeats 1000000 in
theorem stamp_edit (o : OpS) (w : World) (So_over : Sl (Old w) stampCh 2 o.oh o.over w) :
    Calls Tryz.prog 129 #[(aggOf (opCh o))] w (Ret fun v w' => v = (.bool (editOk o)) ∧ Ext w w') := by
 refine calls_W Tryz.func129 rfl Tryz.ntmps129 rfl ?_
 have H0 := Ctx.start w nob
 have H1 := H0.addSl _ So_over (fun b hb => ⟨hb, fun _ ho => (nomatch ho)⟩)
 have LSo_over := So_over.len
 refine W_seq (W_reg ?_)
 refine O_v rfl (C_box H1 [[(.int .i64 o.kind)], [(.int .i64 o.tm.T)], [(.int .i64 o.tm.R)], [(.int .i64 o.node.T)], [(.int .i64 o.node.R)], [(.int .i64 o.par.T)], [(.int .i64 o.par.R)], [(.string o.name)], (idCells o.data), [(slV o.oh o.over)]] rfl ?_)
 intro b2 w3 hb4 hx5 H6
 refine O_as (v := (.bool false)) rfl rfl ?_
 refine O_nil (Then_n (W_seq (W_seq ?_)))
 refine W_rg [(0, .q 0), (1, .q 0), (2, .q 0), (3, .q 0), (4, .q 0), (5, .q 0), (6, .q 0), (7, .q 0), (8, .q 0), (9, .q 0), (10, .q 0), (11, .q 0), (12, .q 0), (13, .q 0), (14, .q 0), (15, .q 0), (16, .q 0), (17, .q 0), (18, .q 0), (19, .q 0), (20, .q 0), (21, .q 0), (22, .q 0), (23, .q 0), (24, .q 0), (25, .q 0), (26, .q 0), (27, .q 0), (28, .q 0)] (by kernel_rfl) ?_
 refine Lx_q rfl rfl _ (fun v7 hv8 => R_fieldAddr (off := 3) (oo := 3) Tryz.underlying72 rfl rfl Tryz.sizeOf69 rfl rfl qk) (Lx_q rfl rfl _ (fun v9 hv10 => R_loadA (cs := [[(.int .i64 o.node.T)], [(.int .i64 o.node.R)]]) Tryz.isAgg69 Tryz.sizeOf69 rfl rfl ((H6.ext hv10).bx 0 rfl 3 2 3 3 _ rfl rfl rfl) qk) (Lx_q rfl rfl _ (fun v11 hv12 => R_fieldAddr (off := 1) (oo := 1) Tryz.underlying72 rfl rfl Tryz.sizeOf69 rfl rfl qk) (Lx_q rfl rfl _ (fun v13 hv14 => R_loadA (cs := [[(.int .i64 o.tm.T)], [(.int .i64 o.tm.R)]]) Tryz.isAgg69 Tryz.sizeOf69 rfl rfl ((H6.ext hv14).bx 0 rfl 1 2 1 1 _ rfl rfl rfl) qk) ?_)))
 refine Lx_q rfl rfl (.int .i64 (cmpSt o.node o.tm)) (fun v15 hv16 => R_callL (vs := [(aggOf (stampCh o.node)), (aggOf (stampCh o.tm))]) cF84 rfl rfl (stamp_Cmp o.node o.tm v15 )) (Lx_q rfl rfl _ (fun v17 hv18 => R_cmp (a := cmpSt o.node o.tm) (b := 0) (r := (decide (0 ≤ cmpSt o.node o.tm))) rfl rfl rfl qk) (Lx_mv (v := (.bool (decide (0 ≤ cmpSt o.node o.tm)))) rfl rfl rfl (Lx_qf rfl rfl rfl rfl rfl _ (fun hA v21 hv22 => R_fieldAddr (off := 5) (oo := 5) Tryz.underlying72 rfl rfl Tryz.sizeOf69 rfl rfl qk) ?_)))
 refine Lx_qf rfl rfl rfl rfl rfl _ (fun hA v23 hv24 => R_loadA (cs := [[(.int .i64 o.par.T)], [(.int .i64 o.par.R)]]) Tryz.isAgg69 Tryz.sizeOf69 rfl (gv_t hA) ((H6.ext hv24).bx 0 rfl 5 2 5 5 _ rfl rfl rfl) qk) (Lx_qf rfl rfl rfl rfl rfl _ (fun hA v25 hv26 => R_buildL (vs := []) (v := aggOf [[(.int .i64 0)], [(.int .i64 0)]]) rfl (fun _ => by kernel_rfl) qk) (Lx_qf rfl rfl rfl rfl rfl _ (fun hA v27 hv28 => R_nev (a := o.par) (b := ({ T := 0, R := 0 } : Stamp)) eqv_Stamp69 rfl Tryz.eqGuardType69 (gv_t hA) (gv_t hA) qk) (Lx_q rfl rfl _ (fun v29 hv30 => R_pick rfl pk_or qk) ?_)))
 refine Lx_mv (v := (.bool ((decide (0 ≤ cmpSt o.node o.tm)) || (!(decide (o.par = ({ T := 0, R := 0 } : Stamp))))))) rfl rfl rfl (Lx_qf rfl rfl rfl rfl rfl _ (fun hA v33 hv34 => R_fieldAddr (off := 7) (oo := 7) Tryz.underlying72 rfl rfl Tryz.sizeOf9 rfl rfl qk) (Lx_qf rfl rfl rfl rfl rfl _ (fun hA v35 hv36 => R_load1 (v := (.string o.name)) Tryz.isAgg9 (gv_t hA) ((H6.ext hv36).bx 0 rfl 7 1 7 7 _ rfl rfl rfl) qk) (Lx_qf rfl rfl rfl rfl rfl _ (fun hA v37 hv38 => R_cmpS (a := o.name) (b := ByteArray.empty) (r := (!(decide (o.name = ByteArray.empty)))) (gv_t hA) rfl rfl qk) ?_)))
 refine Lx_q rfl rfl _ (fun v39 hv40 => R_pick rfl pk_or qk) (Lx_mv (v := (.bool (((decide (0 ≤ cmpSt o.node o.tm)) || (!(decide (o.par = ({ T := 0, R := 0 } : Stamp))))) || (!(decide (o.name = ByteArray.empty)))))) rfl rfl rfl (Lx_qf rfl rfl rfl rfl rfl _ (fun hA v43 hv44 => R_fieldAddr (off := 8) (oo := 8) Tryz.underlying72 rfl rfl Tryz.sizeOf45 rfl rfl qk) (Lx_qf rfl rfl rfl rfl rfl _ (fun hA v45 hv46 => R_loadA (cs := [(idCells o.data)]) Tryz.isAgg45 Tryz.sizeOf45 rfl (gv_t hA) ((H6.ext hv46).bx 0 rfl 8 1 8 8 _ rfl rfl rfl) qk) ?_)))
 refine Lx_qf rfl rfl rfl rfl rfl _ (fun hA v47 hv48 => R_buildL (vs := []) (v := aggOf [(idCells zeroId)]) rfl (fun _ => by kernel_rfl) qk) (Lx_qf rfl rfl rfl rfl rfl _ (fun hA v49 hv50 => R_eqv (a := o.data) (b := zeroId) eqv_ID45 rfl Tryz.eqGuardType45 (gv_t hA) (gv_t hA) qk) (Lx_q rfl rfl _ (fun v51 hv52 => R_pick rfl pk_or qk) (Lx_mv (v := (.bool ((((decide (0 ≤ cmpSt o.node o.tm)) || (!(decide (o.par = ({ T := 0, R := 0 } : Stamp))))) || (!(decide (o.name = ByteArray.empty)))) || (decide (o.data = zeroId))))) rfl rfl rfl ?_)))
 refine Lx_qf rfl rfl rfl rfl rfl _ (fun hA v55 hv56 => R_fieldAddr (off := 40) (oo := 40) Tryz.underlying72 rfl rfl Tryz.sizeOf70 rfl rfl qk) (Lx_qf rfl rfl rfl rfl rfl _ (fun hA v57 hv58 => R_load1 (v := (slV o.oh o.over)) Tryz.isAgg70 (gv_t hA) ((H6.ext hv58).bx 0 rfl 9 1 40 40 _ rfl rfl rfl) qk) (Lx_qf rfl rfl rfl rfl rfl _ (fun hA v59 hv60 => R_len_slice (a := o.oh.a) (n := o.over.length) (c := o.oh.c) Tryz.underlying70 (gv_t hA) qk) (Lx_qf rfl rfl rfl rfl rfl _ (fun hA v61 hv62 => R_cmp (a := (o.over.length : Int)) (b := 64) (r := (decide (64 < (o.over.length : Int)))) (gv_t hA) rfl rfl qk) ?_)))
 refine Lx_q rfl rfl _ (fun v63 hv64 => R_pick rfl pk_or qk) ?_
 refine Lx_nil (fun w65 hw66 => ?_)
 have H67 := H6.ext hw66
 refine Then_n ?_
 refine W_cond rfl (fun hc68 => ?_) (fun hc68 => ?_)
 ·have hc68 : (((((0 ≤ cmpSt o.node o.tm) ∨ ¬ (o.par = ({ T := 0, R := 0 } : Stamp))) ∨ ¬ (o.name = ByteArray.empty)) ∨ (o.data = zeroId)) ∨ (64 < (o.over.length : Int))) := (Or.imp (fun h => (Or.imp (fun h => (Or.imp (fun h => (Or.imp (fun h => (of_decide_eq_true h)) (fun h => (of_decide_eq_false (notT h))) (orT h))) (fun h => (of_decide_eq_false (notT h))) (orT h))) (fun h => (of_decide_eq_true h)) (orT h))) (fun h => (of_decide_eq_true h)) (orT hc68))
  refine W_seq (W_reg ?_)
  refine O_as (v := (.bool false)) rfl rfl ?_
  refine O_nil (Then_n (W_ret (Then_r ?_)))
  refine ret_1 (v := (.bool false)) Tryz.results129 rfl ?_
  exact ⟨(editOk_f1 (by assumption)), H67.gr⟩
 ·have hc68 : ((((¬ (0 ≤ cmpSt o.node o.tm) ∧ (o.par = ({ T := 0, R := 0 } : Stamp))) ∧ (o.name = ByteArray.empty)) ∧ ¬ (o.data = zeroId)) ∧ ¬ (64 < (o.over.length : Int))) := (And.imp (fun h => (And.imp (fun h => (And.imp (fun h => (And.imp (fun h => (of_decide_eq_false h)) (fun h => (of_decide_eq_true (notF h))) (orF h))) (fun h => (of_decide_eq_true (notF h))) (orF h))) (fun h => (of_decide_eq_false h)) (orF h))) (fun h => (of_decide_eq_false h)) (orF hc68))
  refine W_skip (Then_n (W_seq (W_seq (W_reg ?_))))
  refine O_v rfl (R_fieldAddr (off := 40) (oo := 40) Tryz.underlying72 rfl rfl Tryz.sizeOf70 rfl rfl ?_)
  refine O_v rfl (R_load1 (v := (slV o.oh o.over)) Tryz.isAgg70 rfl (H67.bx 0 rfl 9 1 40 40 _ rfl rfl rfl) ?_)
  refine O_v rfl (R_len_slice (a := o.oh.a) (n := o.over.length) (c := o.oh.c) Tryz.underlying70 rfl ?_)
  refine O_mv (v := (.int .i64 0)) rfl rfl ?_
  refine O_nil (Then_n (W_block ?_))
  refine W_loop (fun m69 e70 w71 => ∃ (k : Nat), m69 = o.over.length - k ∧ (k ≤ o.over.length) ∧ (∀ i, i < k → opOverAt o.tm o.over i) ∧ ∃ eb72, e70 = envL [(1, (.pointer (some ⟨b2, 0, none⟩))), (35, (slV o.oh o.over)), (36, (.int .i64 (o.over.length : Int))), (37, (.int .i64 (k : Int)))] eb72 ∧ Ctx w nob w71 [boxR b2 72 [[(.int .i64 o.kind)], [(.int .i64 o.tm.T)], [(.int .i64 o.tm.R)], [(.int .i64 o.node.T)], [(.int .i64 o.node.R)], [(.int .i64 o.par.T)], [(.int .i64 o.par.R)], [(.string o.name)], (idCells o.data), [(slV o.oh o.over)]]] [slI (Old w) stampCh 2 o.oh o.over]) _ ⟨0, rfl, (by omega), (all_zero _), _, envL_self ⟨rfl, rfl, rfl, rfl, trivial⟩, H67⟩ ?_
  rintro m69 _ w71 ⟨k, rfl, hk, hn, eb72, rfl, H73⟩
  refine W_seq (W_reg ?_)
  refine O_v rfl (R_cmp (a := (k : Int)) (b := (o.over.length : Int)) (r := (decide ((k : Int) < (o.over.length : Int)))) rfl rfl rfl ?_)
  refine O_nil (Then_n (W_seq ?_))
  refine W_cond rfl (fun hc74 => ?_) (fun hc74 => ?_)
  ·have hc74 := (of_decide_eq_true hc74)
   refine W_skip (Then_n (W_seq (W_block (W_seq (W_reg ?_)))))
   refine O_mv (v := (.int .i64 (k : Int))) rfl rfl ?_
   refine O_v rfl (R_index_pure (H73.sl 0 rfl) (n := o.over.length) rfl (j := (k : Int)) (oo := (o.oh.o + k * 2)) Tryz.underlying70 Tryz.sizeOf69 rfl rfl (by omega) (by omega) rfl ?_)
   refine O_v rfl (R_loadA (cs := [[(.int .i64 ((nth o.over k).T))], [(.int .i64 ((nth o.over k).R))]]) Tryz.isAgg69 Tryz.sizeOf69 rfl rfl ((Sl.elem (H73.sl 0 rfl) (i := k) (by omega) rfl).chunks 0 2 0 (o.oh.o + k * 2) _ rfl rfl rfl) ?_)
   refine O_v rfl (C_alloc H73 [[(.int .i64 0)], [(.int .i64 0)]] Tryz.zeroValue69 ?_)
   intro b75 w76 hb77 hx78 H79
   refine O_as (v := (.int .i64 (k : Int))) rfl rfl ?_
   refine O_u (C_storeW H79 0 rfl (sub := [[(.int .i64 ((nth o.over k).T))], [(.int .i64 ((nth o.over k).R))]]) Tryz.sizeOf69 rfl rfl rfl rfl rfl ?_)
   intro w80 hg81 H82
   refine O_nil (Then_n (W_seq ?_))
   refine W_rgd TryzMixed [(0, .q 0), (1, .q 0), (2, .q 0), (3, .q 0), (4, .q 0), (5, .q 0), (6, .q 0), (7, .q 0), (8, .q 0), (9, .q 0), (10, .q 0), (11, .q 0), (12, .q 0), (13, .q 0), (14, .q 0), (15, .q 0), (16, .q 0), (17, .q 0), (18, .q 0), (19, .q 0), (20, .q 0), (21, .q 0), (22, .q 0), (23, .q 0), (24, .q 0)] (by kernel_rfl) ?_
   refine Lx_q rfl rfl _ (fun v83 hv84 => R_loadA (cs := [[(.int .i64 ((nth o.over k).T))], [(.int .i64 ((nth o.over k).R))]]) Tryz.isAgg69 Tryz.sizeOf69 rfl rfl ((H82.ext hv84).bx 0 rfl 0 2 0 0 _ rfl rfl rfl) qk) (Lx_q rfl rfl (.bool (stRight (nth o.over k))) (fun v85 hv86 => R_callL (vs := [(aggOf (stampCh (nth o.over k)))]) cF100 rfl rfl (stamp_Right (nth o.over k) v85 )) (Lx_q rfl rfl _ (fun v87 hv88 => R_not rfl qk) (Lx_mv (v := (.bool (!(stRight (nth o.over k))))) rfl rfl rfl ?_)))
   refine Lx_qf rfl rfl rfl rfl rfl _ (fun hA v91 hv92 => R_loadA (cs := [[(.int .i64 ((nth o.over k).T))], [(.int .i64 ((nth o.over k).R))]]) Tryz.isAgg69 Tryz.sizeOf69 rfl rfl ((H82.ext hv92).bx 0 rfl 0 2 0 0 _ rfl rfl rfl) qk) (Lx_qf rfl rfl rfl rfl rfl _ (fun hA v93 hv94 => R_fieldAddr (off := 1) (oo := 1) Tryz.underlying72 rfl rfl Tryz.sizeOf69 rfl rfl qk) (Lx_qf rfl rfl rfl rfl rfl _ (fun hA v95 hv96 => R_loadA (cs := [[(.int .i64 o.tm.T)], [(.int .i64 o.tm.R)]]) Tryz.isAgg69 Tryz.sizeOf69 rfl (gv_t hA) ((H82.ext hv96).bx 1 rfl 1 2 1 1 _ rfl rfl rfl) qk) (Lx_qf rfl rfl rfl rfl rfl (.int .i64 (cmpSt (nth o.over k) o.tm)) (fun hA v97 hv98 => R_callL (vs := [(aggOf (stampCh (nth o.over k))), (aggOf (stampCh o.tm))]) cF84 rfl (lst2 (gv_t hA) (gv_t hA)) (stamp_Cmp (nth o.over k) o.tm v97 )) ?_)))
   refine Lx_qf rfl rfl rfl rfl rfl _ (fun hA v99 hv100 => R_cmp (a := cmpSt (nth o.over k) o.tm) (b := 0) (r := (decide (0 ≤ cmpSt (nth o.over k) o.tm))) (gv_t hA) rfl rfl qk) (Lx_q rfl rfl _ (fun v101 hv102 => R_pick rfl pk_or qk) (Lx_mv (v := (.bool ((!(stRight (nth o.over k))) || (decide (0 ≤ cmpSt (nth o.over k) o.tm))))) rfl rfl rfl (Lx_qf rfl rfl rfl rfl rfl _ (fun hA v105 hv106 => R_move (v := (.int .i64 (k : Int))) rfl qk) ?_)))
   refine Lx_qf rfl rfl rfl rfl rfl _ (fun hA v107 hv108 => R_cmp (a := (k : Int)) (b := 0) (r := (decide (0 < (k : Int)))) (gv_t hA) rfl rfl qk) (Lx_qf rfl rfl rfl rfl rfl _ (fun hA v109 hv110 => R_move (v := (.bool (decide (0 < (k : Int))))) (gv_t hA) qk) (Lx_gt (!((!(stRight (nth o.over k))) || (decide (0 ≤ cmpSt (nth o.over k) o.tm)))) (decide (0 < (k : Int))) rfl rfl rfl rfl rfl _ (fun hA v111 hv112 => R_fieldAddr (off := 40) (oo := 40) Tryz.underlying72 rfl rfl Tryz.sizeOf70 rfl rfl qk) (Lx_gt (!((!(stRight (nth o.over k))) || (decide (0 ≤ cmpSt (nth o.over k) o.tm)))) (decide (0 < (k : Int))) rfl rfl rfl rfl rfl _ (fun hA v113 hv114 => R_load1 (v := (slV o.oh o.over)) Tryz.isAgg70 (gv_t hA) ((H82.ext hv114).bx 1 rfl 9 1 40 40 _ rfl rfl rfl) qk) ?_)))
   refine Lx_gt (!((!(stRight (nth o.over k))) || (decide (0 ≤ cmpSt (nth o.over k) o.tm)))) (decide (0 < (k : Int))) rfl rfl rfl rfl rfl _ (fun hA v115 hv116 => R_move (v := (.int .i64 (k : Int))) rfl qk) ?_
   refine Lx_gt (!((!(stRight (nth o.over k))) || (decide (0 ≤ cmpSt (nth o.over k) o.tm)))) (decide (0 < (k : Int))) rfl rfl rfl rfl rfl _ (fun hA v117 hv118 => by
          have hP : (((stRight (nth o.over k)) = true ∧ ¬ (0 ≤ cmpSt (nth o.over k) o.tm)) ∧ (0 < (k : Int))) := (And.imp (fun h => (And.imp (fun h => (notF h)) (fun h => (of_decide_eq_false h)) (orF (notT h)))) (fun h => (of_decide_eq_true h)) (andT hA))
          exact R_arith (a := (k : Int)) (b := 1) (r0 := (k : Int) - 1) (r := ((k - 1 : Nat) : Int)) (gv_t hA) rfl rfl (wrapP _ (by omega) (by omega)) qk) ?_
   refine Lx_gt (!((!(stRight (nth o.over k))) || (decide (0 ≤ cmpSt (nth o.over k) o.tm)))) (decide (0 < (k : Int))) rfl rfl rfl rfl rfl _ (fun hA v119 hv120 => by
          have hP : (((stRight (nth o.over k)) = true ∧ ¬ (0 ≤ cmpSt (nth o.over k) o.tm)) ∧ (0 < (k : Int))) := (And.imp (fun h => (And.imp (fun h => (notF h)) (fun h => (of_decide_eq_false h)) (orF (notT h)))) (fun h => (of_decide_eq_true h)) (andT hA))
          exact R_index_pure (H82.sl 0 rfl) (n := o.over.length) rfl (j := ((k - 1 : Nat) : Int)) (oo := (o.oh.o + (k - 1) * 2)) Tryz.underlying70 Tryz.sizeOf69 (gv_t hA) (gv_t hA) (by omega) (by omega) rfl qk) ?_
   refine Lx_gt (!((!(stRight (nth o.over k))) || (decide (0 ≤ cmpSt (nth o.over k) o.tm)))) (decide (0 < (k : Int))) rfl rfl rfl rfl rfl _ (fun hA v121 hv122 => by
          have hP : (((stRight (nth o.over k)) = true ∧ ¬ (0 ≤ cmpSt (nth o.over k) o.tm)) ∧ (0 < (k : Int))) := (And.imp (fun h => (And.imp (fun h => (notF h)) (fun h => (of_decide_eq_false h)) (orF (notT h)))) (fun h => (of_decide_eq_true h)) (andT hA))
          exact R_loadA (cs := [[(.int .i64 ((nth o.over (k - 1)).T))], [(.int .i64 ((nth o.over (k - 1)).R))]]) Tryz.isAgg69 Tryz.sizeOf69 rfl (gv_t hA) ((Sl.elem ((H82.ext hv122).sl 0 rfl) (i := (k - 1)) (by omega) rfl).chunks 0 2 0 (o.oh.o + (k - 1) * 2) _ rfl rfl rfl) qk) ?_
   refine Lx_gt (!((!(stRight (nth o.over k))) || (decide (0 ≤ cmpSt (nth o.over k) o.tm)))) (decide (0 < (k : Int))) rfl rfl rfl rfl rfl _ (fun hA v123 hv124 => R_loadA (cs := [[(.int .i64 ((nth o.over k).T))], [(.int .i64 ((nth o.over k).R))]]) Tryz.isAgg69 Tryz.sizeOf69 rfl rfl ((H82.ext hv124).bx 0 rfl 0 2 0 0 _ rfl rfl rfl) qk) (Lx_gt (!((!(stRight (nth o.over k))) || (decide (0 ≤ cmpSt (nth o.over k) o.tm)))) (decide (0 < (k : Int))) rfl rfl rfl rfl rfl (.int .i64 (cmpSt (nth o.over (k - 1)) (nth o.over k))) (fun hA v125 hv126 => R_callL (vs := [(aggOf (stampCh (nth o.over (k - 1)))), (aggOf (stampCh (nth o.over k)))]) cF84 rfl (lst2 (gv_t hA) (gv_t hA)) (stamp_Cmp (nth o.over (k - 1)) (nth o.over k) v125 )) (Lx_gt (!((!(stRight (nth o.over k))) || (decide (0 ≤ cmpSt (nth o.over k) o.tm)))) (decide (0 < (k : Int))) rfl rfl rfl rfl rfl _ (fun hA v127 hv128 => R_cmp (a := cmpSt (nth o.over (k - 1)) (nth o.over k)) (b := 0) (r := (decide (0 ≤ cmpSt (nth o.over (k - 1)) (nth o.over k)))) (gv_t hA) rfl rfl qk) (Lx_qf rfl rfl rfl rfl rfl _ (fun hA v129 hv130 => R_pick (gv_t hA) (pk_andA hA) qk) ?_)))
   refine Lx_q rfl rfl _ (fun v131 hv132 => R_pick rfl pk_or qk) ?_
   refine Lx_nil (fun w133 hw134 => ?_)
   have H135 := H82.ext hw134
   refine Then_n ?_
   refine W_cond rfl (fun hc136 => ?_) (fun hc136 => ?_)
   ·have hc136 : (((stRight (nth o.over k)) = false ∨ (0 ≤ cmpSt (nth o.over k) o.tm)) ∨ ((0 < (k : Int)) ∧ (0 ≤ cmpSt (nth o.over (k - 1)) (nth o.over k)))) := (Or.imp (fun h => (Or.imp (fun h => (notT h)) (fun h => (of_decide_eq_true h)) (orT h))) (fun h => (And.imp (fun h => (of_decide_eq_true h)) (fun h => (of_decide_eq_true h)) (andT h))) (orT hc136))
    refine W_seq (W_reg ?_)
    refine O_as (v := (.bool false)) rfl rfl ?_
    refine O_nil (Then_n (W_ret (Blk_r (Then_r (Then_r (Blk_r (Then_r ?_)))))))
    refine ret_1 (v := (.bool false)) Tryz.results129 rfl ?_
    exact ⟨(editOk_f2 (k := k) (by omega) (by assumption)), H135.gr⟩
   ·have hc136 : (((stRight (nth o.over k)) = true ∧ ¬ (0 ≤ cmpSt (nth o.over k) o.tm)) ∧ (¬ (0 < (k : Int)) ∨ ¬ (0 ≤ cmpSt (nth o.over (k - 1)) (nth o.over k)))) := (And.imp (fun h => (And.imp (fun h => (notF h)) (fun h => (of_decide_eq_false h)) (orF h))) (fun h => (Or.imp (fun h => (of_decide_eq_false h)) (fun h => (of_decide_eq_false h)) (andF h))) (orF hc136))
    refine W_skip (Blk_n (Then_n (W_reg ?_)))
    refine O_v rfl (R_arith (a := (k : Int)) (b := 1) (r0 := (k : Int) + 1) (r := ((k + 1 : Nat) : Int)) rfl rfl rfl (wrapN _ (by omega)) ?_)
    refine O_mv (v := (.int .i64 ((k + 1 : Nat) : Int))) rfl rfl ?_
    refine O_nil (Then_n ?_)
    have H137 := H135.sub (List.Sublist.cons _ (List.Sublist.cons_cons _ List.Sublist.slnil)) (List.forall_mem_cons.2 ⟨List.mem_of_getElem? (i := 0) rfl, memN⟩)
    refine ⟨_, ?_, (k + 1), rfl, (by omega), (all_succ hn (overAt_t (by assumption))), _, envL_self ⟨rfl, rfl, rfl, rfl, trivial⟩, H137⟩
    omega
  ·have hc74 := (of_decide_eq_false hc74)
   refine W_exit (Then_x (Then_x (Blk_x (Then_n (W_seq (W_reg ?_))))))
   refine O_as (v := (.bool true)) rfl rfl ?_
   refine O_nil (Then_n (W_ret ?_))
   refine ret_1 (v := (.bool true)) Tryz.results129 rfl ?_
   exact ⟨(editOk_t (by assumption) (by rwa [show o.over.length = k from by omega])), H73.gr⟩
end Go.Proofs.YthjdhfoeckfmbaaGreat
namespace Go.Proofs.YthjdhfoeckfmbaaGreat
set_option linter.unusedVariables false
set_option linter.unusedSimpArgs false
open Go Go.Shelf Go.RowKit Go.Lib Go.Proofs
variable {P : Program} {ρ : Ren}
set_option maxHeartbeats 2000000 in
set_option maxRecDepth 1000000 in
theorem validRune_any (L : Lays.n152 P ρ) (r : Int) (w : World) : Calls P (ρ.f 119) #[.int .i32 r] w fun e w' => e = .returned (.bool (validRune r)) ∧ w' = w := by
  have t4 := L.t4; have a4 := L.a4; have z4 := L.z4; have v4 := L.v4
  have t21 := L.t21; have a21 := L.a21; have z21 := L.z21; have v21 := L.v21
  by_cases h1 : 0 ≤ r <;> by_cases h2 : r < 55296 <;> by_cases h3 : 57343 < r <;> by_cases h4 : r ≤ 1114111
  all_goals (go_enter L.f119, Body.n119_ntmps ρ; go_wp2; go_ret; exact ⟨by simp [validRune, h1, h2, h3, h4] <;> omega, rfl⟩)
set_option maxHeartbeats 4000000 in
set_option maxRecDepth 1000000 in
theorem indexRune_bad (L : Lays.n152 P ρ) (s : ByteArray) (r : Int) (w : World) (h0 : 128 ≤ r) (h65 : ¬ r = 65533) (hv : validRune r = false) :
    Calls P (ρ.f 152) #[.string s, .int .i32 r] w fun e w' => e = .returned (.int .i64 (-1)) ∧ w' = w := by
  have t3 := L.t3; have a3 := L.a3; have z3 := L.z3; have v3 := L.v3
  have t4 := L.t4; have a4 := L.a4; have z4 := L.z4; have v4 := L.v4
  have t5 := L.t5; have a5 := L.a5; have z5 := L.z5; have v5 := L.v5
  have t9 := L.t9; have a9 := L.a9; have z9 := L.z9; have v9 := L.v9
  have t21 := L.t21; have a21 := L.a21; have z21 := L.z21; have v21 := L.v21
  have e119 : ∀ args w, (callFunc (ρ.f 119) args).run P w = .ok (.enter (ρ.f 119) args) w := enters_of L.f119 (by kernel_rfl) rfl
  have h1 : (0 : Int) ≤ r := by omega
  have h2 : ¬ r < 128 := by omega
  have h65 : (r == 65533) = false := beq_eq_false_iff_ne.2 h65
  go_enter L.f152, Body.n152_ntmps ρ
  go_wp2_with (go_at_fn (ρ.f 119); refine (validRune_any L _ _).mono ?_; rintro e w' ⟨rfl, hw⟩; rw [hw, hv])
  go_ret
  exact ⟨rfl, rfl⟩
set_option maxHeartbeats 8000000 in
set_option maxRecDepth 1000000 in
theorem indexRune_err (L : Lays.n152 P ρ) (s : ByteArray) (w : World) (hs : ∀ (j : Nat) b, s.data.toList[j]? = some b → b.toNat < 128) :
    Calls P (ρ.f 152) #[.string s, .int .i32 65533] w fun e w' => e = .returned (.int .i64 (-1)) ∧ ∃ pos, w' = w.iter s pos := by
  have HA : Aside (∀ (j : Nat) b, s.data.toList[j]? = some b → b.toNat < 128) := hs
  clear hs
  have t3 := L.t3; have a3 := L.a3; have z3 := L.z3; have v3 := L.v3
  have t4 := L.t4; have a4 := L.a4; have z4 := L.z4; have v4 := L.v4
  have t5 := L.t5; have a5 := L.a5; have z5 := L.z5; have v5 := L.v5
  have t9 := L.t9; have a9 := L.a9; have z9 := L.z9; have v9 := L.v9
  have t21 := L.t21; have a21 := L.a21; have z21 := L.z21; have v21 := L.v21
  go_enter L.f152, Body.n152_ntmps ρ
  go_wp2
  go_loopg [5, 6] s.size (fun g _ _ wx => ∃ i : Nat, i + g = s.size ∧ wx = w.iter s i)
  case atStart => exact ⟨0, by omega, rfl⟩
  case round =>
    obtain ⟨i, hig, rfl⟩ := hrel
    cases gk with
    | zero =>
      obtain rfl : i = s.size := by omega
      have hnx := run_next_end (P := P) w s s.size
      go_wp2
      go_ret
      exact ⟨rfl, _, rfl⟩
    | succ g =>
      have hi : i < s.size := by omega
      obtain ⟨x, hx⟩ : ∃ x : UInt8, s[i]'hi = x := ⟨_, rfl⟩
      have hxl : s.data.toList[i]? = some x := by rw [← hx]; exact Lib.data_getElem? s i hi
      have hx128 : x.toNat < 128 := HA.out i x hxl
      have hnx := fun ty => run_next_ascii (P := P) w s i ty hi (by rw [hx]; exact hx128)
      rw [hx] at hnx
      have hne : ((x.toNat : Int) == 65533) = false := beq_eq_false_iff_ne.2 (by omega)
      clear hxl hx
      go_wp2
      go_roundg g
      case measure => omega
      case rel => exact ⟨i + 1, by omega, rfl⟩
theorem indexByte_high {l : List UInt8} {c : UInt8} (hs : ∀ b ∈ l, b.toNat < 128) (hc : 128 ≤ c.toNat) : Lib.indexByte l c = -1 := by
  induction l with
  | nil => rfl
  | cons b l ih =>
    have hb := hs b (List.mem_cons_self ..)
    have hne : (b == c) = false := beq_eq_false_iff_ne.2 (fun e => by rw [e] at hb; omega)
    unfold Lib.indexByte
    rw [hne, ih (fun x hx => hs x (List.mem_cons_of_mem _ hx))]
    rfl
set_option maxHeartbeats 8000000 in
set_option maxRecDepth 1000000 in
theorem indexRune_valid (L : Lays.n152 P ρ) (s : ByteArray) (r : Int) (w : World) (hs : ∀ b ∈ s.data.toList, b.toNat < 128) (hsz : s.size < 4294967281) (h0 : 128 ≤ r) (hr : r ≤ 1114111) (h65 : ¬ r = 65533) (hv : validRune r = true) :
    Calls P (ρ.f 152) #[.string s, .int .i32 r] w fun e w' => e = .returned (.int .i64 (-1)) ∧ ∃ n, w' = w.drewN n := by
  have t3 := L.t3; have a3 := L.a3; have z3 := L.z3; have v3 := L.v3
  have t4 := L.t4; have a4 := L.a4; have z4 := L.z4; have v4 := L.v4
  have t5 := L.t5; have a5 := L.a5; have z5 := L.z5; have v5 := L.v5
  have t9 := L.t9; have a9 := L.a9; have z9 := L.z9; have v9 := L.v9
  have t21 := L.t21; have a21 := L.a21; have z21 := L.z21; have v21 := L.v21
  have e119 : ∀ args w, (callFunc (ρ.f 119) args).run P w = .ok (.enter (ρ.f 119) args) w := enters_of L.f119 (by kernel_rfl) rfl
  have h1 : (0 : Int) ≤ r := by omega
  have h2 : ¬ r < 128 := by omega
  have h65 : (r == 65533) = false := beq_eq_false_iff_ne.2 h65
  obtain ⟨f1, f2, f3⟩ := encode_facts r (by rw [validRune_eq]; exact hv) h0
  go_enter L.f152, Body.n152_ntmps ρ
  go_wp2_with (go_at_fn (ρ.f 119); refine (validRune_any L _ _).mono ?_; rintro e w' ⟨rfl, hw⟩; rw [hw, hv])
  have hlen : ((Utf8.encode r).size : Int) - 1 = (((Utf8.encode r).size - 1 : Nat) : Int) := by omega
  refine wp_scope_straight ?_
  go_wp2
  go_loopg [9] 0 (fun g s9 wx => s9 = .int .i64 (((Utf8.encode r).size - 1 : Nat) : Int) ∧ wx = w)
  case atStart => exact ⟨rfl, rfl⟩
  case round =>
    obtain ⟨rfl, rfl⟩ := hrel
    by_cases hlt : (Utf8.encode r).size - 1 < s.size
    · have mixed := L.mixed
      have e137 : ∀ args w, (callFunc (ρ.f 137) args).run P w = .ok (.enter (ρ.f 137) args) w := enters_of L.f137 (by kernel_rfl) rfl
      have hly : (Utf8.encode r).size - 1 < (Utf8.encode r).size := by omega
      obtain ⟨x, hx⟩ : ∃ x : UInt8, s[(Utf8.encode r).size - 1]'hlt = x := ⟨_, rfl⟩
      obtain ⟨y, hy⟩ : ∃ y : UInt8, (Utf8.encode r)[(Utf8.encode r).size - 1]'hly = y := ⟨_, rfl⟩
      have hy128 : 128 ≤ y.toNat := by rw [← hy]; exact f3 hly
      have hx128 : x.toNat < 128 := hs x (by rw [← hx]; exact Array.getElem_mem_toList (xs := s.data) hlt)
      have hne : ((x.toNat : Int) == (y.toNat : Int)) = false := beq_eq_false_iff_ne.2 (by omega)
      have hback : ((y.toNat : Int)).toNat.toUInt8 = y := by simp
      have hib : ∀ a b, Lib.indexByte (s.extract a b).data.toList y = -1 := fun a b => indexByte_high (fun c hc => hs c (mem_extract hc)) hy128
      clear f3
      go_wp2
      refine wp_scope_straight ?_
      have hxo : ∀ h, s[(Utf8.encode r).size - 1]'h = x := fun _ => hx
      have hyo : ∀ h, (Utf8.encode r)[(Utf8.encode r).size - 1]'h = y := fun _ => hy
      go_wp2
      go_quiet_o (fail)
      go_wp2
      clear hxo hyo hx f1 f2
      generalize hk : (Utf8.encode r).size - 1 = k at *
      generalize hR : Utf8.encode r = R at *
      have hb0 : (0 : Int) ≤ (k : Int) + 1 := by omega
      have hb1 : (k : Int) + 1 ≤ (s.size : Int) := by omega
      have hbb : (0 : Int) ≤ (k : Int) + 1 ∧ (k : Int) + 1 ≤ (s.size : Int) := ⟨hb0, hb1⟩
      have hw0 : wrap64 ((k : Int) + 1) = (k : Int) + 1 := IntWalk.wrap64_in _ (by omega)
      have hw1 : IntKind.i64.wrap ((k : Int) + 1) = (k : Int) + 1 := IntWalk.i64_in _ (by omega)
      go_region_with_o (first | (go_at_fn (ρ.f 137); refine (Any.strings_IndexByte { L with } _ _ _).mono ?_; rintro e w' ⟨rfl, hw⟩; rw [hw, hback, hib]))
      go_wp2
      simp only [Exit.noGoto_ret, Exit.noGoto, Exit.inBlock, Exit.then]
      go_ret
      exact ⟨rfl, _, rfl⟩
    · go_wp2
      rw [Exit.noGoto_ret]
      go_ret
      exact ⟨rfl, 0, rfl⟩
theorem below_iter (w : World) (s : ByteArray) (pos : Nat) : Below w.heap.size w (w.iter s pos) := (Below.refl _ _).alloc (Nat.le_refl _) _
theorem below_drewN (w : World) (n : Nat) : Below w.heap.size w (w.drewN n) := ⟨rfl, rfl, rfl, Nat.le_refl _, fun _ _ => rfl⟩
theorem data_lt {s : ByteArray} (hs : ∀ b ∈ s.data.toList, b.toNat < 128) : ∀ (j : Nat) b, s.data.toList[j]? = some b → b.toNat < 128 := fun j b h => hs b (List.mem_of_getElem? h)
theorem indexRune_any (L : Lays.n152 P ρ) (s : ByteArray) (r : Nat) (w : World) (hs : ∀ b ∈ s.data.toList, b.toNat < 128) (hsz : s.size < 4294967281) (hr : r ≤ 2147483647) :
    Calls P (ρ.f 152) #[.string s, .int .i32 (r : Int)] w fun e w' => e = .returned (.int .i64 (if r < 128 then Lib.indexByte s.data.toList r.toUInt8 else -1)) ∧ Below w.heap.size w w' := by
  by_cases h : r < 128
  · rw [if_pos h]
    refine (Any.strings_IndexRune_ascii { L with } s (r : Int) w (by omega) (by omega)).mono ?_
    rintro e w' ⟨rfl, rfl⟩
    exact ⟨by simp, Below.refl _ _⟩
  · rw [if_neg h]
    by_cases h1 : (r : Int) = 65533
    · rw [h1]
      refine (indexRune_err L s w (data_lt hs)).mono ?_
      rintro e w' ⟨rfl, pos, rfl⟩
      exact ⟨rfl, below_iter w s pos⟩
    · cases hv : validRune (r : Int) with
      | false =>
        refine (indexRune_bad L s (r : Int) w (by omega) h1 hv).mono ?_
        rintro e w' ⟨rfl, rfl⟩
        exact ⟨rfl, Below.refl _ _⟩
      | true =>
        have hle : (r : Int) ≤ 1114111 := by
          unfold validRune at hv
          have := of_decide_eq_true hv
          omega
        refine (indexRune_valid L s (r : Int) w hs hsz (by omega) hle h1 hv).mono ?_
        rintro e w' ⟨rfl, n, rfl⟩
        exact ⟨rfl, below_drewN w n⟩
theorem decode_cont (s : ByteArray) (pos : Nat) (h : pos < s.size) : ∀ j, pos < j → j < pos + (Utf8.decode s pos).2 → j < s.size ∧ 128 ≤ (s.get! j).toNat := by
  intro j h1 h2
  unfold Utf8.decode at h2
  simp only at h2
  have key : ∀ k, (decide (pos + k < s.size) && (s.get! (pos + k)).toNat / 64 == 2) = true → j = pos + k → j < s.size ∧ 128 ≤ (s.get! j).toNat := by
    intro k hk e
    subst e
    simp only [Bool.and_eq_true, decide_eq_true_eq, beq_iff_eq] at hk
    exact ⟨hk.1, by omega⟩
  repeat' split at h2
  all_goals try simp only [Bool.and_eq_true] at *
  all_goals try dsimp only at h2
  all_goals first
    | omega
    | (have e : j = pos + 1 := by omega
       refine key 1 ?_ e
       simp_all; done)
    | (have e : j = pos + 1 ∨ j = pos + 2 := by omega
       refine e.elim (key 1 ?_) (key 2 ?_) <;> (simp_all; done))
    | (have e : j = pos + 1 ∨ j = pos + 2 ∨ j = pos + 3 := by omega
       refine e.elim (key 1 ?_) (fun e => e.elim (key 2 ?_) (key 3 ?_)) <;> (simp_all; done))
theorem get_data (s : ByteArray) {j : Nat} (h : j < s.size) : s.data.toList[j]? = some (s.get! j) := by
  rw [Lib.data_getElem? s j h]
  have := get_at s j h
  rw [Nat.add_zero] at this
  rw [this]
theorem noAny_rune {s chars : ByteArray} {i : Nat} (h : Lib.NoAny s.data.toList chars.data.toList i) (hc : ∀ b ∈ chars.data.toList, b.toNat < 128) (hi : i < s.size) (hx : 128 ≤ (s.get! i).toNat) : Lib.NoAny s.data.toList chars.data.toList (i + (Utf8.decode s i).2) := by
  intro j b hj hb
  by_cases h1 : j < i
  · exact h j b h1 hb
  · have hb128 : 128 ≤ b.toNat := by
      by_cases h2 : j = i
      · subst h2
        rw [get_data s hi] at hb
        rw [← Option.some.inj hb]; exact hx
      · obtain ⟨h3, h4⟩ := decode_cont s i hi j (by omega) hj
        rw [get_data s h3] at hb
        rw [← Option.some.inj hb]; exact h4
    cases hcon : chars.data.toList.contains b with
    | false => rfl
    | true =>
      have := hc b (by simpa using hcon)
      omega
set_option maxHeartbeats 8000000 in
set_option maxRecDepth 1000000 in
theorem indexAny_short (L : Lays.n153 P ρ) (s chars : ByteArray) (w : World) (h2 : 2 ≤ chars.size) (hcsz : chars.size < 4294967281) (h8 : s.size ≤ 8) (hc : ∀ b ∈ chars.data.toList, b.toNat < 128) :
    Calls P (ρ.f 153) #[.string s, .string chars] w fun e w' => e = .returned (.int .i64 (Lib.indexAny s.data.toList chars.data.toList)) ∧ Below w.heap.size w w' := by
  have HC : Aside (∀ b ∈ chars.data.toList, b.toNat < 128) := hc
  clear hc
  have hemp : chars.toList.isEmpty = false := by
    rw [Lib.toList_data]
    cases h : chars.data.toList with
    | nil => have := Lib.size_eq chars; rw [h, List.length_nil] at this; omega
    | cons _ _ => rfl
  have hn1 : ((chars.size : Int) == 1) = false := beq_eq_false_iff_ne.2 (by omega)
  have h8z : decide ((8 : Int) < (s.size : Int)) = false := decide_eq_false (by omega)
  have t3 := L.t3; have a3 := L.a3; have z3 := L.z3; have v3 := L.v3
  have t4 := L.t4; have a4 := L.a4; have z4 := L.z4; have v4 := L.v4
  have t5 := L.t5; have a5 := L.a5; have z5 := L.z5; have v5 := L.v5
  have t9 := L.t9; have a9 := L.a9; have z9 := L.z9; have v9 := L.v9
  have t21 := L.t21; have a21 := L.a21; have z21 := L.z21; have v21 := L.v21
  have e152 : ∀ args w, (callFunc (ρ.f 152) args).run P w = .ok (.enter (ρ.f 152) args) w := enters_of L.f152 (by kernel_rfl) rfl
  have e226 : ∀ args w, (callFunc (ρ.f 226) args).run P w = .ok (.enter (ρ.f 226) args) w := enters_of L.f226 (by kernel_rfl) rfl
  go_enter L.f153, Body.n153_ntmps ρ
  go_wp2_with (go_at_fn (ρ.f 226); refine (Any.strings_shouldUseASCIISet { L with } _ _).mono ?_; rintro e w' ⟨rfl, hw⟩; rw [hw, h8z])
  go_loopg [9, 10] s.size (fun g _ _ wx => ∃ i : Nat, i ≤ s.size ∧ i + g = s.size ∧ wx.heap[w.heap.size]? = some (.stringIter s i) ∧ Below w.heap.size w wx ∧ Lib.NoAny s.data.toList chars.data.toList i)
  case atStart => exact ⟨0, by omega, by omega, World.iter_heap w s 0, below_iter w s 0, Lib.NoAny.zero _ _⟩
  case round =>
    obtain ⟨i, hil, hig, hit, hbel, hno⟩ := hrel
    have HN : Aside (Lib.NoAny s.data.toList chars.data.toList i) := hno
    have HB : Aside (Below w.heap.size w wr) := hbel
    clear hno hbel
    by_cases hi : i < s.size
    · by_cases ha : (s[i]'hi).toNat < 128
      · obtain ⟨x, hx⟩ : ∃ x : UInt8, s[i]'hi = x := ⟨_, rfl⟩
        have hxl : s.data.toList[i]? = some x := by rw [← hx]; exact Lib.data_getElem? s i hi
        have hnx := fun ty => run_next_ascii_at (P := P) wr w.heap.size s i ty hit hi ha
        rw [hx] at hnx ha
        have Hx : Aside (s.data.toList[i]? = some x) := hxl
        clear hxl hx
        have HB2 : Aside (Below w.heap.size w (wr.iterAt w.heap.size s (i + 1))) := below_iterAt HB.out (Nat.le_refl _) s (i + 1)
        have HI2 : Aside ((wr.iterAt w.heap.size s (i + 1)).heap[w.heap.size]? = some (.stringIter s (i + 1))) := iterAt_heap wr w.heap.size s i (i + 1) hit
        have hcon := Lib.contains_iff_indexByte chars.data.toList x
        have hback : ((x.toNat : Int)).toNat.toUInt8 = x := by simp
        clear hit
        cases hin : chars.data.toList.contains x
        · rw [hin] at hcon
          have hlt : ¬ ((0 : Int) ≤ Lib.indexByte chars.data.toList x) := of_decide_eq_false hcon.symm
          clear hcon
          go_wp2_with (go_at_fn (ρ.f 152); refine (Any.strings_IndexRune_ascii { L with } _ _ _ (by omega) (by omega)).mono ?_; rintro e w' ⟨rfl, hw⟩; rw [hw, hback])
          go_roundg (s.size - (i + 1))
          case measure => omega
          case rel => exact ⟨i + 1, by omega, by omega, HI2.out, HB2.out, HN.out.succ Hx.out hin⟩
        · rw [hin] at hcon
          have hge : (0 : Int) ≤ Lib.indexByte chars.data.toList x := of_decide_eq_true hcon.symm
          clear hcon
          go_wp2_with (go_at_fn (ρ.f 152); refine (Any.strings_IndexRune_ascii { L with } _ _ _ (by omega) (by omega)).mono ?_; rintro e w' ⟨rfl, hw⟩; rw [hw, hback])
          go_ret
          exact ⟨by rw [Lib.indexAny_hit HN.out Hx.out hin]; rfl, HB2.out⟩
      · have hnx := fun ty => run_next_any_at (P := P) wr w.heap.size s i ty hit hi
        obtain ⟨d1, d2⟩ := decode_high s i hi (by omega)
        have d3 := decode_le s i
        have hxx : 128 ≤ (s.get! i).toNat := by
          have := get_at s i hi
          rw [Nat.add_zero] at this
          rw [this]; omega
        have HN2 : Aside (Lib.NoAny s.data.toList chars.data.toList (i + (Utf8.decode s i).2)) := noAny_rune HN.out HC.out hi hxx
        have d4 : i + (Utf8.decode s i).2 ≤ s.size := by
          by_cases h1 : (Utf8.decode s i).2 = 1
          · omega
          · have := (decode_cont s i hi (i + (Utf8.decode s i).2 - 1) (by omega) (by omega)).1
            omega
        have HB2 : Aside (Below w.heap.size w (wr.iterAt w.heap.size s (i + (Utf8.decode s i).2))) := below_iterAt HB.out (Nat.le_refl _) s _
        have HI2 : Aside ((wr.iterAt w.heap.size s (i + (Utf8.decode s i).2)).heap[w.heap.size]? = some (.stringIter s (i + (Utf8.decode s i).2))) := iterAt_heap wr w.heap.size s i _ hit
        have hlt0 : w.heap.size < (wr.iterAt w.heap.size s (i + (Utf8.decode s i).2)).heap.size := by rw [iterAt_size]; exact (Array.getElem?_eq_some_iff.1 hit).1
        clear hit
        generalize (Utf8.decode s i).1 = r at *
        generalize (Utf8.decode s i).2 = wd at *
        generalize hWi : wr.iterAt w.heap.size s (i + wd) = W1 at *
        have hr128 : ¬ r < 128 := by omega
        have hm1 : ¬ ((0 : Int) ≤ -1) := by omega
        go_wp2_with (go_at_fn (ρ.f 152); refine (indexRune_any { L with } chars r _ HC.out hcsz d3).mono ?_; rintro e w' ⟨rfl, hw⟩; rw [if_neg hr128]; have HW : Aside (Below W1.heap.size W1 w') := hw; clear hw)
        go_roundg (s.size - (i + wd))
        case measure => omega
        case rel => exact ⟨i + wd, by omega, by omega, by rw [HW.out.block _ hlt0]; exact HI2.out, HB2.out.trans (HW.out.mono (by omega)), HN2.out⟩
    · obtain rfl : i = s.size := by omega
      have hnx := fun ty => run_next_end_at (P := P) wr w.heap.size s s.size ty hit hi
      go_wp2
      go_ret
      exact ⟨by rw [Lib.indexAny_none (by rw [← Lib.size_eq]; exact HN.out)]; rfl, HB.out⟩
end Go.Proofs.YthjdhfoeckfmbaaGreat

namespace Go.Proofs.YthjdhfoeckfmbaaGreat
open Go
set_option maxRecDepth 100000
set_option linter.unusedVariables false
set_option linter.unusedSimpArgs false
set_option linter.unusedSectionVars false
def laysC : Go.Shelf.Ren := ⟨fun | 153 => 141 | 152 => 143 | 226 => 144 | 227 => 145 | 228 => 146 | 137 => 147 | 119 => 148 | 224 => 149 | 225 => 150 | 217 => 151 | 266 => 152 | n => n, fun | 0 => 0 | 3 => 3 | 4 => 4 | 5 => 5 | 9 => 9 | 21 => 21 | 46 => 127 | 116 => 182 | 117 => 183 | 124 => 189 | n => n, fun | n => n⟩
theorem laysC153 : Go.Proofs.Lays.n153 Tryz.prog laysC := {
  mixed := by kernel_rfl
  f119 := Tryz.func148.trans (congrArg some (by kernel_rfl))
  f137 := Tryz.func147.trans (congrArg some (by kernel_rfl))
  f152 := Tryz.func143.trans (congrArg some (by kernel_rfl))
  f153 := Tryz.func141.trans (congrArg some (by kernel_rfl))
  f217 := Tryz.func151.trans (congrArg some (by kernel_rfl))
  f224 := Tryz.func149.trans (congrArg some (by kernel_rfl))
  f225 := Tryz.func150.trans (congrArg some (by kernel_rfl))
  f226 := Tryz.func144.trans (congrArg some (by kernel_rfl))
  f227 := Tryz.func145.trans (congrArg some (by kernel_rfl))
  f228 := Tryz.func146.trans (congrArg some (by kernel_rfl))
  f266 := Tryz.func152.trans (congrArg some (by kernel_rfl))
  t0 := Tryz.underlying0
  a0 := Tryz.isAgg0
  z0 := Tryz.sizeOf0
  v0 := Tryz.zeroValue0
  t3 := Tryz.underlying3
  a3 := Tryz.isAgg3
  z3 := Tryz.sizeOf3
  v3 := Tryz.zeroValue3
  t4 := Tryz.underlying4
  a4 := Tryz.isAgg4
  z4 := Tryz.sizeOf4
  v4 := Tryz.zeroValue4
  t5 := Tryz.underlying5
  a5 := Tryz.isAgg5
  z5 := Tryz.sizeOf5
  v5 := Tryz.zeroValue5
  t9 := Tryz.underlying9
  a9 := Tryz.isAgg9
  z9 := Tryz.sizeOf9
  v9 := Tryz.zeroValue9
  t21 := Tryz.underlying21
  a21 := Tryz.isAgg21
  z21 := Tryz.sizeOf21
  v21 := Tryz.zeroValue21
  t46 := Tryz.underlying127
  a46 := Tryz.isAgg127
  z46 := Tryz.sizeOf127
  v46 := Tryz.zeroValue127
  t116 := Tryz.underlying182
  a116 := Tryz.isAgg182
  z116 := Tryz.sizeOf182
  t117 := Tryz.underlying183
  a117 := Tryz.isAgg183
  z117 := Tryz.sizeOf183
  v117 := Tryz.zeroValue183
  t124 := Tryz.underlying189
  a124 := Tryz.isAgg189
  z124 := Tryz.sizeOf189
  v124 := Tryz.zeroValue189 }
theorem laysC116 : (Tryz.prog.info? (laysC.t 116)).map (fun i => (i.zero, i.size)) = some (some (.agg (Array.replicate 256 (.bool false))), 256) := by kernel_rfl
theorem strings_IndexAny (s chars : ByteArray) (w : World) (h2 : 2 ≤ chars.size) (hcs : chars.size < 4294967281) (hs : s.size < 4294967281) (hac : ∀ (j : Nat) b, chars.data.toList[j]? = some b → b.toNat < 128) :
    Calls Tryz.prog 141 #[.string s, .string chars] w (Ret fun v w' => v = .int .i64 (Lib.indexAny s.data.toList chars.data.toList) ∧ Ext w w') := by
  by_cases h8 : 8 < s.size
  · refine (Any.strings_IndexAny_long laysC153 (zero_of_info laysC116).1 (zero_of_info laysC116).2 s chars w h2 h8 hs hcs hac).mono ?_
    rintro e w' ⟨rfl, hw⟩
    refine ⟨_, rfl, rfl, Ext.below ?_ (fun h => h.elim)⟩
    rw [hw]
    exact ((RowKit.Below.refl _ _).alloc (Nat.le_refl _) _).alloc (by simp) _
  · refine (indexAny_short laysC153 s chars w h2 hcs (by omega) (fun b hb => ?_)).mono ?_
    · obtain ⟨j, hj, rfl⟩ := List.getElem_of_mem hb
      exact hac j _ (List.getElem?_eq_getElem hj)
    · rintro e w' ⟨rfl, hw⟩
      exact ⟨_, rfl, rfl, Ext.below hw (fun h => h.elim)⟩
theorem cF141 : callable Tryz.prog 141 = true := by kernel_rfl
set_option maxHeartbeats 1000000 in
theorem strings_ContainsAny (s : ByteArray) (chars : ByteArray) (w : World) (h2 : 2 ≤ chars.size) (hcs : chars.size < 4294967281) (hs : s.size < 4294967281) (hac : ∀ (j : Nat) b, chars.data.toList[j]? = some b → b.toNat < 128) :
    Calls Tryz.prog 132 #[(.string s), (.string chars)] w (Ret fun v w' => v = (.bool (Lib.containsAny s.data.toList chars.data.toList)) ∧ Ext w w') := by
 refine calls_W Tryz.func132 rfl Tryz.ntmps132 rfl ?_
 have H0 := Ctx.start w nob
 refine W_seq (W_reg ?_)
 refine O_as (v := (.bool false)) rfl rfl ?_
 refine O_nil (Then_n (W_seq (W_reg ?_)))
 refine O_mv (v := (.string s)) rfl rfl (O_mv (v := (.string chars)) rfl rfl ?_)
 refine O_v rfl (R_callL (vs := [(.string s), (.string chars)]) cF141 rfl rfl ((strings_IndexAny s chars w h2 hcs hs hac).ret ?_))
 rintro _ w1 ⟨rfl, hx2⟩
 have H3 := H0.ext hx2
 refine O_v rfl (R_cmp (a := Lib.indexAny s.data.toList chars.data.toList) (b := 0) (r := (decide (0 ≤ Lib.indexAny s.data.toList chars.data.toList))) rfl rfl rfl ?_)
 refine O_as (v := (.bool (decide (0 ≤ Lib.indexAny s.data.toList chars.data.toList)))) rfl rfl ?_
 refine O_nil (Then_n (W_ret ?_))
 refine ret_1 (v := (.bool (decide (0 ≤ Lib.indexAny s.data.toList chars.data.toList)))) Tryz.results132 rfl ?_
 exact ⟨rfl, H3.gr⟩
theorem cF132 : callable Tryz.prog 132 = true := by kernel_rfl
set_option maxHeartbeats 1000000 in
theorem stamp_Name (s : ByteArray) (w : World) :
    Calls Tryz.prog 108 #[(.string s)] w (Ret fun v w' => v = (.bool (nameOk s)) ∧ Ext w w') := by
 refine calls_W Tryz.func108 rfl Tryz.ntmps108 rfl ?_
 have H0 := Ctx.start w nob
 refine W_seq (W_reg ?_)
 refine O_as (v := (.bool false)) rfl rfl ?_
 refine O_nil (Then_n (W_seq ?_))
 refine W_rg [(0, .q 0), (1, .q 0), (2, .q 0), (3, .q 0), (4, .q 0), (5, .q 0), (6, .q 0), (7, .q 0), (8, .q 0), (9, .q 0), (10, .q 0), (11, .q 0), (12, .q 0), (13, .q 0), (14, .q 0), (15, .q 0), (16, .q 0), (17, .q 0), (18, .q 0), (19, .q 0), (20, .q 0), (21, .q 0)] (by kernel_rfl) ?_
 refine Lx_mv (v := (.string s)) rfl rfl rfl (Lx_q rfl rfl _ (fun v3 hv4 => R_len_string Tryz.underlying9 rfl qk) (Lx_q rfl rfl _ (fun v5 hv6 => R_cmp (a := (s.size : Int)) (b := 1) (r := (decide (1 ≤ (s.size : Int)))) rfl rfl rfl qk) (Lx_mv (v := (.bool (decide (1 ≤ (s.size : Int))))) rfl rfl rfl ?_)))
 refine Lx_qt rfl rfl rfl rfl rfl _ (fun hA v9 hv10 => R_move (v := (.string s)) rfl qk) (Lx_qt rfl rfl rfl rfl rfl _ (fun hA v11 hv12 => R_len_string Tryz.underlying9 (gv_t hA) qk) (Lx_qt rfl rfl rfl rfl rfl _ (fun hA v13 hv14 => R_cmp (a := (s.size : Int)) (b := 60) (r := (decide ((s.size : Int) ≤ 60))) (gv_t hA) rfl rfl qk) (Lx_q rfl rfl _ (fun v15 hv16 => R_pick rfl pk_and qk) ?_)))
 refine Lx_mv (v := (.bool ((decide (1 ≤ (s.size : Int))) && (decide ((s.size : Int) ≤ 60))))) rfl rfl rfl (Lx_qt rfl rfl rfl rfl rfl _ (fun hA v19 hv20 => R_move (v := (.string s)) rfl qk) (Lx_qt rfl rfl rfl rfl rfl _ (fun hA v21 hv22 => R_cmpS (a := s) (b := (⟨#[46]⟩ : ByteArray)) (r := (!(decide (s = (⟨#[46]⟩ : ByteArray))))) (gv_t hA) rfl rfl qk) (Lx_q rfl rfl _ (fun v23 hv24 => R_pick rfl pk_and qk) ?_)))
 refine Lx_mv (v := (.bool (((decide (1 ≤ (s.size : Int))) && (decide ((s.size : Int) ≤ 60))) && (!(decide (s = (⟨#[46]⟩ : ByteArray))))))) rfl rfl rfl (Lx_qt rfl rfl rfl rfl rfl _ (fun hA v27 hv28 => R_move (v := (.string s)) rfl qk) (Lx_qt rfl rfl rfl rfl rfl _ (fun hA v29 hv30 => R_cmpS (a := s) (b := (⟨#[46, 46]⟩ : ByteArray)) (r := (!(decide (s = (⟨#[46, 46]⟩ : ByteArray))))) (gv_t hA) rfl rfl qk) (Lx_q rfl rfl _ (fun v31 hv32 => R_pick rfl pk_and qk) ?_)))
 refine Lx_mv (v := (.bool ((((decide (1 ≤ (s.size : Int))) && (decide ((s.size : Int) ≤ 60))) && (!(decide (s = (⟨#[46]⟩ : ByteArray))))) && (!(decide (s = (⟨#[46, 46]⟩ : ByteArray))))))) rfl rfl rfl (Lx_qt rfl rfl rfl rfl rfl _ (fun hA v35 hv36 => R_move (v := (.string s)) rfl qk) ?_)
 refine Lx_qt rfl rfl rfl rfl rfl (.bool (Lib.containsAny s.data.toList (⟨#[0, 47, 10]⟩ : ByteArray).data.toList)) (fun hA v37 hv38 => by
      have hP : ((((1 ≤ (s.size : Int)) ∧ ((s.size : Int) ≤ 60)) ∧ ¬ (s = (⟨#[46]⟩ : ByteArray))) ∧ ¬ (s = (⟨#[46, 46]⟩ : ByteArray))) := (And.imp (fun h => (And.imp (fun h => (And.imp (fun h => (of_decide_eq_true h)) (fun h => (of_decide_eq_true h)) (andT h))) (fun h => (of_decide_eq_false (notT h))) (andT h))) (fun h => (of_decide_eq_false (notT h))) (andT hA))
      exact R_callL (vs := [(.string s), (.string (⟨#[0, 47, 10]⟩ : ByteArray))]) cF132 rfl (lst2 (gv_t hA) rfl) (strings_ContainsAny s (⟨#[0, 47, 10]⟩ : ByteArray) v37 (by decide) (by decide) (by omega) bad_ascii)) ?_
 refine Lx_qt rfl rfl rfl rfl rfl _ (fun hA v39 hv40 => R_not (gv_t hA) qk) (Lx_q rfl rfl _ (fun v41 hv42 => R_pick rfl pk_and qk) (Lx_q rfl rfl _ (fun v43 hv44 => R_assign (v := (.bool (((((decide (1 ≤ (s.size : Int))) && (decide ((s.size : Int) ≤ 60))) && (!(decide (s = (⟨#[46]⟩ : ByteArray))))) && (!(decide (s = (⟨#[46, 46]⟩ : ByteArray))))) && (!(Lib.containsAny s.data.toList (⟨#[0, 47, 10]⟩ : ByteArray).data.toList))))) rfl qk) ?_))
 refine Lx_nil (fun w45 hw46 => ?_)
 have H47 := H0.ext hw46
 refine Then_n (W_ret ?_)
 refine ret_1 (v := (.bool (((((decide (1 ≤ (s.size : Int))) && (decide ((s.size : Int) ≤ 60))) && (!(decide (s = (⟨#[46]⟩ : ByteArray))))) && (!(decide (s = (⟨#[46, 46]⟩ : ByteArray))))) && (!(Lib.containsAny s.data.toList (⟨#[0, 47, 10]⟩ : ByteArray).data.toList))))) Tryz.results108 rfl ?_
 exact ⟨nameOk_any, H47.gr⟩
end Go.Proofs.YthjdhfoeckfmbaaGreat
namespace Go.Proofs.YthjdhfoeckfmbaaGreat
open Go
set_option maxRecDepth 100000
set_option linter.unusedVariables false
set_option linter.unusedSimpArgs false
set_option linter.unusedSectionVars false
variable [DD]
set_option maxHeartbeats 1000000 in
theorem stamp_fixed (s : Stamp) (w : World) :
    Calls Tryz.prog 140 #[(aggOf (stampCh s))] w (Ret fun v w' => v = (.bool (fixedSt s)) ∧ Ext w w') := by
 refine calls_W Tryz.func140 rfl Tryz.ntmps140 rfl ?_
 have H0 := Ctx.start w nob
 refine W_seq (W_reg ?_)
 refine O_v rfl (C_box H0 [[(.int .i64 s.T)], [(.int .i64 s.R)]] rfl ?_)
 intro b1 w2 hb3 hx4 H5
 refine O_as (v := (.bool false)) rfl rfl ?_
 refine O_nil (Then_n (W_seq ?_))
 refine W_rg [(0, .q 0), (1, .q 0), (2, .q 0), (3, .q 0), (4, .q 0), (5, .q 0), (6, .q 0), (7, .q 0), (8, .q 0), (9, .q 0), (10, .q 0), (11, .q 0), (12, .q 0), (13, .q 0)] (by kernel_rfl) ?_
 refine Lx_q rfl rfl _ (fun v6 hv7 => R_fieldAddr (off := 0) (oo := 0) Tryz.underlying69 rfl rfl Tryz.sizeOf2 rfl rfl qk) (Lx_q rfl rfl _ (fun v8 hv9 => R_load1 (v := (.int .i64 s.T)) Tryz.isAgg2 rfl ((H5.ext hv9).bx 0 rfl 0 1 0 0 _ rfl rfl rfl) qk) (Lx_q rfl rfl _ (fun v10 hv11 => R_cmp (a := s.T) (b := 0) (r := (decide (s.T = 0))) rfl rfl rfl qk) (Lx_mv (v := (.bool (decide (s.T = 0)))) rfl rfl rfl ?_)))
 refine Lx_qt rfl rfl rfl rfl rfl _ (fun hA v14 hv15 => R_fieldAddr (off := 1) (oo := 1) Tryz.underlying69 rfl rfl Tryz.sizeOf3 rfl rfl qk) (Lx_qt rfl rfl rfl rfl rfl _ (fun hA v16 hv17 => R_load1 (v := (.int .i64 s.R)) Tryz.isAgg3 (gv_t hA) ((H5.ext hv17).bx 0 rfl 1 1 1 1 _ rfl rfl rfl) qk) (Lx_qt rfl rfl rfl rfl rfl _ (fun hA v18 hv19 => R_cmp (a := s.R) (b := 0) (r := (decide (s.R = 0))) (gv_t hA) rfl rfl qk) (Lx_qt rfl rfl rfl rfl rfl _ (fun hA v20 hv21 => R_move (v := (.bool (decide (s.R = 0)))) (gv_t hA) qk) ?_)))
 refine Lx_gf (decide (s.T = 0)) (decide (s.R = 0)) rfl rfl rfl rfl rfl _ (fun hA v22 hv23 => R_fieldAddr (off := 1) (oo := 1) Tryz.underlying69 rfl rfl Tryz.sizeOf3 rfl rfl qk) (Lx_gf (decide (s.T = 0)) (decide (s.R = 0)) rfl rfl rfl rfl rfl _ (fun hA v24 hv25 => R_load1 (v := (.int .i64 s.R)) Tryz.isAgg3 (gv_t hA) ((H5.ext hv25).bx 0 rfl 1 1 1 1 _ rfl rfl rfl) qk) (Lx_gf (decide (s.T = 0)) (decide (s.R = 0)) rfl rfl rfl rfl rfl _ (fun hA v26 hv27 => R_cmp (a := s.R) (b := 1) (r := (decide (s.R = 1))) (gv_t hA) rfl rfl qk) (Lx_qt rfl rfl rfl rfl rfl _ (fun hA v28 hv29 => R_pick (gv_t hA) (pk_orA hA) qk) ?_)))
 refine Lx_q rfl rfl _ (fun v30 hv31 => R_pick rfl pk_and qk) (Lx_q rfl rfl _ (fun v32 hv33 => R_assign (v := (.bool ((decide (s.T = 0)) && ((decide (s.R = 0)) || (decide (s.R = 1)))))) rfl qk) ?_)
 refine Lx_nil (fun w34 hw35 => ?_)
 have H36 := H5.ext hw35
 refine Then_n (W_ret ?_)
 refine ret_1 (v := (.bool ((decide (s.T = 0)) && ((decide (s.R = 0)) || (decide (s.R = 1)))))) Tryz.results140 rfl ?_
 exact ⟨(boolE (by simp only [Bool.and_eq_true, Bool.or_eq_true, decide_eq_true_eq])), H36.gr⟩
end Go.Proofs.YthjdhfoeckfmbaaGreat
namespace Go.Proofs.YthjdhfoeckfmbaaGreat
open Go
set_option maxRecDepth 100000
set_option linter.unusedVariables false
set_option linter.unusedSimpArgs false
set_option linter.unusedSectionVars false
theorem cF108 : callable Tryz.prog 108 = true := by kernel_rfl
theorem cF140 : callable Tryz.prog 140 = true := by kernel_rfl
set_option maxHeartbeats 1000000 in
theorem stamp_move (o : OpS) (w : World) (So_over : Sl (Old w) stampCh 2 o.oh o.over w) :
    Calls Tryz.prog 128 #[(aggOf (opCh o))] w (Ret fun v w' => v = (.bool (moveOk o)) ∧ Ext w w') := by
 refine calls_W Tryz.func128 rfl Tryz.ntmps128 rfl ?_
 have H0 := Ctx.start w nob
 have H1 := H0.addSl _ So_over (fun b hb => ⟨hb, fun _ ho => (nomatch ho)⟩)
 have LSo_over := So_over.len
 refine W_seq (W_reg ?_)
 refine O_v rfl (C_box H1 [[(.int .i64 o.kind)], [(.int .i64 o.tm.T)], [(.int .i64 o.tm.R)], [(.int .i64 o.node.T)], [(.int .i64 o.node.R)], [(.int .i64 o.par.T)], [(.int .i64 o.par.R)], [(.string o.name)], (idCells o.data), [(slV o.oh o.over)]] rfl ?_)
 intro b2 w3 hb4 hx5 H6
 refine O_as (v := (.bool false)) rfl rfl ?_
 refine O_nil (Then_n (W_seq ?_))
 refine W_rg [(0, .q 0), (1, .q 0), (2, .q 0), (3, .q 0), (4, .q 0), (5, .q 0), (6, .q 0), (7, .q 0), (8, .q 0), (9, .q 0), (10, .q 0), (11, .q 0), (12, .q 0), (13, .q 0), (14, .q 0), (15, .q 0), (16, .q 0), (17, .q 0), (18, .q 0), (19, .q 0), (20, .q 0), (21, .q 0), (22, .q 0), (23, .q 0), (24, .q 0), (25, .q 0), (26, .q 0), (27, .q 0), (28, .q 0), (29, .q 0), (30, .q 0), (31, .q 0), (32, .q 0), (33, .q 0)] (by kernel_rfl) ?_
 refine Lx_q rfl rfl _ (fun v7 hv8 => R_fieldAddr (off := 3) (oo := 3) Tryz.underlying72 rfl rfl Tryz.sizeOf69 rfl rfl qk) (Lx_q rfl rfl _ (fun v9 hv10 => R_loadA (cs := [[(.int .i64 o.node.T)], [(.int .i64 o.node.R)]]) Tryz.isAgg69 Tryz.sizeOf69 rfl rfl ((H6.ext hv10).bx 0 rfl 3 2 3 3 _ rfl rfl rfl) qk) (Lx_q rfl rfl _ (fun v11 hv12 => R_fieldAddr (off := 1) (oo := 1) Tryz.underlying72 rfl rfl Tryz.sizeOf69 rfl rfl qk) (Lx_q rfl rfl _ (fun v13 hv14 => R_loadA (cs := [[(.int .i64 o.tm.T)], [(.int .i64 o.tm.R)]]) Tryz.isAgg69 Tryz.sizeOf69 rfl rfl ((H6.ext hv14).bx 0 rfl 1 2 1 1 _ rfl rfl rfl) qk) ?_)))
 refine Lx_q rfl rfl (.int .i64 (cmpSt o.node o.tm)) (fun v15 hv16 => R_callL (vs := [(aggOf (stampCh o.node)), (aggOf (stampCh o.tm))]) cF84 rfl rfl (stamp_Cmp o.node o.tm v15 )) (Lx_q rfl rfl _ (fun v17 hv18 => R_cmp (a := cmpSt o.node o.tm) (b := 0) (r := (decide (cmpSt o.node o.tm ≤ 0))) rfl rfl rfl qk) (Lx_mv (v := (.bool (decide (cmpSt o.node o.tm ≤ 0)))) rfl rfl rfl (Lx_qt rfl rfl rfl rfl rfl _ (fun hA v21 hv22 => R_fieldAddr (off := 5) (oo := 5) Tryz.underlying72 rfl rfl Tryz.sizeOf69 rfl rfl qk) ?_)))
 refine Lx_qt rfl rfl rfl rfl rfl _ (fun hA v23 hv24 => R_loadA (cs := [[(.int .i64 o.par.T)], [(.int .i64 o.par.R)]]) Tryz.isAgg69 Tryz.sizeOf69 rfl (gv_t hA) ((H6.ext hv24).bx 0 rfl 5 2 5 5 _ rfl rfl rfl) qk) (Lx_qt rfl rfl rfl rfl rfl (.bool (stRight o.par)) (fun hA v25 hv26 => R_callL (vs := [(aggOf (stampCh o.par))]) cF100 rfl (lst1 (gv_t hA)) (stamp_Right o.par v25 )) (Lx_qt rfl rfl rfl rfl rfl _ (fun hA v27 hv28 => R_move (v := (.bool (stRight o.par))) (gv_t hA) qk) (Lx_gf (decide (cmpSt o.node o.tm ≤ 0)) (stRight o.par) rfl rfl rfl rfl rfl _ (fun hA v29 hv30 => R_fieldAddr (off := 5) (oo := 5) Tryz.underlying72 rfl rfl Tryz.sizeOf69 rfl rfl qk) ?_)))
 refine Lx_gf (decide (cmpSt o.node o.tm ≤ 0)) (stRight o.par) rfl rfl rfl rfl rfl _ (fun hA v31 hv32 => R_loadA (cs := [[(.int .i64 o.par.T)], [(.int .i64 o.par.R)]]) Tryz.isAgg69 Tryz.sizeOf69 rfl (gv_t hA) ((H6.ext hv32).bx 0 rfl 5 2 5 5 _ rfl rfl rfl) qk) (Lx_gf (decide (cmpSt o.node o.tm ≤ 0)) (stRight o.par) rfl rfl rfl rfl rfl (.bool (fixedSt o.par)) (fun hA v33 hv34 => R_callL (vs := [(aggOf (stampCh o.par))]) cF140 rfl (lst1 (gv_t hA)) (stamp_fixed o.par v33 )) (Lx_qt rfl rfl rfl rfl rfl _ (fun hA v35 hv36 => R_pick (gv_t hA) (pk_orA hA) qk) (Lx_q rfl rfl _ (fun v37 hv38 => R_pick rfl pk_and qk) ?_)))
 refine Lx_mv (v := (.bool ((decide (cmpSt o.node o.tm ≤ 0)) && ((stRight o.par) || (fixedSt o.par))))) rfl rfl rfl (Lx_qt rfl rfl rfl rfl rfl _ (fun hA v41 hv42 => R_fieldAddr (off := 7) (oo := 7) Tryz.underlying72 rfl rfl Tryz.sizeOf9 rfl rfl qk) (Lx_qt rfl rfl rfl rfl rfl _ (fun hA v43 hv44 => R_load1 (v := (.string o.name)) Tryz.isAgg9 (gv_t hA) ((H6.ext hv44).bx 0 rfl 7 1 7 7 _ rfl rfl rfl) qk) (Lx_qt rfl rfl rfl rfl rfl (.bool (nameOk o.name)) (fun hA v45 hv46 => R_callL (vs := [(.string o.name)]) cF108 rfl (lst1 (gv_t hA)) (stamp_Name o.name v45 )) ?_)))
 refine Lx_q rfl rfl _ (fun v47 hv48 => R_pick rfl pk_and qk) (Lx_mv (v := (.bool (((decide (cmpSt o.node o.tm ≤ 0)) && ((stRight o.par) || (fixedSt o.par))) && (nameOk o.name)))) rfl rfl rfl (Lx_qt rfl rfl rfl rfl rfl _ (fun hA v51 hv52 => R_fieldAddr (off := 8) (oo := 8) Tryz.underlying72 rfl rfl Tryz.sizeOf45 rfl rfl qk) (Lx_qt rfl rfl rfl rfl rfl _ (fun hA v53 hv54 => R_loadA (cs := [(idCells o.data)]) Tryz.isAgg45 Tryz.sizeOf45 rfl (gv_t hA) ((H6.ext hv54).bx 0 rfl 8 1 8 8 _ rfl rfl rfl) qk) ?_)))
 refine Lx_qt rfl rfl rfl rfl rfl _ (fun hA v55 hv56 => R_buildL (vs := []) (v := aggOf [(idCells zeroId)]) rfl (fun _ => by kernel_rfl) qk) (Lx_qt rfl rfl rfl rfl rfl _ (fun hA v57 hv58 => R_eqv (a := o.data) (b := zeroId) eqv_ID45 rfl Tryz.eqGuardType45 (gv_t hA) (gv_t hA) qk) (Lx_q rfl rfl _ (fun v59 hv60 => R_pick rfl pk_and qk) (Lx_mv (v := (.bool ((((decide (cmpSt o.node o.tm ≤ 0)) && ((stRight o.par) || (fixedSt o.par))) && (nameOk o.name)) && (decide (o.data = zeroId))))) rfl rfl rfl ?_)))
 refine Lx_qt rfl rfl rfl rfl rfl _ (fun hA v63 hv64 => R_fieldAddr (off := 40) (oo := 40) Tryz.underlying72 rfl rfl Tryz.sizeOf70 rfl rfl qk) (Lx_qt rfl rfl rfl rfl rfl _ (fun hA v65 hv66 => R_load1 (v := (slV o.oh o.over)) Tryz.isAgg70 (gv_t hA) ((H6.ext hv66).bx 0 rfl 9 1 40 40 _ rfl rfl rfl) qk) (Lx_qt rfl rfl rfl rfl rfl _ (fun hA v67 hv68 => R_len_slice (a := o.oh.a) (n := o.over.length) (c := o.oh.c) Tryz.underlying70 (gv_t hA) qk) (Lx_qt rfl rfl rfl rfl rfl _ (fun hA v69 hv70 => R_cmp (a := (o.over.length : Int)) (b := 0) (r := (decide ((o.over.length : Int) = 0))) (gv_t hA) rfl rfl qk) ?_)))
 refine Lx_q rfl rfl _ (fun v71 hv72 => R_pick rfl pk_and qk) (Lx_q rfl rfl _ (fun v73 hv74 => R_assign (v := (.bool (((((decide (cmpSt o.node o.tm ≤ 0)) && ((stRight o.par) || (fixedSt o.par))) && (nameOk o.name)) && (decide (o.data = zeroId))) && (decide ((o.over.length : Int) = 0))))) rfl qk) ?_)
 refine Lx_nil (fun w75 hw76 => ?_)
 have H77 := H6.ext hw76
 refine Then_n (W_ret ?_)
 refine ret_1 (v := (.bool (((((decide (cmpSt o.node o.tm ≤ 0)) && ((stRight o.par) || (fixedSt o.par))) && (nameOk o.name)) && (decide (o.data = zeroId))) && (decide ((o.over.length : Int) = 0))))) Tryz.results128 rfl ?_
 exact ⟨moveOk_e, H77.gr⟩
theorem cF128 : callable Tryz.prog 128 = true := by kernel_rfl
theorem cF129 : callable Tryz.prog 129 = true := by kernel_rfl
set_option maxHeartbeats 1000000 in
theorem stamp_Good (o : OpS) (w : World) (So_over : Sl (Old w) stampCh 2 o.oh o.over w) :
    Calls Tryz.prog 97 #[(aggOf (opCh o))] w (Ret fun v w' => v = (.bool (goodOp o)) ∧ Ext w w') := by
 refine calls_W Tryz.func97 rfl Tryz.ntmps97 rfl ?_
 have H0 := Ctx.start w nob
 have H1 := H0.addSl _ So_over (fun b hb => ⟨hb, fun _ ho => (nomatch ho)⟩)
 have LSo_over := So_over.len
 refine W_seq (W_reg ?_)
 refine O_v rfl (C_box H1 [[(.int .i64 o.kind)], [(.int .i64 o.tm.T)], [(.int .i64 o.tm.R)], [(.int .i64 o.node.T)], [(.int .i64 o.node.R)], [(.int .i64 o.par.T)], [(.int .i64 o.par.R)], [(.string o.name)], (idCells o.data), [(slV o.oh o.over)]] rfl ?_)
 intro b2 w3 hb4 hx5 H6
 refine O_as (v := (.bool false)) rfl rfl ?_
 refine O_nil (Then_n (W_seq (W_seq ?_)))
 refine W_rg [(0, .q 0), (1, .q 0), (2, .q 0), (3, .q 0), (4, .q 0), (5, .q 0), (6, .q 0), (7, .q 0), (8, .q 0), (9, .q 0)] (by kernel_rfl) ?_
 refine Lx_q rfl rfl _ (fun v7 hv8 => R_fieldAddr (off := 1) (oo := 1) Tryz.underlying72 rfl rfl Tryz.sizeOf69 rfl rfl qk) (Lx_q rfl rfl _ (fun v9 hv10 => R_loadA (cs := [[(.int .i64 o.tm.T)], [(.int .i64 o.tm.R)]]) Tryz.isAgg69 Tryz.sizeOf69 rfl rfl ((H6.ext hv10).bx 0 rfl 1 2 1 1 _ rfl rfl rfl) qk) (Lx_q rfl rfl (.bool (stRight o.tm)) (fun v11 hv12 => R_callL (vs := [(aggOf (stampCh o.tm))]) cF100 rfl rfl (stamp_Right o.tm v11 )) (Lx_q rfl rfl _ (fun v13 hv14 => R_not rfl qk) ?_)))
 refine Lx_mv (v := (.bool (!(stRight o.tm)))) rfl rfl rfl (Lx_qf rfl rfl rfl rfl rfl _ (fun hA v17 hv18 => R_fieldAddr (off := 3) (oo := 3) Tryz.underlying72 rfl rfl Tryz.sizeOf69 rfl rfl qk) (Lx_qf rfl rfl rfl rfl rfl _ (fun hA v19 hv20 => R_loadA (cs := [[(.int .i64 o.node.T)], [(.int .i64 o.node.R)]]) Tryz.isAgg69 Tryz.sizeOf69 rfl (gv_t hA) ((H6.ext hv20).bx 0 rfl 3 2 3 3 _ rfl rfl rfl) qk) (Lx_qf rfl rfl rfl rfl rfl (.bool (stRight o.node)) (fun hA v21 hv22 => R_callL (vs := [(aggOf (stampCh o.node))]) cF100 rfl (lst1 (gv_t hA)) (stamp_Right o.node v21 )) ?_)))
 refine Lx_qf rfl rfl rfl rfl rfl _ (fun hA v23 hv24 => R_not (gv_t hA) qk) (Lx_q rfl rfl _ (fun v25 hv26 => R_pick rfl pk_or qk) ?_)
 refine Lx_nil (fun w27 hw28 => ?_)
 have H29 := H6.ext hw28
 refine Then_n ?_
 refine W_cond rfl (fun hc30 => ?_) (fun hc30 => ?_)
 ·have hc30 : ((stRight o.tm) = false ∨ (stRight o.node) = false) := (Or.imp (fun h => (notT h)) (fun h => (notT h)) (orT hc30))
  refine W_seq (W_reg ?_)
  refine O_as (v := (.bool false)) rfl rfl ?_
  refine O_nil (Then_n (W_ret (Then_r ?_)))
  refine ret_1 (v := (.bool false)) Tryz.results97 rfl ?_
  exact ⟨(good_f (by assumption)), H29.gr⟩
 ·have hc30 : ((stRight o.tm) = true ∧ (stRight o.node) = true) := (And.imp (fun h => (notF h)) (fun h => (notF h)) (orF hc30))
  refine W_skip (Then_n (W_seq (W_seq (W_reg ?_))))
  refine O_v rfl (R_fieldAddr (off := 0) (oo := 0) Tryz.underlying72 rfl rfl Tryz.sizeOf3 rfl rfl ?_)
  refine O_v rfl (R_load1 (v := (.int .i64 o.kind)) Tryz.isAgg3 rfl (H29.bx 0 rfl 0 1 0 0 _ rfl rfl rfl) ?_)
  refine O_nil (Then_n (W_block (W_seq (W_reg ?_))))
  refine O_v rfl (R_cmp (a := o.kind) (b := 1) (r := (decide (o.kind = 1))) rfl rfl rfl ?_)
  refine O_as (v := (.bool (decide (o.kind = 1)))) rfl rfl ?_
  refine O_nil (Then_n ?_)
  refine W_cond rfl (fun hc31 => ?_) (fun hc31 => ?_)
  ·have hc31 := (of_decide_eq_true hc31)
   refine W_seq (W_reg ?_)
   refine O_v rfl (R_loadA (cs := [[(.int .i64 o.kind)], [(.int .i64 o.tm.T)], [(.int .i64 o.tm.R)], [(.int .i64 o.node.T)], [(.int .i64 o.node.R)], [(.int .i64 o.par.T)], [(.int .i64 o.par.R)], [(.string o.name)], (idCells o.data), [(slV o.oh o.over)]]) Tryz.isAgg72 Tryz.sizeOf72 rfl rfl (H29.bx 0 rfl 0 10 0 0 _ rfl rfl rfl) ?_)
   refine O_v rfl (R_callL (vs := [(aggOf (opCh o))]) cF128 rfl rfl ((stamp_move o w27 (H29.slOld 0 rfl)).ret ?_))
   rintro _ w32 ⟨rfl, hx33⟩
   have H34 := H29.ext hx33
   refine O_as (v := (.bool (moveOk o))) rfl rfl ?_
   refine O_nil (Then_n (W_ret (Blk_r (Then_r ?_))))
   refine ret_1 (v := (.bool (moveOk o))) Tryz.results97 rfl ?_
   exact ⟨(good_m (by assumption) (by assumption)), H34.gr⟩
  ·have hc31 := (of_decide_eq_false hc31)
   refine W_seq (W_reg ?_)
   refine O_v rfl (R_cmp (a := o.kind) (b := 2) (r := (decide (o.kind = 2))) rfl rfl rfl ?_)
   refine O_as (v := (.bool (decide (o.kind = 2)))) rfl rfl ?_
   refine O_nil (Then_n ?_)
   refine W_cond rfl (fun hc35 => ?_) (fun hc35 => ?_)
   ·have hc35 := (of_decide_eq_true hc35)
    refine W_seq (W_reg ?_)
    refine O_v rfl (R_loadA (cs := [[(.int .i64 o.kind)], [(.int .i64 o.tm.T)], [(.int .i64 o.tm.R)], [(.int .i64 o.node.T)], [(.int .i64 o.node.R)], [(.int .i64 o.par.T)], [(.int .i64 o.par.R)], [(.string o.name)], (idCells o.data), [(slV o.oh o.over)]]) Tryz.isAgg72 Tryz.sizeOf72 rfl rfl (H29.bx 0 rfl 0 10 0 0 _ rfl rfl rfl) ?_)
    refine O_v rfl (R_callL (vs := [(aggOf (opCh o))]) cF129 rfl rfl ((stamp_edit o w27 (H29.slOld 0 rfl)).ret ?_))
    rintro _ w36 ⟨rfl, hx37⟩
    have H38 := H29.ext hx37
    refine O_as (v := (.bool (editOk o))) rfl rfl ?_
    refine O_nil (Then_n (W_ret (Blk_r (Then_r ?_))))
    refine ret_1 (v := (.bool (editOk o))) Tryz.results97 rfl ?_
    exact ⟨(good_e (by assumption) (by assumption)), H38.gr⟩
   ·have hc35 := (of_decide_eq_false hc35)
    refine W_skip (Blk_n (Then_n (W_seq (W_reg ?_))))
    refine O_as (v := (.bool false)) rfl rfl ?_
    refine O_nil (Then_n (W_ret ?_))
    refine ret_1 (v := (.bool false)) Tryz.results97 rfl ?_
    exact ⟨(good_n (by assumption) (by assumption)), H29.gr⟩
end Go.Proofs.YthjdhfoeckfmbaaGreat
namespace Go.Proofs.YthjdhfoeckfmbaaGreat
open Go
set_option linter.unusedVariables false
set_option linter.unusedSimpArgs false
def ownOp (t r : Int) (o : OpS) : Bool := goodOp o && decide (o.tm.T ≤ t) && decide (o.tm.R = r)
theorem own_eq {t r : Int} {o : OpS} : Value.bool ((goodOp o && decide (o.tm.T ≤ t)) && decide (o.tm.R = r)) = Value.bool (ownOp t r o) := rfl
def changeOk (c : ChangeS) : Bool :=
  decide (c.parents.length ≤ 2 ∧ c.parents.any (fun (x : ID) => decide (zeroId = x)) = false ∧ riseBy cmpId c.parents = true ∧ stRight ⟨c.time, c.r⟩ = true ∧ c.msg.size ≤ 200 ∧ ¬ c.tree = zeroId ∧ c.ops.length ≤ 64 ∧ (c.parents.length = 2 → c.ops.length = 0) ∧
    c.ops.any (fun x => !ownOp c.time c.r x) = false ∧ riseBy (fun (a b : OpS) => cmpSt a.tm b.tm) c.ops = true)
theorem change_f1 {c : ChangeS} (h : ((2 : Int) < ((c.parents.length : Nat) : Int) ∨ c.parents.any (fun (x : ID) => decide (zeroId = x)) = true) ∨ riseBy cmpId c.parents = false) : Value.bool false = Value.bool (changeOk c) := boolF fun hh => by
  obtain ⟨h1, h2, h3, _⟩ := hh
  rcases h with (h | h) | h
  · omega
  · rw [h] at h2; cases h2
  · rw [h] at h3; cases h3
theorem change_f2 {c : ChangeS} (h : (stRight ⟨c.time, c.r⟩ = false ∨ (200 : Int) < ((c.msg.size : Nat) : Int)) ∨ c.tree = zeroId) : Value.bool false = Value.bool (changeOk c) := boolF fun hh => by
  obtain ⟨_, _, _, h1, h2, h3, _⟩ := hh
  rcases h with (h | h) | h
  · rw [h] at h1; cases h1
  · omega
  · exact h3 h
theorem change_f3 {c : ChangeS} (h : (64 : Int) < ((c.ops.length : Nat) : Int) ∨ (((c.parents.length : Nat) : Int) = 2 ∧ (0 : Int) < ((c.ops.length : Nat) : Int))) : Value.bool false = Value.bool (changeOk c) := boolF fun hh => by
  obtain ⟨_, _, _, _, _, _, h1, h2, _⟩ := hh
  rcases h with h | h
  · omega
  · have := h2 (by omega); omega
theorem change_t {c : ChangeS} (h1 : (¬ (2 : Int) < ((c.parents.length : Nat) : Int) ∧ c.parents.any (fun (x : ID) => decide (zeroId = x)) = false) ∧ riseBy cmpId c.parents = true)
    (h2 : (stRight ⟨c.time, c.r⟩ = true ∧ ¬ (200 : Int) < ((c.msg.size : Nat) : Int)) ∧ ¬ c.tree = zeroId) (h3 : ¬ (64 : Int) < ((c.ops.length : Nat) : Int) ∧ (¬ ((c.parents.length : Nat) : Int) = 2 ∨ ¬ (0 : Int) < ((c.ops.length : Nat) : Int))) :
    Value.bool (!(c.ops.any fun x => !ownOp c.time c.r x) && riseBy (fun (a b : OpS) => cmpSt a.tm b.tm) c.ops) = Value.bool (changeOk c) := by
  refine boolE ?_
  rw [Bool.and_eq_true, Bool.not_eq_true']
  refine ⟨fun h => ⟨by omega, h1.1.2, h1.2, h2.1.1, by omega, h2.2, by omega, fun e => by omega, h.1, h.2⟩, fun h => ⟨h.2.2.2.2.2.2.2.2.1, h.2.2.2.2.2.2.2.2.2⟩⟩
def opPre (o : OpS) : List UInt8 := (numB o.kind ++ atB o.tm) ++ atB o.node
def opB (o : OpS) : List UInt8 := if o.kind = 1 then opPre o ++ (atB o.par ++ textB o.name) else opPre o ++ ((idList o.data ++ numB ((o.over.length : Nat) : Int)) ++ (o.over.map atB).flatten)
def putOpB (o : OpS) : List UInt8 := if goodOp o = true then opB o else []
def overTo (b : List UInt8) (o : OpS) (k : Nat) : List UInt8 := (((((b ++ numB o.kind) ++ atB o.tm) ++ atB o.node) ++ idList o.data) ++ numB ((o.over.length : Nat) : Int)) ++ ((o.over.take k).map atB).flatten
theorem overTo_zero (b : List UInt8) (o : OpS) : ((((b ++ numB o.kind) ++ atB o.tm) ++ atB o.node) ++ idList o.data) ++ numB ((o.over.length : Nat) : Int) = overTo b o 0 := by simp [overTo]
theorem take_map_succ {α : Type} [Inhabited α] (f : α → List UInt8) {l : List α} {k : Nat} (hk : k < l.length) : ((l.take (k + 1)).map f).flatten = ((l.take k).map f).flatten ++ f (nth l k) := by
  rw [List.take_succ_eq_append_getElem hk, List.map_append, List.flatten_append, nth_eq hk]
  simp
theorem overTo_succ {b acc : List UInt8} {o : OpS} {k : Nat} (h : acc = overTo b o k) (hk : k < o.over.length) : acc ++ atB (nth o.over k) = overTo b o (k + 1) := by
  rw [h, overTo, overTo, take_map_succ atB hk, List.append_assoc]
theorem goodOp_data {o : OpS} (h : goodOp o = true) : (o.kind = 1 ∧ moveOk o = true) ∨ (o.kind = 2 ∧ editOk o = true) := (of_decide_eq_true h).2.2
theorem good_lens {o : OpS} (h : goodOp o = true) : o.over.length ≤ 64 := by
  rcases goodOp_data h with ⟨_, h⟩ | ⟨_, h⟩
  · have := of_decide_eq_true h
    have := this.2.2.2.2; omega
  · have := of_decide_eq_true h
    exact this.2.2.2.2.1
theorem good_name {o : OpS} (h : goodOp o = true) (hk : o.kind = 1) : o.name.size ≤ 60 := by
  rcases goodOp_data h with ⟨_, h⟩ | ⟨h2, h⟩
  · have := of_decide_eq_true h
    exact (of_decide_eq_true this.2.2.1).2.1
  · omega
theorem putOp_no {b : List UInt8} {o : OpS} (h : goodOp o = false) : b = b ++ putOpB o := by
  rw [putOpB, if_neg (by rw [h]; decide), List.append_nil]
theorem putOp_move {b : List UInt8} {o : OpS} (h : goodOp o = true) (hk : o.kind = 1) : ((((b ++ numB o.kind) ++ atB o.tm) ++ atB o.node) ++ atB o.par) ++ textB o.name = b ++ putOpB o := by
  rw [putOpB, if_pos h, opB, if_pos hk, opPre]
  simp only [List.append_assoc]
theorem putOp_edit {b acc : List UInt8} {o : OpS} {k : Nat} (h : goodOp o = true) (hk : ¬ o.kind = 1) (ha : acc = overTo b o k) (he : o.over.length ≤ k) : acc = b ++ putOpB o := by
  rw [putOpB, if_pos h, opB, if_neg hk, opPre, ha, overTo, List.take_of_length_le he]
  simp only [List.append_assoc]
theorem flat_len {α : Type} (f : α → List UInt8) (m : Nat) (hf : ∀ x, (f x).length ≤ m) : ∀ l : List α, ((l.map f).flatten).length ≤ m * l.length
  | [] => by simp
  | x :: l => by
    have := flat_len f m hf l
    have := hf x
    simp only [List.map_cons, List.flatten_cons, List.length_append, List.length_cons, Nat.mul_succ]
    omega
theorem putOpB_len (o : OpS) : (putOpB o).length ≤ 1400 := by
  unfold putOpB
  split
  · rename_i h
    have h1 := numB_len o.kind; have h2 := atB_len o.tm; have h3 := atB_len o.node
    unfold opB opPre
    split
    · rename_i hk
      have h4 := atB_len o.par; have h5 := textB_len o.name; have h6 := good_name h hk
      simp only [List.length_append]; omega
    · have h4 := numB_len ((o.over.length : Nat) : Int); have h5 := flat_len atB 18 atB_len o.over; have h6 := good_lens h
      simp only [List.length_append, idList_len]; omega
  · exact Nat.zero_le _
def parTo (c : ChangeS) (k : Nat) : List UInt8 := ([3] ++ numB ((c.parents.length : Nat) : Int)) ++ ((c.parents.take k).map idList).flatten
def opsTo (c : ChangeS) (j : Nat) : List UInt8 := (((parTo c c.parents.length ++ numB c.time) ++ numB c.r) ++ numB ((c.ops.length : Nat) : Int)) ++ ((c.ops.take j).map putOpB).flatten
def changeB (c : ChangeS) : List UInt8 := (opsTo c c.ops.length ++ idList c.tree) ++ textB c.msg
def putChangeB (c : ChangeS) : List UInt8 := if changeOk c = true then changeB c else []
def putChangeE (c : ChangeS) : Int := if changeOk c = true then 0 else 1
theorem parTo_zero (c : ChangeS) : [3] ++ numB ((c.parents.length : Nat) : Int) = parTo c 0 := by simp [parTo]
theorem parTo_succ {acc : List UInt8} {c : ChangeS} {k : Nat} (h : acc = parTo c k) (hk : k < c.parents.length) : acc ++ idList (nth c.parents k) = parTo c (k + 1) := by
  rw [h, parTo, parTo, take_map_succ idList hk, List.append_assoc]
theorem opsTo_zero {acc : List UInt8} {c : ChangeS} {k : Nat} (h : acc = parTo c k) (hk : k = c.parents.length) : ((acc ++ numB c.time) ++ numB c.r) ++ numB ((c.ops.length : Nat) : Int) = opsTo c 0 := by
  subst hk; subst h; simp [opsTo]
theorem opsTo_succ {acc : List UInt8} {c : ChangeS} {j : Nat} (h : acc = opsTo c j) (hj : j < c.ops.length) : acc ++ putOpB (nth c.ops j) = opsTo c (j + 1) := by
  rw [h, opsTo, opsTo, take_map_succ putOpB hj, List.append_assoc]
theorem change_lens {c : ChangeS} (h : changeOk c = true) : c.parents.length ≤ 2 ∧ c.ops.length ≤ 64 ∧ c.msg.size ≤ 200 := by
  obtain ⟨h1, _, _, _, h2, _, h3, _⟩ := of_decide_eq_true h
  exact ⟨h1, h3, h2⟩
theorem putChange_f {c : ChangeS} (h : changeOk c = false) : ([] : List UInt8) = putChangeB c ∧ (1 : Int) = putChangeE c := by
  unfold putChangeB putChangeE
  rw [h]; exact ⟨rfl, rfl⟩
theorem putChange_t {c : ChangeS} {acc : List UInt8} {j : Nat} (h : changeOk c = true) (ha : acc = opsTo c j) (hj : j = c.ops.length) : (acc ++ idList c.tree) ++ textB c.msg = putChangeB c ∧ (0 : Int) = putChangeE c := by
  unfold putChangeB putChangeE
  subst hj; subst ha
  rw [h]; exact ⟨rfl, rfl⟩
end Go.Proofs.YthjdhfoeckfmbaaGreat
namespace Go.Proofs.YthjdhfoeckfmbaaGreat
open Go
set_option maxRecDepth 100000
set_option linter.unusedVariables false
set_option linter.unusedSimpArgs false
set_option linter.unusedSectionVars false
theorem cF97 : callable Tryz.prog 97 = true := by kernel_rfl
set_option maxHeartbeats 1000000 in
theorem rightChange_1 (o : OpS) (bc : Nat) (c : ChangeS) (w : World) (So_over : Sl (Old w) stampCh 2 o.oh o.over w) (Bc : (boxR bc 47 (changeCh c)).q w) :
    Calls Tryz.prog 96 #[(aggOf (opCh o)), (.pointer (some ⟨bc, 0, none⟩))] w (Ret fun v w' => v = (.bool (ownOp c.time c.r o)) ∧ Ext w w') := by
 refine calls_W Tryz.func96 rfl Tryz.ntmps96 rfl ?_
 have H0 := Ctx.start w nob
 have H1 := H0.addSl _ So_over (fun b hb => ⟨hb, fun _ ho => (nomatch ho)⟩)
 have LSo_over := So_over.len
 have H2 := H1.addImm' (boxI (Old w) bc (boxR_lt Bc) 47 [[(slV c.ph c.parents)], [(.int .i64 c.time)], [(.int .i64 c.r)], [(slV c.oh c.ops)], (idCells c.tree), [(.string c.msg)]]) Bc (fun b hb => ⟨hb, fun _ ho => (nomatch ho)⟩)
 refine W_seq (W_reg ?_)
 refine O_v rfl (C_box H2 [[(.int .i64 o.kind)], [(.int .i64 o.tm.T)], [(.int .i64 o.tm.R)], [(.int .i64 o.node.T)], [(.int .i64 o.node.R)], [(.int .i64 o.par.T)], [(.int .i64 o.par.R)], [(.string o.name)], (idCells o.data), [(slV o.oh o.over)]] rfl ?_)
 intro b3 w4 hb5 hx6 H7
 refine O_as (v := (.bool false)) rfl rfl ?_
 refine O_nil (Then_n (W_seq ?_))
 refine W_rg [(0, .q 0), (1, .q 0), (2, .q 0), (3, .q 0), (4, .q 0), (5, .q 0), (6, .q 0), (7, .q 0), (8, .q 0), (9, .q 0), (10, .q 0), (11, .q 0), (12, .q 0), (13, .q 0), (14, .q 0), (15, .q 0), (16, .q 0), (17, .q 0), (18, .q 0)] (by kernel_rfl) ?_
 refine Lx_q rfl rfl _ (fun v8 hv9 => R_loadA (cs := [[(.int .i64 o.kind)], [(.int .i64 o.tm.T)], [(.int .i64 o.tm.R)], [(.int .i64 o.node.T)], [(.int .i64 o.node.R)], [(.int .i64 o.par.T)], [(.int .i64 o.par.R)], [(.string o.name)], (idCells o.data), [(slV o.oh o.over)]]) Tryz.isAgg72 Tryz.sizeOf72 rfl rfl ((H7.ext hv9).bx 0 rfl 0 10 0 0 _ rfl rfl rfl) qk) (Lx_q rfl rfl (.bool (goodOp o)) (fun v10 hv11 => R_callL (vs := [(aggOf (opCh o))]) cF97 rfl rfl (stamp_Good o v10 ((H7.ext hv11).slOld 1 rfl))) (Lx_mv (v := (.bool (goodOp o))) rfl rfl rfl (Lx_qt rfl rfl rfl rfl rfl _ (fun hA v14 hv15 => R_fieldAddr (off := 1) (oo := 1) Tryz.underlying72 rfl rfl Tryz.sizeOf69 rfl rfl qk) ?_)))
 refine Lx_qt rfl rfl rfl rfl rfl _ (fun hA v16 hv17 => R_fieldAddr (off := 0) (oo := 1) Tryz.underlying69 rfl rfl Tryz.sizeOf2 (gv_t hA) rfl qk) (Lx_qt rfl rfl rfl rfl rfl _ (fun hA v18 hv19 => R_load1 (v := (.int .i64 o.tm.T)) Tryz.isAgg2 (gv_t hA) ((H7.ext hv19).bx 0 rfl 1 1 1 1 _ rfl rfl rfl) qk) (Lx_qt rfl rfl rfl rfl rfl _ (fun hA v20 hv21 => R_fieldAddr (off := 1) (oo := 1) Tryz.underlying47 rfl rfl Tryz.sizeOf2 rfl rfl qk) (Lx_qt rfl rfl rfl rfl rfl _ (fun hA v22 hv23 => R_load1 (v := (.int .i64 c.time)) Tryz.isAgg2 (gv_t hA) ((boxR_at ((H7.ext hv23).getImm 0 rfl)).chunks 1 1 1 1 _ rfl rfl rfl) qk) ?_)))
 refine Lx_qt rfl rfl rfl rfl rfl _ (fun hA v24 hv25 => R_cmp (a := o.tm.T) (b := c.time) (r := (decide (o.tm.T ≤ c.time))) (gv_t hA) (gv_t hA) rfl qk) (Lx_q rfl rfl _ (fun v26 hv27 => R_pick rfl pk_and qk) (Lx_mv (v := (.bool ((goodOp o) && (decide (o.tm.T ≤ c.time))))) rfl rfl rfl (Lx_qt rfl rfl rfl rfl rfl _ (fun hA v30 hv31 => R_fieldAddr (off := 1) (oo := 1) Tryz.underlying72 rfl rfl Tryz.sizeOf69 rfl rfl qk) ?_)))
 refine Lx_qt rfl rfl rfl rfl rfl _ (fun hA v32 hv33 => R_fieldAddr (off := 1) (oo := 2) Tryz.underlying69 rfl rfl Tryz.sizeOf3 (gv_t hA) rfl qk) (Lx_qt rfl rfl rfl rfl rfl _ (fun hA v34 hv35 => R_load1 (v := (.int .i64 o.tm.R)) Tryz.isAgg3 (gv_t hA) ((H7.ext hv35).bx 0 rfl 2 1 2 2 _ rfl rfl rfl) qk) (Lx_qt rfl rfl rfl rfl rfl _ (fun hA v36 hv37 => R_fieldAddr (off := 2) (oo := 2) Tryz.underlying47 rfl rfl Tryz.sizeOf3 rfl rfl qk) (Lx_qt rfl rfl rfl rfl rfl _ (fun hA v38 hv39 => R_load1 (v := (.int .i64 c.r)) Tryz.isAgg3 (gv_t hA) ((boxR_at ((H7.ext hv39).getImm 0 rfl)).chunks 2 1 2 2 _ rfl rfl rfl) qk) ?_)))
 refine Lx_qt rfl rfl rfl rfl rfl _ (fun hA v40 hv41 => R_cmp (a := o.tm.R) (b := c.r) (r := (decide (o.tm.R = c.r))) (gv_t hA) (gv_t hA) rfl qk) (Lx_q rfl rfl _ (fun v42 hv43 => R_pick rfl pk_and qk) (Lx_q rfl rfl _ (fun v44 hv45 => R_assign (v := (.bool (((goodOp o) && (decide (o.tm.T ≤ c.time))) && (decide (o.tm.R = c.r))))) rfl qk) ?_))
 refine Lx_nil (fun w46 hw47 => ?_)
 have H48 := H7.ext hw47
 refine Then_n (W_ret ?_)
 refine ret_1 (v := (.bool (((goodOp o) && (decide (o.tm.T ≤ c.time))) && (decide (o.tm.R = c.r))))) Tryz.results96 rfl ?_
 exact ⟨own_eq, H48.gr⟩
theorem cF96 : callable Tryz.prog 96 = true := by kernel_rfl
set_option maxHeartbeats 1000000 in
theorem rightChange_2 (o : OpS) (bf : Nat) (bc : Nat) (c : ChangeS) (w : World) (So_over : Sl (Old w) stampCh 2 o.oh o.over w) (Bc : (boxR bc 47 (changeCh c)).q w) (Bf : (boxR bf 99 [[.func (.func 96) #[] #[(.pointer (some ⟨bc, 0, none⟩))]]]).q w) :
    Calls Tryz.prog 102 #[(aggOf (opCh o)), (.pointer (some ⟨bf, 0, none⟩))] w (Ret fun v w' => v = (.bool (!(ownOp c.time c.r o))) ∧ Ext w w') := by
 refine calls_W Tryz.func102 rfl Tryz.ntmps102 rfl ?_
 have H0 := Ctx.start w nob
 have H1 := H0.addSl _ So_over (fun b hb => ⟨hb, fun _ ho => (nomatch ho)⟩)
 have LSo_over := So_over.len
 have H2 := H1.addImm' (boxI (Old w) bc (boxR_lt Bc) 47 [[(slV c.ph c.parents)], [(.int .i64 c.time)], [(.int .i64 c.r)], [(slV c.oh c.ops)], (idCells c.tree), [(.string c.msg)]]) Bc (fun b hb => ⟨hb, fun _ ho => (nomatch ho)⟩)
 have H3 := H2.addImm' (boxI (Old w) bf (boxR_lt Bf) 99 [[(.func (.func 96) #[] #[(.pointer (some ⟨bc, 0, none⟩))])]]) Bf (fun b hb => ⟨hb, fun _ ho => (nomatch ho)⟩)
 refine W_seq (W_reg ?_)
 refine O_v rfl (C_box H3 [[(.int .i64 o.kind)], [(.int .i64 o.tm.T)], [(.int .i64 o.tm.R)], [(.int .i64 o.node.T)], [(.int .i64 o.node.R)], [(.int .i64 o.par.T)], [(.int .i64 o.par.R)], [(.string o.name)], (idCells o.data), [(slV o.oh o.over)]] rfl ?_)
 intro b4 w5 hb6 hx7 H8
 refine O_as (v := (.bool false)) rfl rfl ?_
 refine O_nil (Then_n (W_seq (W_reg ?_)))
 refine O_v rfl (R_load1 (v := (.func (.func 96) #[] #[(.pointer (some ⟨bc, 0, none⟩))])) Tryz.isAgg99 rfl ((boxR_at (H8.getImm 0 rfl)).chunks 0 1 0 0 _ rfl rfl rfl) ?_)
 refine O_v rfl (R_loadA (cs := [[(.int .i64 o.kind)], [(.int .i64 o.tm.T)], [(.int .i64 o.tm.R)], [(.int .i64 o.node.T)], [(.int .i64 o.node.R)], [(.int .i64 o.par.T)], [(.int .i64 o.par.R)], [(.string o.name)], (idCells o.data), [(slV o.oh o.over)]]) Tryz.isAgg72 Tryz.sizeOf72 rfl rfl (H8.bx 0 rfl 0 10 0 0 _ rfl rfl rfl) ?_)
 refine O_v rfl (R_callV (vs := [(aggOf (opCh o))]) cF96 rfl rfl ((callsCat (rightChange_1 o bc c w5 (H8.slOld 2 rfl) (H8.getImm 1 rfl))).ret ?_))
 rintro _ w9 ⟨rfl, hx10⟩
 have H11 := H8.ext hx10
 refine O_v rfl (R_not rfl ?_)
 refine O_as (v := (.bool (!(ownOp c.time c.r o)))) rfl rfl ?_
 refine O_nil (Then_n (W_ret ?_))
 refine ret_1 (v := (.bool (!(ownOp c.time c.r o)))) Tryz.results102 rfl ?_
 exact ⟨rfl, H11.gr⟩
end Go.Proofs.YthjdhfoeckfmbaaGreat
namespace Go.Proofs.YthjdhfoeckfmbaaGreat
open Go
set_option maxRecDepth 100000
set_option linter.unusedVariables false
set_option linter.unusedSimpArgs false
set_option linter.unusedSectionVars false
variable [DD]
set_option maxHeartbeats 1000000 in
theorem rightChange_3 (a : OpS) (b : OpS) (w : World) (Sa_over : Sl (Old w) stampCh 2 a.oh a.over w) (Sb_over : Sl (Old w) stampCh 2 b.oh b.over w) :
    Calls Tryz.prog 104 #[(aggOf (opCh a)), (aggOf (opCh b))] w (Ret fun v w' => v = (.int .i64 (cmpSt a.tm b.tm)) ∧ Ext w w') := by
 refine calls_W Tryz.func104 rfl Tryz.ntmps104 rfl ?_
 have H0 := Ctx.start w nob
 have H1 := H0.addSl _ Sa_over (fun b hb => ⟨hb, fun _ ho => (nomatch ho)⟩)
 have LSa_over := Sa_over.len
 have H2 := H1.addSl _ Sb_over (fun b hb => ⟨hb, fun _ ho => (nomatch ho)⟩)
 have LSb_over := Sb_over.len
 refine W_seq (W_reg ?_)
 refine O_v rfl (C_box H2 [[(.int .i64 a.kind)], [(.int .i64 a.tm.T)], [(.int .i64 a.tm.R)], [(.int .i64 a.node.T)], [(.int .i64 a.node.R)], [(.int .i64 a.par.T)], [(.int .i64 a.par.R)], [(.string a.name)], (idCells a.data), [(slV a.oh a.over)]] rfl ?_)
 intro b3 w4 hb5 hx6 H7
 refine O_v rfl (C_box H7 [[(.int .i64 b.kind)], [(.int .i64 b.tm.T)], [(.int .i64 b.tm.R)], [(.int .i64 b.node.T)], [(.int .i64 b.node.R)], [(.int .i64 b.par.T)], [(.int .i64 b.par.R)], [(.string b.name)], (idCells b.data), [(slV b.oh b.over)]] rfl ?_)
 intro b8 w9 hb10 hx11 H12
 refine O_as (v := (.int .i64 0)) rfl rfl ?_
 refine O_nil (Then_n (W_seq (W_reg ?_)))
 refine O_v rfl (R_fieldAddr (off := 1) (oo := 1) Tryz.underlying72 rfl rfl Tryz.sizeOf69 rfl rfl ?_)
 refine O_v rfl (R_loadA (cs := [[(.int .i64 a.tm.T)], [(.int .i64 a.tm.R)]]) Tryz.isAgg69 Tryz.sizeOf69 rfl rfl (H12.bx 1 rfl 1 2 1 1 _ rfl rfl rfl) ?_)
 refine O_v rfl (R_fieldAddr (off := 1) (oo := 1) Tryz.underlying72 rfl rfl Tryz.sizeOf69 rfl rfl ?_)
 refine O_v rfl (R_loadA (cs := [[(.int .i64 b.tm.T)], [(.int .i64 b.tm.R)]]) Tryz.isAgg69 Tryz.sizeOf69 rfl rfl (H12.bx 0 rfl 1 2 1 1 _ rfl rfl rfl) ?_)
 refine O_v rfl (R_callL (vs := [(aggOf (stampCh a.tm)), (aggOf (stampCh b.tm))]) cF84 rfl rfl ((stamp_Cmp a.tm b.tm w9 ).ret ?_))
 rintro _ w13 ⟨rfl, hx14⟩
 have H15 := H12.ext hx14
 refine O_as (v := (.int .i64 (cmpSt a.tm b.tm))) rfl rfl ?_
 refine O_nil (Then_n (W_ret ?_))
 refine ret_1 (v := (.int .i64 (cmpSt a.tm b.tm))) Tryz.results104 rfl ?_
 exact ⟨rfl, H15.gr⟩
set_option maxHeartbeats 1000000 in
theorem rise_ID (ha : SlH) (a : List ID) (kcmp : FuncId) (ccmp : Array Value) (f : ID → ID → Int) (w : World) (Sa : Sl (Old w) idCh 32 ha a w) (Kcmp : callable Tryz.prog kcmp = true) (Ccmp : ∀ x ∈ a, ∀ y ∈ a, ∀ w1, Ext w w1 → Calls Tryz.prog kcmp (#[idV x, idV y] ++ ccmp) w1 (Ret fun v w2 => v = .int .i64 (f x y) ∧ Ext w1 w2)) :
    Calls Tryz.prog 99 #[(slV ha a), (.func (.func kcmp) #[] ccmp)] w (Ret fun v w' => v = (.bool (riseBy f a)) ∧ Ext w w') := by
 refine calls_W Tryz.func99 rfl Tryz.ntmps99 rfl ?_
 have H0 := Ctx.start w nob
 have H1 := H0.addSl _ Sa (fun b hb => ⟨hb, fun _ ho => (nomatch ho)⟩)
 have LSa := Sa.len
 refine W_seq (W_reg ?_)
 refine O_as (v := (.bool false)) rfl rfl ?_
 refine O_nil (Then_n (W_seq (W_seq (W_reg ?_))))
 refine O_as (v := (.int .i64 1)) rfl rfl ?_
 refine O_nil (Then_n (W_block ?_))
 refine W_loop (fun m2 e3 w4 => ∃ (k : Nat), m2 = a.length - k ∧ (1 ≤ k) ∧ (k ≤ max a.length 1) ∧ (∀ i, i < k → 1 ≤ i → f (nth a (i - 1)) (nth a i) < 0) ∧ ∃ eb5, e3 = envL [(0, (slV ha a)), (1, (.func (.func kcmp) #[] ccmp)), (5, (.int .i64 (k : Int)))] eb5 ∧ Ctx w nob w4 [] [slI (Old w) idCh 32 ha a]) _ ⟨1, rfl, (by omega), (by omega), (fun i h1 h2 => by omega), _, envL_self ⟨rfl, rfl, rfl, trivial⟩, H1⟩ ?_
 rintro m2 _ w4 ⟨k, rfl, h1, hk, hn, eb5, rfl, H6⟩
 refine W_seq (W_seq (W_reg ?_))
 refine O_mv (v := (.int .i64 (k : Int))) rfl rfl (O_mv (v := (slV ha a)) rfl rfl ?_)
 refine O_v rfl (R_len_slice (a := ha.a) (n := a.length) (c := ha.c) Tryz.underlying39 rfl ?_)
 refine O_v rfl (R_cmp (a := (k : Int)) (b := (a.length : Int)) (r := (decide ((k : Int) < (a.length : Int)))) rfl rfl rfl ?_)
 refine O_nil (Then_n ?_)
 refine W_cond rfl (fun hc7 => ?_) (fun hc7 => ?_)
 ·have hc7 := (of_decide_eq_true hc7)
  refine W_skip (Then_n (W_seq (W_block (W_seq ?_))))
  refine W_rgd TryzMixed [(0, .q 0), (1, .q 0), (2, .q 0), (3, .q 0), (4, .q 0), (5, .q 0), (6, .q 0), (7, .q 0), (8, .q 0), (9, .q 0), (10, .q 0), (11, .q 0)] (by kernel_rfl) ?_
  refine Lx_mv (v := (.func (.func kcmp) #[] ccmp)) rfl rfl rfl (Lx_mv (v := (slV ha a)) rfl rfl rfl (Lx_mv (v := (.int .i64 (k : Int))) rfl rfl rfl (Lx_q rfl rfl _ (fun v14 hv15 => R_arith (a := (k : Int)) (b := 1) (r0 := (k : Int) - 1) (r := ((k - 1 : Nat) : Int)) rfl rfl rfl (wrapP _ (by omega) (by omega)) qk) ?_)))
  refine Lx_q rfl rfl _ (fun v16 hv17 => R_index_pure (H6.sl 0 rfl) (n := a.length) rfl (j := ((k - 1 : Nat) : Int)) (oo := (ha.o + (k - 1) * 32)) Tryz.underlying39 Tryz.sizeOf45 rfl rfl (by omega) (by omega) rfl qk) (Lx_q rfl rfl _ (fun v18 hv19 => R_loadA (cs := [(idCells (nth a (k - 1)))]) Tryz.isAgg45 Tryz.sizeOf45 rfl rfl ((Sl.elem ((H6.ext hv19).sl 0 rfl) (i := (k - 1)) (by omega) rfl).chunks 0 1 0 (ha.o + (k - 1) * 32) _ rfl rfl rfl) qk) (Lx_mv (v := (slV ha a)) rfl rfl rfl (Lx_mv (v := (.int .i64 (k : Int))) rfl rfl rfl ?_)))
  refine Lx_q rfl rfl _ (fun v24 hv25 => R_index_pure (H6.sl 0 rfl) (n := a.length) rfl (j := (k : Int)) (oo := (ha.o + k * 32)) Tryz.underlying39 Tryz.sizeOf45 rfl rfl (by omega) (by omega) rfl qk) (Lx_q rfl rfl _ (fun v26 hv27 => R_loadA (cs := [(idCells (nth a k))]) Tryz.isAgg45 Tryz.sizeOf45 rfl rfl ((Sl.elem ((H6.ext hv27).sl 0 rfl) (i := k) (by omega) rfl).chunks 0 1 0 (ha.o + k * 32) _ rfl rfl rfl) qk) (Lx_q rfl rfl (.int .i64 (f (nth a (k - 1)) (nth a k))) (fun v28 hv29 => R_callV (vs := [(aggOf (idCh (nth a (k - 1)))), (aggOf (idCh (nth a k)))]) Kcmp rfl rfl (Ccmp _ (nth_mem (by omega)) _ (nth_mem (by omega)) v28 (H6.ext hv29).gr)) (Lx_q rfl rfl _ (fun v30 hv31 => R_cmp (a := f (nth a (k - 1)) (nth a k)) (b := 0) (r := (decide (0 ≤ f (nth a (k - 1)) (nth a k)))) rfl rfl rfl qk) ?_)))
  refine Lx_nil (fun w32 hw33 => ?_)
  have H34 := H6.ext hw33
  refine Then_n ?_
  refine W_cond rfl (fun hc35 => ?_) (fun hc35 => ?_)
  ·have hc35 := (of_decide_eq_true hc35)
   refine W_seq (W_reg ?_)
   refine O_as (v := (.bool false)) rfl rfl ?_
   refine O_nil (Then_n (W_ret (Blk_r (Then_r (Then_r (Blk_r (Then_r ?_)))))))
   refine ret_1 (v := (.bool false)) Tryz.results99 rfl ?_
   exact ⟨(boolF (fun h => by have := h k (by omega) (by omega); omega)), H34.gr⟩
  ·have hc35 := (of_decide_eq_false hc35)
   refine W_skip (Blk_n (Then_n (W_reg ?_)))
   refine O_mv (v := (.int .i64 (k : Int))) rfl rfl ?_
   refine O_v rfl (R_arith (a := (k : Int)) (b := 1) (r0 := (k : Int) + 1) (r := ((k + 1 : Nat) : Int)) rfl rfl rfl (wrapN _ (by omega)) ?_)
   refine O_as (v := (.int .i64 ((k + 1 : Nat) : Int))) rfl rfl ?_
   refine O_nil (Then_n ?_)
   refine ⟨_, ?_, (k + 1), rfl, (by omega), (by omega), (rise_succ hn (by omega)), _, envL_self ⟨rfl, rfl, rfl, trivial⟩, H34⟩
   omega
 ·have hc7 := (of_decide_eq_false hc7)
  refine W_exit (Then_x (Then_x (Blk_x (Then_n (W_seq (W_reg ?_))))))
  refine O_as (v := (.bool true)) rfl rfl ?_
  refine O_nil (Then_n (W_ret ?_))
  refine ret_1 (v := (.bool true)) Tryz.results99 rfl ?_
  exact ⟨(boolT (fun i h1 h2 => hn i (by omega) h2)), H6.gr⟩
set_option maxHeartbeats 1000000 in
theorem rise_Op (ha : SlH) (a : List OpS) (kcmp : FuncId) (ccmp : Array Value) (f : OpS → OpS → Int) (w : World) (Sa : Sl (Old w) opCh 41 ha a w) (Kcmp : callable Tryz.prog kcmp = true) (Ccmp : ∀ x ∈ a, ∀ y ∈ a, ∀ w1, Ext w w1 → Calls Tryz.prog kcmp (#[opV x, opV y] ++ ccmp) w1 (Ret fun v w2 => v = .int .i64 (f x y) ∧ Ext w1 w2)) :
    Calls Tryz.prog 103 #[(slV ha a), (.func (.func kcmp) #[] ccmp)] w (Ret fun v w' => v = (.bool (riseBy f a)) ∧ Ext w w') := by
 refine calls_W Tryz.func103 rfl Tryz.ntmps103 rfl ?_
 have H0 := Ctx.start w nob
 have H1 := H0.addSl _ Sa (fun b hb => ⟨hb, fun _ ho => (nomatch ho)⟩)
 have LSa := Sa.len
 refine W_seq (W_reg ?_)
 refine O_as (v := (.bool false)) rfl rfl ?_
 refine O_nil (Then_n (W_seq (W_seq (W_reg ?_))))
 refine O_as (v := (.int .i64 1)) rfl rfl ?_
 refine O_nil (Then_n (W_block ?_))
 refine W_loop (fun m2 e3 w4 => ∃ (k : Nat), m2 = a.length - k ∧ (1 ≤ k) ∧ (k ≤ max a.length 1) ∧ (∀ i, i < k → 1 ≤ i → f (nth a (i - 1)) (nth a i) < 0) ∧ ∃ eb5, e3 = envL [(0, (slV ha a)), (1, (.func (.func kcmp) #[] ccmp)), (5, (.int .i64 (k : Int)))] eb5 ∧ Ctx w nob w4 [] [slI (Old w) opCh 41 ha a]) _ ⟨1, rfl, (by omega), (by omega), (fun i h1 h2 => by omega), _, envL_self ⟨rfl, rfl, rfl, trivial⟩, H1⟩ ?_
 rintro m2 _ w4 ⟨k, rfl, h1, hk, hn, eb5, rfl, H6⟩
 refine W_seq (W_seq (W_reg ?_))
 refine O_mv (v := (.int .i64 (k : Int))) rfl rfl (O_mv (v := (slV ha a)) rfl rfl ?_)
 refine O_v rfl (R_len_slice (a := ha.a) (n := a.length) (c := ha.c) Tryz.underlying43 rfl ?_)
 refine O_v rfl (R_cmp (a := (k : Int)) (b := (a.length : Int)) (r := (decide ((k : Int) < (a.length : Int)))) rfl rfl rfl ?_)
 refine O_nil (Then_n ?_)
 refine W_cond rfl (fun hc7 => ?_) (fun hc7 => ?_)
 ·have hc7 := (of_decide_eq_true hc7)
  refine W_skip (Then_n (W_seq (W_block (W_seq ?_))))
  refine W_rgd TryzMixed [(0, .q 0), (1, .q 0), (2, .q 0), (3, .q 0), (4, .q 0), (5, .q 0), (6, .q 0), (7, .q 0), (8, .q 0), (9, .q 0), (10, .q 0), (11, .q 0)] (by kernel_rfl) ?_
  refine Lx_mv (v := (.func (.func kcmp) #[] ccmp)) rfl rfl rfl (Lx_mv (v := (slV ha a)) rfl rfl rfl (Lx_mv (v := (.int .i64 (k : Int))) rfl rfl rfl (Lx_q rfl rfl _ (fun v14 hv15 => R_arith (a := (k : Int)) (b := 1) (r0 := (k : Int) - 1) (r := ((k - 1 : Nat) : Int)) rfl rfl rfl (wrapP _ (by omega) (by omega)) qk) ?_)))
  refine Lx_q rfl rfl _ (fun v16 hv17 => R_index_pure (H6.sl 0 rfl) (n := a.length) rfl (j := ((k - 1 : Nat) : Int)) (oo := (ha.o + (k - 1) * 41)) Tryz.underlying43 Tryz.sizeOf72 rfl rfl (by omega) (by omega) rfl qk) (Lx_q rfl rfl _ (fun v18 hv19 => R_loadA (cs := [[(.int .i64 ((nth a (k - 1)).kind))], [(.int .i64 (((nth a (k - 1)).tm).T))], [(.int .i64 (((nth a (k - 1)).tm).R))], [(.int .i64 (((nth a (k - 1)).node).T))], [(.int .i64 (((nth a (k - 1)).node).R))], [(.int .i64 (((nth a (k - 1)).par).T))], [(.int .i64 (((nth a (k - 1)).par).R))], [(.string ((nth a (k - 1)).name))], (idCells ((nth a (k - 1)).data)), [(slV ((nth a (k - 1)).oh) ((nth a (k - 1)).over))]]) Tryz.isAgg72 Tryz.sizeOf72 rfl rfl ((Sl.elem ((H6.ext hv19).sl 0 rfl) (i := (k - 1)) (by omega) rfl).chunks 0 10 0 (ha.o + (k - 1) * 41) _ rfl rfl rfl) qk) (Lx_mv (v := (slV ha a)) rfl rfl rfl (Lx_mv (v := (.int .i64 (k : Int))) rfl rfl rfl ?_)))
  refine Lx_q rfl rfl _ (fun v24 hv25 => R_index_pure (H6.sl 0 rfl) (n := a.length) rfl (j := (k : Int)) (oo := (ha.o + k * 41)) Tryz.underlying43 Tryz.sizeOf72 rfl rfl (by omega) (by omega) rfl qk) (Lx_q rfl rfl _ (fun v26 hv27 => R_loadA (cs := [[(.int .i64 ((nth a k).kind))], [(.int .i64 (((nth a k).tm).T))], [(.int .i64 (((nth a k).tm).R))], [(.int .i64 (((nth a k).node).T))], [(.int .i64 (((nth a k).node).R))], [(.int .i64 (((nth a k).par).T))], [(.int .i64 (((nth a k).par).R))], [(.string ((nth a k).name))], (idCells ((nth a k).data)), [(slV ((nth a k).oh) ((nth a k).over))]]) Tryz.isAgg72 Tryz.sizeOf72 rfl rfl ((Sl.elem ((H6.ext hv27).sl 0 rfl) (i := k) (by omega) rfl).chunks 0 10 0 (ha.o + k * 41) _ rfl rfl rfl) qk) (Lx_q rfl rfl (.int .i64 (f (nth a (k - 1)) (nth a k))) (fun v28 hv29 => R_callV (vs := [(aggOf (opCh (nth a (k - 1)))), (aggOf (opCh (nth a k)))]) Kcmp rfl rfl (Ccmp _ (nth_mem (by omega)) _ (nth_mem (by omega)) v28 (H6.ext hv29).gr)) (Lx_q rfl rfl _ (fun v30 hv31 => R_cmp (a := f (nth a (k - 1)) (nth a k)) (b := 0) (r := (decide (0 ≤ f (nth a (k - 1)) (nth a k)))) rfl rfl rfl qk) ?_)))
  refine Lx_nil (fun w32 hw33 => ?_)
  have H34 := H6.ext hw33
  refine Then_n ?_
  refine W_cond rfl (fun hc35 => ?_) (fun hc35 => ?_)
  ·have hc35 := (of_decide_eq_true hc35)
   refine W_seq (W_reg ?_)
   refine O_as (v := (.bool false)) rfl rfl ?_
   refine O_nil (Then_n (W_ret (Blk_r (Then_r (Then_r (Blk_r (Then_r ?_)))))))
   refine ret_1 (v := (.bool false)) Tryz.results103 rfl ?_
   exact ⟨(boolF (fun h => by have := h k (by omega) (by omega); omega)), H34.gr⟩
  ·have hc35 := (of_decide_eq_false hc35)
   refine W_skip (Blk_n (Then_n (W_reg ?_)))
   refine O_mv (v := (.int .i64 (k : Int))) rfl rfl ?_
   refine O_v rfl (R_arith (a := (k : Int)) (b := 1) (r0 := (k : Int) + 1) (r := ((k + 1 : Nat) : Int)) rfl rfl rfl (wrapN _ (by omega)) ?_)
   refine O_as (v := (.int .i64 ((k + 1 : Nat) : Int))) rfl rfl ?_
   refine O_nil (Then_n ?_)
   refine ⟨_, ?_, (k + 1), rfl, (by omega), (by omega), (rise_succ hn (by omega)), _, envL_self ⟨rfl, rfl, rfl, trivial⟩, H34⟩
   omega
 ·have hc7 := (of_decide_eq_false hc7)
  refine W_exit (Then_x (Then_x (Blk_x (Then_n (W_seq (W_reg ?_))))))
  refine O_as (v := (.bool true)) rfl rfl ?_
  refine O_nil (Then_n (W_ret ?_))
  refine ret_1 (v := (.bool true)) Tryz.results103 rfl ?_
  exact ⟨(boolT (fun i h1 h2 => hn i (by omega) h2)), H6.gr⟩
set_option maxHeartbeats 1000000 in
theorem bytes_Compare (ha : SlH) (a : List UInt8) (hb : SlH) (b : List UInt8) (w : World) (Sa : Sl (Old w) encB 1 ha a w) (Sb : Sl (Old w) encB 1 hb b w) :
    Calls Tryz.prog 94 #[(slV ha a), (slV hb b)] w (Ret fun v w' => v = (.int .i64 (Lib.compareBytes a b)) ∧ Ext w w') := by
 refine calls_W Tryz.func94 rfl Tryz.ntmps94 rfl ?_
 have H0 := Ctx.start w nob
 have H1 := H0.addSl _ Sa (fun b hb => ⟨hb, fun _ ho => (nomatch ho)⟩)
 have LSa := Sa.len
 have H2 := H1.addSl _ Sb (fun b hb => ⟨hb, fun _ ho => (nomatch ho)⟩)
 have LSb := Sb.len
 refine W_seq (W_reg ?_)
 refine O_as (v := (.int .i64 0)) rfl rfl ?_
 refine O_nil (Then_n (W_seq (W_reg ?_)))
 refine O_mv (v := (slV ha a)) rfl rfl (O_mv (v := (slV hb b)) rfl rfl ?_)
 refine O_v rfl (R_compare (l := a) (l2 := b) Tryz.func127 (by kernel_rfl) (by kernel_rfl) (by kernel_rfl) (by kernel_rfl) rfl rfl (H2.sl 1 rfl) (H2.sl 0 rfl) ?_)
 refine O_as (v := (.int .i64 (Lib.compareBytes a b))) rfl rfl ?_
 refine O_nil (Then_n (W_ret ?_))
 refine ret_1 (v := (.int .i64 (Lib.compareBytes a b))) Tryz.results94 rfl ?_
 exact ⟨rfl, H2.gr⟩
theorem cF94 : callable Tryz.prog 94 = true := by kernel_rfl
set_option maxHeartbeats 1000000 in
theorem sha_Cmp (a : ID) (b : ID) (w : World) :
    Calls Tryz.prog 55 #[(aggOf (idCh a)), (aggOf (idCh b))] w (Ret fun v w' => v = (.int .i64 (cmpId a b)) ∧ Ext w w') := by
 refine calls_W Tryz.func55 rfl Tryz.ntmps55 rfl ?_
 have H0 := Ctx.start w nob
 refine W_seq (W_reg ?_)
 refine O_v rfl (C_box H0 [(idCells a)] rfl ?_)
 intro b1 w2 hb3 hx4 H5
 refine O_v rfl (C_box H5 [(idCells b)] rfl ?_)
 intro b6 w7 hb8 hx9 H10
 refine O_as (v := (.int .i64 0)) rfl rfl ?_
 refine O_nil (Then_n (W_seq ?_))
 refine W_rgd TryzMixed [(0, .q 0), (1, .q 0), (2, .q 0), (3, .q 0)] (by kernel_rfl) ?_
 refine Lx_q rfl rfl _ (fun v11 hv12 => R_slice_arr Tryz.underlying45 Tryz.sizeOf5 rfl (by decide) qk) (Lx_q rfl rfl _ (fun v13 hv14 => R_slice_arr Tryz.underlying45 Tryz.sizeOf5 rfl (by decide) qk) (Lx_q rfl rfl (.int .i64 (Lib.compareBytes (idList a) (idList b))) (fun v15 hv16 => R_callL (vs := [(slV ⟨some ⟨b1, 0, none⟩, b1, 0, 32⟩ (idList a)), (slV ⟨some ⟨b6, 0, none⟩, b6, 0, 32⟩ (idList b))]) cF94 rfl rfl (bytes_Compare ⟨some ⟨b1, 0, none⟩, b1, 0, 32⟩ (idList a) ⟨some ⟨b6, 0, none⟩, b6, 0, 32⟩ (idList b) v15 ((H10.ext hv16).boxOld 1 rfl) ((H10.ext hv16).boxOld 0 rfl))) (Lx_q rfl rfl _ (fun v17 hv18 => R_assign (v := (.int .i64 (Lib.compareBytes (idList a) (idList b)))) rfl qk) ?_)))
 refine Lx_nil (fun w19 hw20 => ?_)
 have H21 := H10.ext hw20
 refine Then_n (W_ret ?_)
 refine ret_1 (v := (.int .i64 (Lib.compareBytes (idList a) (idList b)))) Tryz.results55 rfl ?_
 exact ⟨rfl, H21.gr⟩
end Go.Proofs.YthjdhfoeckfmbaaGreat
namespace Go.Proofs.YthjdhfoeckfmbaaGreat
open Go
set_option maxRecDepth 100000
set_option linter.unusedVariables false
set_option linter.unusedSimpArgs false
set_option linter.unusedSectionVars false
theorem cF55 : callable Tryz.prog 55 = true := by kernel_rfl
theorem cF98 : callable Tryz.prog 98 = true := by kernel_rfl
theorem cF99 : callable Tryz.prog 99 = true := by kernel_rfl
theorem cF101 : callable Tryz.prog 101 = true := by kernel_rfl
theorem cF102 : callable Tryz.prog 102 = true := by kernel_rfl
theorem cF103 : callable Tryz.prog 103 = true := by kernel_rfl
theorem cF104 : callable Tryz.prog 104 = true := by kernel_rfl
set_option maxHeartbeats 2000000 in
theorem obj_rightChange (c : ChangeS) (w : World) (Sc_parents : Sl (Old w) idCh 32 c.ph c.parents w) (Sc_ops : Sl (Old w) opCh 41 c.oh c.ops w) (Dc_over : ∀ x ∈ c.ops, Sl (Old w) stampCh 2 x.oh x.over w) :
    Calls Tryz.prog 58 #[(aggOf (changeCh c))] w (Ret fun v w' => v = (.bool (changeOk c)) ∧ Ext w w') := by
 refine calls_W Tryz.func58 rfl Tryz.ntmps58 rfl ?_
 have H0 := Ctx.start w nob
 have H1 := H0.addSl _ Sc_parents (fun b hb => ⟨hb, fun _ ho => (nomatch ho)⟩)
 have LSc_parents := Sc_parents.len
 have H2 := H1.addSl _ Sc_ops (fun b hb => ⟨hb, fun _ ho => (nomatch ho)⟩)
 have LSc_ops := Sc_ops.len
 have H3 := H2.addImm' (deepI (Old w) stampCh 2 (fun x : OpS => x.oh) (fun x : OpS => x.over) c.ops) Dc_over (fun b hb => ⟨hb, fun _ ho => (nomatch ho)⟩)
 refine W_seq (W_reg ?_)
 refine O_v rfl (C_box H3 [[(slV c.ph c.parents)], [(.int .i64 c.time)], [(.int .i64 c.r)], [(slV c.oh c.ops)], (idCells c.tree), [(.string c.msg)]] rfl ?_)
 intro b4 w5 hb6 hx7 H8
 refine O_as (v := (.bool false)) rfl rfl ?_
 refine O_nil (Then_n (W_seq (W_reg ?_)))
 refine O_v rfl (R_makeFuncL (vs := [(.pointer (some ⟨b4, 0, none⟩))]) rfl ?_)
 refine O_v rfl (C_alloc1 H8 (z := .nilFunc) Tryz.zeroValue99 rfl ?_)
 intro b9 w10 hb11 hx12 H13
 refine O_u (C_store1 H13 0 rfl 0 (v := (.func (.func 96) #[] #[(.pointer (some ⟨b4, 0, none⟩))])) [[(.func (.func 96) #[] #[(.pointer (some ⟨b4, 0, none⟩))])]] Tryz.sizeOf99 rfl rfl rfl rfl rfl rfl rfl ?_)
 intro w14 hg15 H16
 refine O_nil (Then_n (W_seq (W_block (W_seq ?_))))
 refine W_rg [(0, .q 0), (1, .q 0), (2, .q 0), (3, .q 0), (4, .q 0), (5, .q 0), (6, .q 0), (7, .q 0), (8, .q 0), (9, .q 0), (10, .q 0), (11, .q 0), (12, .q 0), (13, .q 0), (14, .q 0), (15, .q 0), (16, .q 0)] (by kernel_rfl) ?_
 refine Lx_q rfl rfl _ (fun v17 hv18 => R_fieldAddr (off := 0) (oo := 0) Tryz.underlying47 rfl rfl Tryz.sizeOf39 rfl rfl qk) (Lx_q rfl rfl _ (fun v19 hv20 => R_load1 (v := (slV c.ph c.parents)) Tryz.isAgg39 rfl ((H16.ext hv20).bx 1 rfl 0 1 0 0 _ rfl rfl rfl) qk) (Lx_q rfl rfl _ (fun v21 hv22 => R_len_slice (a := c.ph.a) (n := c.parents.length) (c := c.ph.c) Tryz.underlying39 rfl qk) (Lx_q rfl rfl _ (fun v23 hv24 => R_cmp (a := (c.parents.length : Int)) (b := 2) (r := (decide (2 < (c.parents.length : Int)))) rfl rfl rfl qk) ?_)))
 refine Lx_mv (v := (.bool (decide (2 < (c.parents.length : Int))))) rfl rfl rfl (Lx_qf rfl rfl rfl rfl rfl _ (fun hA v27 hv28 => R_fieldAddr (off := 0) (oo := 0) Tryz.underlying47 rfl rfl Tryz.sizeOf39 rfl rfl qk) (Lx_qf rfl rfl rfl rfl rfl _ (fun hA v29 hv30 => R_load1 (v := (slV c.ph c.parents)) Tryz.isAgg39 (gv_t hA) ((H16.ext hv30).bx 1 rfl 0 1 0 0 _ rfl rfl rfl) qk) (Lx_qf rfl rfl rfl rfl rfl _ (fun hA v31 hv32 => R_buildL (vs := []) (v := aggOf [(idCells zeroId)]) rfl (fun _ => by kernel_rfl) qk) ?_)))
 refine Lx_qf rfl rfl rfl rfl rfl (.bool (c.parents.any (fun (x : ID) => decide (zeroId = x)))) (fun hA v33 hv34 => R_callL (vs := [(slV c.ph c.parents), (aggOf (idCh zeroId))]) cF98 rfl (lst2 (gv_t hA) (gv_t hA)) (Contains_ID c.ph c.parents zeroId v33 ((H16.ext hv34).slOld 2 rfl))) (Lx_q rfl rfl _ (fun v35 hv36 => R_pick rfl pk_or qk) (Lx_mv (v := (.bool ((decide (2 < (c.parents.length : Int))) || (c.parents.any (fun (x : ID) => decide (zeroId = x)))))) rfl rfl rfl (Lx_qf rfl rfl rfl rfl rfl _ (fun hA v39 hv40 => R_fieldAddr (off := 0) (oo := 0) Tryz.underlying47 rfl rfl Tryz.sizeOf39 rfl rfl qk) ?_)))
 refine Lx_qf rfl rfl rfl rfl rfl _ (fun hA v41 hv42 => R_load1 (v := (slV c.ph c.parents)) Tryz.isAgg39 (gv_t hA) ((H16.ext hv42).bx 1 rfl 0 1 0 0 _ rfl rfl rfl) qk) (Lx_qf rfl rfl rfl rfl rfl (.bool (riseBy cmpId c.parents)) (fun hA v43 hv44 => R_callL (vs := [(slV c.ph c.parents), (.func (.func 55) #[] #[])]) cF99 rfl (lst2 (gv_t hA) rfl) (rise_ID c.ph c.parents 55 #[] cmpId v43 ((H16.ext hv44).slOld 2 rfl) cF55 (fun x _ y _ w1 _ => callsCap0 (sha_Cmp x y w1)))) (Lx_qf rfl rfl rfl rfl rfl _ (fun hA v45 hv46 => R_not (gv_t hA) qk) (Lx_q rfl rfl _ (fun v47 hv48 => R_pick rfl pk_or qk) ?_)))
 refine Lx_q rfl rfl _ (fun v49 hv50 => R_assign (v := (.bool (((decide (2 < (c.parents.length : Int))) || (c.parents.any (fun (x : ID) => decide (zeroId = x)))) || (!(riseBy cmpId c.parents))))) rfl qk) ?_
 refine Lx_nil (fun w51 hw52 => ?_)
 have H53 := H16.ext hw52
 refine Then_n ?_
 refine W_cond rfl (fun hc54 => ?_) (fun hc54 => ?_)
 ·have hc54 : (((2 < (c.parents.length : Int)) ∨ (c.parents.any (fun (x : ID) => decide (zeroId = x))) = true) ∨ (riseBy cmpId c.parents) = false) := (Or.imp (fun h => (Or.imp (fun h => (of_decide_eq_true h)) (fun h => h) (orT h))) (fun h => (notT h)) (orT hc54))
  refine W_skip (Blk_n (Then_n (W_seq (W_reg ?_))))
  refine O_as (v := (.bool false)) rfl rfl ?_
  refine O_nil (Then_n (W_ret ?_))
  refine ret_1 (v := (.bool false)) Tryz.results58 rfl ?_
  exact ⟨(change_f1 (by assumption)), H53.gr⟩
 ·have hc54 : ((¬ (2 < (c.parents.length : Int)) ∧ (c.parents.any (fun (x : ID) => decide (zeroId = x))) = false) ∧ (riseBy cmpId c.parents) = true) := (And.imp (fun h => (And.imp (fun h => (of_decide_eq_false h)) (fun h => h) (orF h))) (fun h => (notF h)) (orF hc54))
  refine W_seq ?_
  refine W_rg [(0, .q 0), (1, .q 0), (2, .q 0), (3, .q 0), (4, .q 0), (5, .q 0), (6, .q 0), (7, .q 0), (8, .q 0), (9, .q 0), (10, .q 0), (11, .q 0), (12, .q 0), (13, .q 0), (14, .q 0), (15, .q 0), (16, .q 0), (17, .q 0), (18, .q 0), (19, .q 0)] (by kernel_rfl) ?_
  refine Lx_q rfl rfl _ (fun v55 hv56 => R_fieldAddr (off := 1) (oo := 1) Tryz.underlying47 rfl rfl Tryz.sizeOf2 rfl rfl qk) (Lx_q rfl rfl _ (fun v57 hv58 => R_load1 (v := (.int .i64 c.time)) Tryz.isAgg2 rfl ((H53.ext hv58).bx 1 rfl 1 1 1 1 _ rfl rfl rfl) qk) (Lx_q rfl rfl _ (fun v59 hv60 => R_fieldAddr (off := 2) (oo := 2) Tryz.underlying47 rfl rfl Tryz.sizeOf3 rfl rfl qk) (Lx_q rfl rfl _ (fun v61 hv62 => R_load1 (v := (.int .i64 c.r)) Tryz.isAgg3 rfl ((H53.ext hv62).bx 1 rfl 2 1 2 2 _ rfl rfl rfl) qk) ?_)))
  refine Lx_q rfl rfl _ (fun v63 hv64 => R_buildL (vs := [(0, (.int .i64 c.time)), (1, (.int .i64 c.r))]) (v := aggOf [[(.int .i64 c.time)], [(.int .i64 c.r)]]) rfl (fun _ => by kernel_rfl) qk) (Lx_q rfl rfl (.bool (stRight ({ T := c.time, R := c.r } : Stamp))) (fun v65 hv66 => R_callL (vs := [(aggOf [[(.int .i64 c.time)], [(.int .i64 c.r)]])]) cF100 rfl rfl (stamp_Right ({ T := c.time, R := c.r } : Stamp) v65 )) (Lx_q rfl rfl _ (fun v67 hv68 => R_not rfl qk) (Lx_mv (v := (.bool (!(stRight ({ T := c.time, R := c.r } : Stamp))))) rfl rfl rfl ?_)))
  refine Lx_qf rfl rfl rfl rfl rfl _ (fun hA v71 hv72 => R_fieldAddr (off := 36) (oo := 36) Tryz.underlying47 rfl rfl Tryz.sizeOf9 rfl rfl qk) (Lx_qf rfl rfl rfl rfl rfl _ (fun hA v73 hv74 => R_load1 (v := (.string c.msg)) Tryz.isAgg9 (gv_t hA) ((H53.ext hv74).bx 1 rfl 5 1 36 36 _ rfl rfl rfl) qk) (Lx_qf rfl rfl rfl rfl rfl _ (fun hA v75 hv76 => R_len_string Tryz.underlying9 (gv_t hA) qk) (Lx_qf rfl rfl rfl rfl rfl _ (fun hA v77 hv78 => R_cmp (a := (c.msg.size : Int)) (b := 200) (r := (decide (200 < (c.msg.size : Int)))) (gv_t hA) rfl rfl qk) ?_)))
  refine Lx_q rfl rfl _ (fun v79 hv80 => R_pick rfl pk_or qk) (Lx_mv (v := (.bool ((!(stRight ({ T := c.time, R := c.r } : Stamp))) || (decide (200 < (c.msg.size : Int)))))) rfl rfl rfl (Lx_qf rfl rfl rfl rfl rfl _ (fun hA v83 hv84 => R_fieldAddr (off := 4) (oo := 4) Tryz.underlying47 rfl rfl Tryz.sizeOf45 rfl rfl qk) (Lx_qf rfl rfl rfl rfl rfl _ (fun hA v85 hv86 => R_loadA (cs := [(idCells c.tree)]) Tryz.isAgg45 Tryz.sizeOf45 rfl (gv_t hA) ((H53.ext hv86).bx 1 rfl 4 1 4 4 _ rfl rfl rfl) qk) ?_)))
  refine Lx_qf rfl rfl rfl rfl rfl _ (fun hA v87 hv88 => R_buildL (vs := []) (v := aggOf [(idCells zeroId)]) rfl (fun _ => by kernel_rfl) qk) (Lx_qf rfl rfl rfl rfl rfl _ (fun hA v89 hv90 => R_eqv (a := c.tree) (b := zeroId) eqv_ID45 rfl Tryz.eqGuardType45 (gv_t hA) (gv_t hA) qk) (Lx_q rfl rfl _ (fun v91 hv92 => R_pick rfl pk_or qk) (Lx_q rfl rfl _ (fun v93 hv94 => R_assign (v := (.bool (((!(stRight ({ T := c.time, R := c.r } : Stamp))) || (decide (200 < (c.msg.size : Int)))) || (decide (c.tree = zeroId))))) rfl qk) ?_)))
  refine Lx_nil (fun w95 hw96 => ?_)
  have H97 := H53.ext hw96
  refine Then_n ?_
  refine W_cond rfl (fun hc98 => ?_) (fun hc98 => ?_)
  ·have hc98 : (((stRight ({ T := c.time, R := c.r } : Stamp)) = false ∨ (200 < (c.msg.size : Int))) ∨ (c.tree = zeroId)) := (Or.imp (fun h => (Or.imp (fun h => (notT h)) (fun h => (of_decide_eq_true h)) (orT h))) (fun h => (of_decide_eq_true h)) (orT hc98))
   refine W_skip (Blk_n (Then_n (W_seq (W_reg ?_))))
   refine O_as (v := (.bool false)) rfl rfl ?_
   refine O_nil (Then_n (W_ret ?_))
   refine ret_1 (v := (.bool false)) Tryz.results58 rfl ?_
   exact ⟨(change_f2 (by assumption)), H97.gr⟩
  ·have hc98 : (((stRight ({ T := c.time, R := c.r } : Stamp)) = true ∧ ¬ (200 < (c.msg.size : Int))) ∧ ¬ (c.tree = zeroId)) := (And.imp (fun h => (And.imp (fun h => (notF h)) (fun h => (of_decide_eq_false h)) (orF h))) (fun h => (of_decide_eq_false h)) (orF hc98))
   refine W_seq ?_
   refine W_rg [(0, .q 0), (1, .q 0), (2, .q 0), (3, .q 0), (4, .q 0), (5, .q 0), (6, .q 0), (7, .q 0), (8, .q 0), (9, .q 0), (10, .q 0), (11, .q 0), (12, .q 0), (13, .q 0), (14, .q 0), (15, .q 0), (16, .q 0)] (by kernel_rfl) ?_
   refine Lx_q rfl rfl _ (fun v99 hv100 => R_fieldAddr (off := 3) (oo := 3) Tryz.underlying47 rfl rfl Tryz.sizeOf43 rfl rfl qk) (Lx_q rfl rfl _ (fun v101 hv102 => R_load1 (v := (slV c.oh c.ops)) Tryz.isAgg43 rfl ((H97.ext hv102).bx 1 rfl 3 1 3 3 _ rfl rfl rfl) qk) (Lx_q rfl rfl _ (fun v103 hv104 => R_len_slice (a := c.oh.a) (n := c.ops.length) (c := c.oh.c) Tryz.underlying43 rfl qk) (Lx_q rfl rfl _ (fun v105 hv106 => R_cmp (a := (c.ops.length : Int)) (b := 64) (r := (decide (64 < (c.ops.length : Int)))) rfl rfl rfl qk) ?_)))
   refine Lx_mv (v := (.bool (decide (64 < (c.ops.length : Int))))) rfl rfl rfl (Lx_qf rfl rfl rfl rfl rfl _ (fun hA v109 hv110 => R_fieldAddr (off := 0) (oo := 0) Tryz.underlying47 rfl rfl Tryz.sizeOf39 rfl rfl qk) (Lx_qf rfl rfl rfl rfl rfl _ (fun hA v111 hv112 => R_load1 (v := (slV c.ph c.parents)) Tryz.isAgg39 (gv_t hA) ((H97.ext hv112).bx 1 rfl 0 1 0 0 _ rfl rfl rfl) qk) (Lx_qf rfl rfl rfl rfl rfl _ (fun hA v113 hv114 => R_len_slice (a := c.ph.a) (n := c.parents.length) (c := c.ph.c) Tryz.underlying39 (gv_t hA) qk) ?_)))
   refine Lx_qf rfl rfl rfl rfl rfl _ (fun hA v115 hv116 => R_cmp (a := (c.parents.length : Int)) (b := 2) (r := (decide ((c.parents.length : Int) = 2))) (gv_t hA) rfl rfl qk) (Lx_qf rfl rfl rfl rfl rfl _ (fun hA v117 hv118 => R_move (v := (.bool (decide ((c.parents.length : Int) = 2)))) (gv_t hA) qk) (Lx_gt (!(decide (64 < (c.ops.length : Int)))) (decide ((c.parents.length : Int) = 2)) rfl rfl rfl rfl rfl _ (fun hA v119 hv120 => R_fieldAddr (off := 3) (oo := 3) Tryz.underlying47 rfl rfl Tryz.sizeOf43 rfl rfl qk) (Lx_gt (!(decide (64 < (c.ops.length : Int)))) (decide ((c.parents.length : Int) = 2)) rfl rfl rfl rfl rfl _ (fun hA v121 hv122 => R_load1 (v := (slV c.oh c.ops)) Tryz.isAgg43 (gv_t hA) ((H97.ext hv122).bx 1 rfl 3 1 3 3 _ rfl rfl rfl) qk) ?_)))
   refine Lx_gt (!(decide (64 < (c.ops.length : Int)))) (decide ((c.parents.length : Int) = 2)) rfl rfl rfl rfl rfl _ (fun hA v123 hv124 => R_len_slice (a := c.oh.a) (n := c.ops.length) (c := c.oh.c) Tryz.underlying43 (gv_t hA) qk) (Lx_gt (!(decide (64 < (c.ops.length : Int)))) (decide ((c.parents.length : Int) = 2)) rfl rfl rfl rfl rfl _ (fun hA v125 hv126 => R_cmp (a := (c.ops.length : Int)) (b := 0) (r := (decide (0 < (c.ops.length : Int)))) (gv_t hA) rfl rfl qk) (Lx_qf rfl rfl rfl rfl rfl _ (fun hA v127 hv128 => R_pick (gv_t hA) (pk_andA hA) qk) (Lx_q rfl rfl _ (fun v129 hv130 => R_pick rfl pk_or qk) ?_)))
   refine Lx_q rfl rfl _ (fun v131 hv132 => R_assign (v := (.bool ((decide (64 < (c.ops.length : Int))) || ((decide ((c.parents.length : Int) = 2)) && (decide (0 < (c.ops.length : Int))))))) rfl qk) ?_
   refine Lx_nil (fun w133 hw134 => ?_)
   have H135 := H97.ext hw134
   refine Then_n ?_
   refine W_cond rfl (fun hc136 => ?_) (fun hc136 => ?_)
   ·have hc136 : ((64 < (c.ops.length : Int)) ∨ (((c.parents.length : Int) = 2) ∧ (0 < (c.ops.length : Int)))) := (Or.imp (fun h => (of_decide_eq_true h)) (fun h => (And.imp (fun h => (of_decide_eq_true h)) (fun h => (of_decide_eq_true h)) (andT h))) (orT hc136))
    refine W_skip (Blk_n (Then_n (W_seq (W_reg ?_))))
    refine O_as (v := (.bool false)) rfl rfl ?_
    refine O_nil (Then_n (W_ret ?_))
    refine ret_1 (v := (.bool false)) Tryz.results58 rfl ?_
    exact ⟨(change_f3 (by assumption)), H135.gr⟩
   ·have hc136 : (¬ (64 < (c.ops.length : Int)) ∧ (¬ ((c.parents.length : Int) = 2) ∨ ¬ (0 < (c.ops.length : Int)))) := (And.imp (fun h => (of_decide_eq_false h)) (fun h => (Or.imp (fun h => (of_decide_eq_false h)) (fun h => (of_decide_eq_false h)) (andF h))) (orF hc136))
    refine W_seq ?_
    refine W_rg [(0, .q 0), (1, .q 0), (2, .q 0), (3, .q 0), (4, .q 0), (5, .q 0), (6, .q 0), (7, .q 0), (8, .q 0), (9, .q 0), (10, .q 0)] (by kernel_rfl) ?_
    refine Lx_q rfl rfl _ (fun v137 hv138 => R_fieldAddr (off := 3) (oo := 3) Tryz.underlying47 rfl rfl Tryz.sizeOf43 rfl rfl qk) (Lx_q rfl rfl _ (fun v139 hv140 => R_load1 (v := (slV c.oh c.ops)) Tryz.isAgg43 rfl ((H135.ext hv140).bx 1 rfl 3 1 3 3 _ rfl rfl rfl) qk) (Lx_q rfl rfl _ (fun v141 hv142 => R_makeFuncL (vs := [(.pointer (some ⟨b9, 0, none⟩))]) rfl qk) (Lx_q rfl rfl (.bool (c.ops.any (fun (x : OpS) => !ownOp c.time c.r x))) (fun v143 hv144 => R_callL (vs := [(slV c.oh c.ops), (.func (.func 102) #[] #[(.pointer (some ⟨b9, 0, none⟩))])]) cF101 rfl rfl (ContainsFunc_Op c.oh c.ops 102 #[(.pointer (some ⟨b9, 0, none⟩))] (fun (x : OpS) => !ownOp c.time c.r x) v143 ((H135.ext hv144).slOld 1 rfl) cF102 (fun x hx w1 he => callsCat (rightChange_2 x b9 b4 c w1 (((H135.ext hv144).deepOld 0 rfl _ hx).ext he) (((H135.ext hv144).ext he).getOwn 1 rfl) (((H135.ext hv144).ext he).getOwn 0 rfl))))) ?_)))
    refine Lx_q rfl rfl _ (fun v145 hv146 => R_not rfl qk) (Lx_mv (v := (.bool (!(c.ops.any (fun (x : OpS) => !ownOp c.time c.r x))))) rfl rfl rfl (Lx_qt rfl rfl rfl rfl rfl _ (fun hA v149 hv150 => R_fieldAddr (off := 3) (oo := 3) Tryz.underlying47 rfl rfl Tryz.sizeOf43 rfl rfl qk) (Lx_qt rfl rfl rfl rfl rfl _ (fun hA v151 hv152 => R_load1 (v := (slV c.oh c.ops)) Tryz.isAgg43 (gv_t hA) ((H135.ext hv152).bx 1 rfl 3 1 3 3 _ rfl rfl rfl) qk) ?_)))
    refine Lx_qt rfl rfl rfl rfl rfl (.bool (riseBy (fun (a b : OpS) => cmpSt a.tm b.tm) c.ops)) (fun hA v153 hv154 => R_callL (vs := [(slV c.oh c.ops), (.func (.func 104) #[] #[])]) cF103 rfl (lst2 (gv_t hA) rfl) (rise_Op c.oh c.ops 104 #[] (fun (a b : OpS) => cmpSt a.tm b.tm) v153 ((H135.ext hv154).slOld 1 rfl) cF104 (fun x hx y hy w1 he => callsCap0 (rightChange_3 x y w1 (((H135.ext hv154).deepOld 0 rfl _ hx).ext he) (((H135.ext hv154).deepOld 0 rfl _ hy).ext he))))) (Lx_q rfl rfl _ (fun v155 hv156 => R_pick rfl pk_and qk) (Lx_q rfl rfl _ (fun v157 hv158 => R_assign (v := (.bool ((!(c.ops.any (fun (x : OpS) => !ownOp c.time c.r x))) && (riseBy (fun (a b : OpS) => cmpSt a.tm b.tm) c.ops)))) rfl qk) ?_))
    refine Lx_nil (fun w159 hw160 => ?_)
    have H161 := H135.ext hw160
    refine Then_n (W_ret (Blk_r (Then_r ?_)))
    refine ret_1 (v := (.bool ((!(c.ops.any (fun (x : OpS) => !ownOp c.time c.r x))) && (riseBy (fun (a b : OpS) => cmpSt a.tm b.tm) c.ops)))) Tryz.results58 rfl ?_
    exact ⟨(change_t (by assumption) (by assumption) (by assumption)), H161.gr⟩
end Go.Proofs.YthjdhfoeckfmbaaGreat
namespace Go.Proofs.YthjdhfoeckfmbaaGreat
open Go
set_option maxRecDepth 100000
set_option linter.unusedVariables false
set_option linter.unusedSimpArgs false
set_option linter.unusedSectionVars false
variable [DD]
set_option maxHeartbeats 1000000 in
theorem Reader_Good (br : Nat) (r : RdS) (Sr : Nat → Prop) (q : List UInt8 × Bool) (w : World) (Qr : RdQ 132 br Sr r w) (Er : r.st = q) :
    Calls Tryz.prog 48 #[(.pointer (some ⟨br, 0, none⟩))] w (Ret fun v w' => ∃ (r' : RdS), v = (.bool (!q.2)) ∧ Gr (fun c => c = br) w w' ∧ RdQ 132 br Sr r' w' ∧ r'.st = q) := by
 refine calls_W Tryz.func48 rfl Tryz.ntmps48 rfl ?_
 have H0 := Qr
 refine W_seq (W_reg ?_)
 refine O_as (v := (.bool false)) rfl rfl ?_
 refine O_nil (Then_n (W_seq (W_reg ?_)))
 refine O_mv (v := (.pointer (some ⟨br, 0, none⟩))) rfl rfl ?_
 refine O_v rfl (R_nilCheck rfl ?_)
 refine O_v rfl (R_fieldAddr (off := 1) (oo := 1) Tryz.underlying132 rfl rfl Tryz.sizeOf4 rfl rfl ?_)
 refine O_v rfl (R_load1 (v := (.bool r.bad)) Tryz.isAgg4 rfl (H0.bx 0 rfl 1 1 1 1 _ rfl rfl rfl) ?_)
 refine O_v rfl (R_not rfl ?_)
 refine O_as (v := (.bool (!r.bad))) rfl rfl ?_
 refine O_nil (Then_n (W_ret ?_))
 refine ret_1 (v := (.bool (!r.bad))) Tryz.results48 rfl ?_
 have HQ := ((H0.pick (B' := [boxR br 132 (rdCh r)]) (I' := [slI Sr encB 1 r.bh r.b]) [0] (by decide) rfl (List.forall_mem_cons.2 ⟨List.mem_of_getElem? (i := 0) rfl, fun _ h => (nomatch h)⟩)).rdStart)
 exact ⟨r, (by rw [← Er]; rfl), H0.gr, HQ, Er⟩
set_option maxHeartbeats 1000000 in
theorem stamp_get (br : Nat) (r : RdS) (Sr : Nat → Prop) (q : List UInt8 × Bool) (w : World) (Qr : RdQ 132 br Sr r w) (Er : r.st = q) :
    Calls Tryz.prog 106 #[(.pointer (some ⟨br, 0, none⟩))] w (Ret fun v w' => ∃ (r' : RdS), v = (aggOf (stampCh ((rdAt q).1))) ∧ Gr (fun c => c = br) w w' ∧ RdQ 132 br Sr r' w' ∧ r'.st = (rdAt q).2) := by
 refine calls_W Tryz.func106 rfl Tryz.ntmps106 rfl ?_
 have H0 := Qr
 refine W_seq (W_reg ?_)
 refine O_v rfl (C_alloc H0 [[(.int .i64 0)], [(.int .i64 0)]] Tryz.zeroValue69 ?_)
 intro b1 w2 hb3 hx4 H5
 refine O_nil (Then_n (W_seq (W_reg ?_)))
 refine O_mv (v := (.pointer (some ⟨br, 0, none⟩))) rfl rfl ?_
 refine O_v rfl (R_callL (vs := [(.pointer (some ⟨br, 0, none⟩)), (.int .i64 1099511627776)]) cF46 rfl rfl ((Reader_Num br r Sr q 1099511627776 w2 ((H5.pick (B' := [boxR br 132 (rdCh r)]) (I' := [slI Sr encB 1 r.bh r.b]) [1] (by decide) rfl (List.forall_mem_cons.2 ⟨List.mem_of_getElem? (i := 0) rfl, fun _ h => (nomatch h)⟩)).rdStart) Er).ret ?_))
 rintro _ w7 ⟨r6, rfl, hg8, hQ9, hr10⟩
 have H11 := H5.rdUpd (r := r) 1 0 rfl rfl hg8 hQ9
 refine O_as (v := (.int .i64 (((rdNum q 1099511627776).1) : Int))) rfl rfl ?_
 refine O_nil (Then_n (W_seq (W_reg ?_)))
 refine O_mv (v := (.int .i64 (((rdNum q 1099511627776).1) : Int))) rfl rfl (O_mv (v := (.pointer (some ⟨br, 0, none⟩))) rfl rfl ?_)
 refine O_v rfl (R_callL (vs := [(.pointer (some ⟨br, 0, none⟩)), (.int .i64 65536)]) cF46 rfl rfl ((Reader_Num br r6 Sr ((rdNum q 1099511627776).2) 65536 w7 ((H11.pick (B' := [boxR br 132 (rdCh r6)]) (I' := [slI Sr encB 1 r6.bh r6.b]) [1] (by decide) rfl (List.forall_mem_cons.2 ⟨List.mem_of_getElem? (i := 0) rfl, fun _ h => (nomatch h)⟩)).rdStart) hr10).ret ?_))
 rintro _ w13 ⟨r12, rfl, hg14, hQ15, hr16⟩
 have H17 := H11.rdUpd (r := r6) 1 0 rfl rfl hg14 hQ15
 refine O_v rfl (R_buildL (vs := [(0, (.int .i64 (((rdNum q 1099511627776).1) : Int))), (1, (.int .i64 (((rdNum ((rdNum q 1099511627776).2) 65536).1) : Int)))]) (v := aggOf [[(.int .i64 (((rdNum q 1099511627776).1) : Int))], [(.int .i64 (((rdNum ((rdNum q 1099511627776).2) 65536).1) : Int))]]) rfl (fun _ => by kernel_rfl) ?_)
 refine O_u (C_storeW H17 0 rfl (sub := [[(.int .i64 (((rdNum q 1099511627776).1) : Int))], [(.int .i64 (((rdNum ((rdNum q 1099511627776).2) 65536).1) : Int))]]) Tryz.sizeOf69 rfl rfl rfl rfl rfl ?_)
 intro w18 hg19 H20
 refine O_nil (Then_n (W_ret ?_))
 refine ret_c Tryz.results106 (inMem (cs := [[(.int .i64 (((rdNum q 1099511627776).1) : Int))], [(.int .i64 (((rdNum ((rdNum q 1099511627776).2) 65536).1) : Int))]]) rfl Tryz.isAgg69 Tryz.sizeOf69 rfl (boxR_at (H20.getOwn 0 rfl))) ?_
 have HQ := ((H20.pick (B' := [boxR br 132 (rdCh r12)]) (I' := [slI Sr encB 1 r12.bh r12.b]) [1] (by decide) rfl (List.forall_mem_cons.2 ⟨List.mem_of_getElem? (i := 0) rfl, fun _ h => (nomatch h)⟩)).rdStart)
 exact ⟨r12, rfl, H20.gr, HQ, (hr16)⟩
end Go.Proofs.YthjdhfoeckfmbaaGreat
namespace Go.Proofs.YthjdhfoeckfmbaaGreat
open Go
set_option linter.unusedVariables false
set_option linter.unusedSimpArgs false
abbrev RSt := List UInt8 × Bool
theorem rdNumGo_le {most : Int} : ∀ (f k u : Nat) (q : RSt) {m : Nat}, most = (m : Int) → (rdNumGo most f k u q).1 ≤ m
  | 0, _, _, _, m, _ => Nat.zero_le _
  | f + 1, k, u, q, m, hm => by
    rw [rdNumGo]
    split
    · exact Nat.zero_le _
    · simp only
      split
      · exact rdNumGo_le f _ _ _ hm
      · split
        · exact Nat.zero_le _
        · show _ ≤ m
          omega
theorem rdNum_le (q : RSt) {m : Nat} {most : Int} (hm : most = (m : Int)) : (rdNum q most).1 ≤ m := rdNumGo_le 9 0 0 q hm
structure ItemC where
  node : Stamp
  tm : Stamp
  name : ByteArray
  sub : ID
  heads : List Head
  deriving DecidableEq, Inhabited
def ItemS.core (x : ItemS) : ItemC := ⟨x.node, x.tm, x.name, x.sub, x.heads⟩
def rdHead (q : RSt) : Head × RSt := (⟨(rdAt q).1, (rdId (rdAt q).2).1⟩, (rdId (rdAt q).2).2)
def rdHeads : Nat → List Head → RSt → List Head × RSt
  | 0, a, q => (a, q)
  | n + 1, a, q => if (rdHead q).2.2 = true then (a ++ [(rdHead q).1], (rdHead q).2) else rdHeads n (a ++ [(rdHead q).1]) (rdHead q).2
def rdItem (q : RSt) : ItemC × RSt :=
  (⟨(rdAt q).1, (rdAt (rdAt q).2).1, (rdText (rdAt (rdAt q).2).2 60).1, (rdId (rdText (rdAt (rdAt q).2).2 60).2).1, (rdHeads (rdNum (rdId (rdText (rdAt (rdAt q).2).2 60).2).2 1000).1 [] (rdNum (rdId (rdText (rdAt (rdAt q).2).2 60).2).2 1000).2).1⟩,
    (rdHeads (rdNum (rdId (rdText (rdAt (rdAt q).2).2 60).2).2 1000).1 [] (rdNum (rdId (rdText (rdAt (rdAt q).2).2 60).2).2 1000).2).2)
section
variable {n k : Nat} {acc : List Head} {q : RSt} {H : List Head × RSt}
theorem heads_next (h : rdHeads (n - k) acc q = H) (hk : k < n) (hb : (rdHead q).2.2 = false) : rdHeads (n - (k + 1)) (acc ++ [(rdHead q).1]) (rdHead q).2 = H := by
  rw [show n - k = (n - (k + 1)) + 1 from by omega, rdHeads, hb] at h
  exact h
theorem heads_brk (h : rdHeads (n - k) acc q = H) (hk : k < n) (hb : (rdHead q).2.2 = true) : (acc ++ [(rdHead q).1], (rdHead q).2) = H := by
  rw [show n - k = (n - (k + 1)) + 1 from by omega, rdHeads, if_pos hb] at h
  exact h
theorem heads_end (h : rdHeads (n - k) acc q = H) (hk : n ≤ k) : (acc, q) = H := by
  rw [show n - k = 0 from by omega] at h
  exact h
end
def rdAts : Nat → List Stamp → RSt → List Stamp × RSt
  | 0, a, q => (a, q)
  | n + 1, a, q => rdAts n (a ++ [(rdAt q).1]) (rdAt q).2
section
variable {n k : Nat} {acc : List Stamp} {q : RSt} {H : List Stamp × RSt}
theorem ats_next (h : rdAts (n - k) acc q = H) (hk : k < n) : rdAts (n - (k + 1)) (acc ++ [(rdAt q).1]) (rdAt q).2 = H := by
  rw [show n - k = (n - (k + 1)) + 1 from by omega] at h
  exact h
theorem ats_end (h : rdAts (n - k) acc q = H) (hk : n ≤ k) : (acc, q) = H := by
  rw [show n - k = 0 from by omega] at h
  exact h
end
def zeroOpC : OpC := ⟨0, ⟨0, 0⟩, ⟨0, 0⟩, ⟨0, 0⟩, ByteArray.empty, zeroId, []⟩
def opRead (q : RSt) : OpC × RSt :=
  if (((rdNum q 2).1 : Nat) : Int) = 1 then
    (⟨((rdNum q 2).1 : Nat), (rdAt (rdNum q 2).2).1, (rdAt (rdAt (rdNum q 2).2).2).1, (rdAt (rdAt (rdAt (rdNum q 2).2).2).2).1, (rdText (rdAt (rdAt (rdAt (rdNum q 2).2).2).2).2 60).1, zeroId, []⟩, (rdText (rdAt (rdAt (rdAt (rdNum q 2).2).2).2).2 60).2)
  else
    (⟨((rdNum q 2).1 : Nat), (rdAt (rdNum q 2).2).1, (rdAt (rdAt (rdNum q 2).2).2).1, ⟨0, 0⟩, ByteArray.empty, (rdId (rdAt (rdAt (rdNum q 2).2).2).2).1,
      (rdAts (rdNum (rdId (rdAt (rdAt (rdNum q 2).2).2).2).2 64).1 [] (rdNum (rdId (rdAt (rdAt (rdNum q 2).2).2).2).2 64).2).1⟩, (rdAts (rdNum (rdId (rdAt (rdAt (rdNum q 2).2).2).2).2 64).1 [] (rdNum (rdId (rdAt (rdAt (rdNum q 2).2).2).2).2 64).2).2)
def rdOp (q : RSt) : OpC × RSt := if (opRead q).2.2 = false ∧ (opRead q).1.good = true then opRead q else (zeroOpC, ([], true))
section
variable {q rq : RSt} {x : OpC × RSt}
theorem op_ok (hx : opRead q = x) (h : x.2.2 = false ∧ x.1.good = true) : rdOp q = x := by
  subst hx; exact if_pos h
theorem op_fail (hx : opRead q = x) (h : x.2.2 = true ∨ x.1.good = false) : rdOp q = (zeroOpC, ([], true)) := by
  subst hx
  refine if_neg fun hh => ?_
  rcases h with h | h
  · rw [hh.1] at h; cases h
  · rw [hh.2] at h; cases h
theorem opRead_m (h : (((rdNum q 2).1 : Nat) : Int) = 1) : opRead q =
    (⟨((rdNum q 2).1 : Nat), (rdAt (rdNum q 2).2).1, (rdAt (rdAt (rdNum q 2).2).2).1, (rdAt (rdAt (rdAt (rdNum q 2).2).2).2).1, (rdText (rdAt (rdAt (rdAt (rdNum q 2).2).2).2).2 60).1, zeroId, []⟩, (rdText (rdAt (rdAt (rdAt (rdNum q 2).2).2).2).2 60).2) := if_pos h
theorem opRead_e {k : Nat} {acc : List Stamp} (h : ¬ (((rdNum q 2).1 : Nat) : Int) = 1) (hgo : rdAts ((rdNum (rdId (rdAt (rdAt (rdNum q 2).2).2).2).2 64).1 - k) acc rq = rdAts (rdNum (rdId (rdAt (rdAt (rdNum q 2).2).2).2).2 64).1 [] (rdNum (rdId (rdAt (rdAt (rdNum q 2).2).2).2).2 64).2)
    (hk : (rdNum (rdId (rdAt (rdAt (rdNum q 2).2).2).2).2 64).1 ≤ k) : opRead q = (⟨((rdNum q 2).1 : Nat), (rdAt (rdNum q 2).2).1, (rdAt (rdAt (rdNum q 2).2).2).1, ⟨0, 0⟩, ByteArray.empty, (rdId (rdAt (rdAt (rdNum q 2).2).2).2).1, acc⟩, rq) := by
  have e := ats_end hgo hk
  rw [opRead, if_neg h, ← e]
end
def ItemC.toS (x : ItemC) : ItemS := { node := x.node, tm := x.tm, name := x.name, sub := x.sub, heads := x.heads, hh := nilH }
def dirOkC (l : List ItemC) : Bool := dirOk (l.map ItemC.toS)
theorem nth_map {α β : Type} [Inhabited α] [Inhabited β] (f : α → β) {l : List α} {i : Nat} (hi : i < l.length) : nth (l.map f) i = f (nth l i) := by
  rw [nth_eq (by simpa using hi), nth_eq hi, List.getElem_map]
theorem dirOk_core (l : List ItemS) : dirOk l = dirOkC (l.map ItemS.core) := by
  unfold dirOkC dirOk
  rw [decide_eq_decide, List.map_map, List.length_map]
  refine and_congr Iff.rfl (forall_congr' fun i => ?_)
  refine imp_congr_right fun hi => ?_
  rw [nth_map _ hi, nth_map _ (by omega : i - 1 < l.length)]
  exact Iff.rfl
def rdItems : Nat → List ItemC → RSt → List ItemC × RSt
  | 0, a, q => (a, q)
  | n + 1, a, q => if (rdItem q).2.2 = true then (a ++ [(rdItem q).1], (rdItem q).2) else rdItems n (a ++ [(rdItem q).1]) (rdItem q).2
def dirRd (b : List UInt8) : List ItemC × RSt := rdItems (rdNum (openSt b 2) 1000).1 [] (rdNum (openSt b 2) 1000).2
def dirOf (b : List UInt8) : List ItemC × Int := if rdDone (dirRd b).2 = true ∧ dirOkC (dirRd b).1 = true then ((dirRd b).1, 0) else ([], 20)
section
variable {n k : Nat} {acc : List ItemS} {q : RSt} {H : List ItemC × RSt} {x : ItemS} {b : List UInt8}
theorem items_next (h : rdItems (n - k) (acc.map ItemS.core) q = H) (hk : k < n) (hx : x.core = (rdItem q).1) (hb : (rdItem q).2.2 = false) : rdItems (n - (k + 1)) ((acc ++ [x]).map ItemS.core) (rdItem q).2 = H := by
  rw [show n - k = (n - (k + 1)) + 1 from by omega, rdItems, hb] at h
  rw [List.map_append, List.map_singleton, hx]
  exact h
theorem items_brk (h : rdItems (n - k) (acc.map ItemS.core) q = H) (hk : k < n) (hx : x.core = (rdItem q).1) (hb : (rdItem q).2.2 = true) : ((acc ++ [x]).map ItemS.core, (rdItem q).2) = H := by
  rw [show n - k = (n - (k + 1)) + 1 from by omega, rdItems, if_pos hb] at h
  rw [List.map_append, List.map_singleton, hx]
  exact h
theorem items_end (h : rdItems (n - k) (acc.map ItemS.core) q = H) (hk : n ≤ k) : (acc.map ItemS.core, q) = H := by
  rw [show n - k = 0 from by omega] at h
  exact h
theorem dir_no {l : List ItemS} (h : (l.map ItemS.core, q) = dirRd b) (hb : rdDone q = false ∨ dirOk l = false) : (([] : List ItemS).map ItemS.core, (20 : Int)) = dirOf b := by
  unfold dirOf
  rw [← h, if_neg]
  · rfl
  · rintro ⟨h1, h2⟩
    rw [← dirOk_core] at h2
    rcases hb with hb | hb
    · rw [h1] at hb; cases hb
    · rw [h2] at hb; cases hb
theorem dir_yes {l : List ItemS} (h : (l.map ItemS.core, q) = dirRd b) (hb : rdDone q = true ∧ dirOk l = true) : (l.map ItemS.core, (0 : Int)) = dirOf b := by
  unfold dirOf
  rw [← h, if_pos ⟨hb.1, by rw [← dirOk_core]; exact hb.2⟩]
end
structure ChangeC where
  parents : List ID
  time : Int
  r : Int
  ops : List OpC
  tree : ID
  msg : ByteArray
  deriving DecidableEq, Inhabited
def ChangeS.core (c : ChangeS) : ChangeC := ⟨c.parents, c.time, c.r, c.ops.map OpS.core, c.tree, c.msg⟩
def OpC.toS (o : OpC) : OpS := { kind := o.kind, tm := o.tm, node := o.node, par := o.par, name := o.name, data := o.data, over := o.over, oh := nilH }
def ChangeC.toS (c : ChangeC) : ChangeS := { parents := c.parents, ph := nilH, time := c.time, r := c.r, ops := c.ops.map OpC.toS, oh := nilH, tree := c.tree, msg := c.msg }
def changeOkC (c : ChangeC) : Bool := changeOk c.toS
theorem riseBy_map {α β : Type} [Inhabited α] [Inhabited β] (f : α → β) (g : β → β → Int) (l : List α) : riseBy g (l.map f) = riseBy (fun a b => g (f a) (f b)) l := by
  unfold riseBy
  rw [decide_eq_decide, List.length_map]
  refine forall_congr' fun i => imp_congr_right fun hi => ?_
  rw [nth_map _ hi, nth_map _ (by omega : i - 1 < l.length)]
theorem changeOk_core (c : ChangeS) : changeOk c = changeOkC c.core := by
  unfold changeOkC changeOk
  rw [decide_eq_decide]
  have e : c.core.toS.ops = c.ops.map (fun o => o.core.toS) := by simp [ChangeS.core, ChangeC.toS, Function.comp_def]
  have e1 : c.core.toS.ops.length = c.ops.length := by rw [e, List.length_map]
  have e2 : (c.core.toS.ops.any fun x => !ownOp c.core.toS.time c.core.toS.r x) = c.ops.any fun x => !ownOp c.time c.r x := by
    rw [e, List.any_map]; rfl
  have e3 : riseBy (fun (a b : OpS) => cmpSt a.tm b.tm) c.core.toS.ops = riseBy (fun (a b : OpS) => cmpSt a.tm b.tm) c.ops := by
    rw [e, riseBy_map]; rfl
  rw [e1, e2, e3]
  exact Iff.rfl
def rdIds : Nat → List ID → RSt → List ID × RSt
  | 0, a, q => (a, q)
  | n + 1, a, q => rdIds n (a ++ [(rdId q).1]) (rdId q).2
def rdOps : Nat → List OpC → RSt → List OpC × RSt
  | 0, a, q => (a, q)
  | n + 1, a, q => rdOps n (a ++ [(rdOp q).1]) (rdOp q).2
def changeRest (P : List ID × RSt) (O : List OpC × RSt) : ChangeC × RSt :=
  (⟨P.1, ((rdNum P.2 1099511627776).1 : Nat), ((rdNum (rdNum P.2 1099511627776).2 65536).1 : Nat), O.1, (rdId O.2).1, (rdText (rdId O.2).2 200).1⟩, (rdText (rdId O.2).2 200).2)
def changePar (b : List UInt8) : List ID × RSt := rdIds (rdNum (openSt b 3) 2).1 [] (rdNum (openSt b 3) 2).2
def changeOps (q : RSt) : List OpC × RSt := rdOps (rdNum (rdNum (rdNum q 1099511627776).2 65536).2 64).1 [] (rdNum (rdNum (rdNum q 1099511627776).2 65536).2 64).2
def changeRd (b : List UInt8) : ChangeC × RSt := changeRest (changePar b) (changeOps (changePar b).2)
def zeroChange : ChangeC := ⟨[], 0, 0, [], zeroId, ByteArray.empty⟩
def changeOf (b : List UInt8) : ChangeC × Int := if rdDone (changeRd b).2 = true ∧ changeOkC (changeRd b).1 = true then ((changeRd b).1, 0) else (zeroChange, 20)
section
variable {n k : Nat} {q rq rq2 : RSt} {b : List UInt8} {pacc : List ID} {oacc : List OpS} {x : OpS} {HI : List ID × RSt} {HO : List OpC × RSt}
theorem ids_next (h : rdIds (n - k) pacc q = HI) (hk : k < n) : rdIds (n - (k + 1)) (pacc ++ [(rdId q).1]) (rdId q).2 = HI := by
  rw [show n - k = (n - (k + 1)) + 1 from by omega] at h
  exact h
theorem ids_end (h : rdIds (n - k) pacc q = HI) (hk : n ≤ k) : (pacc, q) = HI := by
  rw [show n - k = 0 from by omega] at h
  exact h
theorem ops_next (h : rdOps (n - k) (oacc.map OpS.core) q = HO) (hk : k < n) (hx : x.core = (rdOp q).1) : rdOps (n - (k + 1)) ((oacc ++ [x]).map OpS.core) (rdOp q).2 = HO := by
  rw [show n - k = (n - (k + 1)) + 1 from by omega] at h
  rw [List.map_append, List.map_singleton, hx]
  exact h
theorem ops_end (h : rdOps (n - k) (oacc.map OpS.core) q = HO) (hk : n ≤ k) : (oacc.map OpS.core, q) = HO := by
  rw [show n - k = 0 from by omega] at h
  exact h
theorem change_rd (hP : (pacc, rq) = changePar b) (hO : (oacc.map OpS.core, rq2) = changeOps rq) : changeRest (pacc, rq) (oacc.map OpS.core, rq2) = changeRd b := by
  rw [changeRd, ← hP, hO]
theorem change_no {X : ChangeS} (hb : rdDone q = false ∨ changeOk X = false) (h : (X.core, q) = changeRd b) : (zeroChange, (20 : Int)) = changeOf b := by
  unfold changeOf
  rw [← h, if_neg]
  rintro ⟨h1, h2⟩
  rw [← changeOk_core] at h2
  rcases hb with hb | hb
  · rw [h1] at hb; cases hb
  · rw [h2] at hb; cases hb
theorem change_yes {X : ChangeS} (hb : rdDone q = true ∧ changeOk X = true) (h : (X.core, q) = changeRd b) : (X.core, (0 : Int)) = changeOf b := by
  unfold changeOf
  rw [← h, if_pos ⟨hb.1, by rw [← changeOk_core]; exact hb.2⟩]
end
def kindOf (b : List UInt8) : Int :=
  if b.length = 0 then 0
  else if (nth b 0).toNat = 1 then (if blobE b = 0 then 1 else 0)
  else if (nth b 0).toNat = 2 then (if (dirOf b).2 = 0 then 2 else 0)
  else if (nth b 0).toNat = 3 then (if (changeOf b).2 = 0 then 3 else 0)
  else if (nth b 0).toNat = 4 then (if (labelOf b).2 = 0 then 4 else 0)
  else 0
section
variable {b : List UInt8}
theorem kind_0 (h : ((b.length : Nat) : Int) = 0) : kindOf b = 0 := if_pos (by omega)
theorem kind_1 (h : ¬ ((b.length : Nat) : Int) = 0) (h1 : ((nth b 0).toNat : Int) = 1) : kindOf b = if blobE b = 0 then 1 else 0 := by
  rw [kindOf, if_neg (by omega), if_pos (by omega)]
theorem kind_2 (h : ¬ ((b.length : Nat) : Int) = 0) (h1 : ¬ ((nth b 0).toNat : Int) = 1) (h2 : ((nth b 0).toNat : Int) = 2) : kindOf b = if (dirOf b).2 = 0 then 2 else 0 := by
  rw [kindOf, if_neg (by omega), if_neg (by omega), if_pos (by omega)]
theorem kind_3 (h : ¬ ((b.length : Nat) : Int) = 0) (h1 : ¬ ((nth b 0).toNat : Int) = 1) (h2 : ¬ ((nth b 0).toNat : Int) = 2) (h3 : ((nth b 0).toNat : Int) = 3) : kindOf b = if (changeOf b).2 = 0 then 3 else 0 := by
  rw [kindOf, if_neg (by omega), if_neg (by omega), if_neg (by omega), if_pos (by omega)]
theorem kind_4 (h : ¬ ((b.length : Nat) : Int) = 0) (h1 : ¬ ((nth b 0).toNat : Int) = 1) (h2 : ¬ ((nth b 0).toNat : Int) = 2) (h3 : ¬ ((nth b 0).toNat : Int) = 3) (h4 : ((nth b 0).toNat : Int) = 4) : kindOf b = if (labelOf b).2 = 0 then 4 else 0 := by
  rw [kindOf, if_neg (by omega), if_neg (by omega), if_neg (by omega), if_neg (by omega), if_pos (by omega)]
theorem kind_5 (h : ¬ ((b.length : Nat) : Int) = 0) (h1 : ¬ ((nth b 0).toNat : Int) = 1) (h2 : ¬ ((nth b 0).toNat : Int) = 2) (h3 : ¬ ((nth b 0).toNat : Int) = 3) (h4 : ¬ ((nth b 0).toNat : Int) = 4) : kindOf b = 0 := by
  rw [kindOf, if_neg (by omega), if_neg (by omega), if_neg (by omega), if_neg (by omega), if_neg (by omega)]
end
theorem take_snoc {α : Type} [Inhabited α] {l : List α} {k : Nat} (hk : k < l.length) : l.take (k + 1) = l.take k ++ [nth l k] := by
  rw [List.take_succ_eq_append_getElem hk, nth_eq hk]
def lenTab : ByteArray := ⟨#[0, 1, 2, 2, 3, 3, 3, 3, 4, 4, 4, 4, 4, 4, 4, 4, 5, 5, 5, 5, 5, 5, 5, 5, 5, 5, 5, 5, 5, 5, 5, 5, 6, 6, 6, 6, 6, 6, 6, 6, 6, 6, 6, 6, 6, 6, 6, 6, 6, 6, 6, 6, 6, 6, 6, 6, 6, 6, 6, 6, 6, 6, 6, 6, 7, 7, 7, 7, 7, 7, 7, 7, 7, 7, 7, 7, 7, 7, 7, 7, 7, 7, 7, 7, 7, 7, 7, 7, 7, 7, 7, 7, 7, 7, 7, 7, 7, 7, 7, 7, 7, 7, 7, 7, 7, 7, 7, 7, 7, 7, 7, 7, 7, 7, 7, 7, 7, 7, 7, 7, 7, 7, 7, 7, 7, 7, 7, 7, 8, 8, 8, 8, 8, 8, 8, 8, 8, 8, 8, 8, 8, 8, 8, 8, 8, 8, 8, 8, 8, 8, 8, 8, 8, 8, 8, 8, 8, 8, 8, 8, 8, 8, 8, 8, 8, 8, 8, 8, 8, 8, 8, 8, 8, 8, 8, 8, 8, 8, 8, 8, 8, 8, 8, 8, 8, 8, 8, 8, 8, 8, 8, 8, 8, 8, 8, 8, 8, 8, 8, 8, 8, 8, 8, 8, 8, 8, 8, 8, 8, 8, 8, 8, 8, 8, 8, 8, 8, 8, 8, 8, 8, 8, 8, 8, 8, 8, 8, 8, 8, 8, 8, 8, 8, 8, 8, 8, 8, 8, 8, 8, 8, 8, 8, 8, 8, 8, 8, 8, 8, 8, 8, 8, 8, 8, 8, 8]⟩
set_option maxRecDepth 10000 in
theorem len01 {x : Nat} (h : x ≤ 1) : Value.int .i64 (0 + ((sbyte lenTab (UInt8.ofNat x).toNat).toNat : Int)) = Value.int .i64 ((x : Nat) : Int) := by
  have : x = 0 ∨ x = 1 := by omega
  rcases this with rfl | rfl <;> rfl
def itemIds (x : ItemC) : List ID := x.sub :: x.heads.map (·.data)
def linksRaw (b : List UInt8) : List ID :=
  if kindOf b = 2 then ((dirOf b).1.map itemIds).flatten
  else if kindOf b = 3 then (changeOf b).1.parents ++ [(changeOf b).1.tree] ++ (changeOf b).1.ops.map (·.data)
  else if kindOf b = 4 then [(labelOf b).1.target]
  else []
def rawTo (l : List ItemC) (k : Nat) : List ID := ((l.take k).map itemIds).flatten
section
variable {b : List UInt8} {acc acc2 : List ID} {l : List ItemS} {k j : Nat} {e : Int}
theorem rawTo_succ {l : List ItemC} {k : Nat} (hk : k < l.length) : rawTo l (k + 1) = rawTo l k ++ itemIds (nth l k) := by
  unfold rawTo
  rw [List.take_succ_eq_append_getElem hk, List.map_append, List.flatten_append, nth_eq hk]
  simp
theorem links_dir (hk : kindOf b = 2) (hr : (l.map ItemS.core, e) = dirOf b) : linksRaw b = rawTo (l.map ItemS.core) (l.map ItemS.core).length := by
  rw [linksRaw, if_pos hk, ← congrArg Prod.fst hr, rawTo, List.take_length]
theorem links_chg {X : ChangeS} (hk : kindOf b = 3) (hr : (X.core, e) = changeOf b) : linksRaw b = X.parents ++ [X.tree] ++ X.ops.map (·.data) := by
  rw [linksRaw, if_neg (by omega), if_pos hk, ← congrArg Prod.fst hr]
  show _ ++ (X.ops.map OpS.core).map _ = _
  rw [List.map_map]; rfl
theorem links_dirE (hk : kindOf b = 2) (hr : (l.map ItemS.core, e) = dirOf b) (ha : acc = rawTo (l.map ItemS.core) k) (he : k = l.length) : acc = linksRaw b := by
  rw [links_dir hk hr, ha, he, List.length_map]
theorem links_lab (hk : kindOf b = 4) : linksRaw b = [(labelOf b).1.target] := by
  rw [linksRaw, if_neg (by omega), if_neg (by omega), if_pos hk]
theorem links_none (h2 : ¬ kindOf b = 2) (h3 : ¬ kindOf b = 3) (h4 : ¬ kindOf b = 4) : linksRaw b = [] := by
  rw [linksRaw, if_neg h2, if_neg h3, if_neg h4]
end
end Go.Proofs.YthjdhfoeckfmbaaGreat
