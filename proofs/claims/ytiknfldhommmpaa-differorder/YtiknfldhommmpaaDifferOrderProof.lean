/- Proved: for every input, pollardlaw14.DifferOrder returns true and leaves its arguments as they were. No condition. -/
import Derived.Test.YtiknfldhommmpaaRows
import Derived.JoinedOf
import Derived.Handed
import Derived.Test.YtiknfldhommmpaaX6
namespace Go.Proofs.Ytiknfldhommmpaa
open Go Go.ChangeShapes Go.WideShapes Go.RowKit Go.ChangeAt Go.Proofs.Ytiknfldhommmpaa
set_option linter.unusedVariables false
theorem cells44 : Try.prog.cellsOf 44 = 8 := by kernel_rfl
theorem cells24 : Try.prog.cellsOf 24 = 2 := by kernel_rfl
theorem cells9 : Try.prog.cellsOf 9 = 1 := by kernel_rfl
theorem cells42 : Try.prog.cellsOf 42 = 1 := by kernel_rfl
theorem cells2 : Try.prog.cellsOf 2 = 1 := by kernel_rfl
theorem cells3 : Try.prog.cellsOf 3 = 1 := by kernel_rfl
theorem rd24 (W : World) (R : Nat) : Rd Try.prog W R 24 (fun s : Stamp => (stampCh s).flatten) (Stamp.wf) := Rd_stamp Try.underlying24 cells24 rfl rfl cells2 cells3 Try.underlying2 Try.underlying3
theorem cells62 : Try.prog.cellsOf 62 = 34 := by kernel_rfl
theorem cells36 : Try.prog.cellsOf 36 = 32 := by kernel_rfl
theorem cells5 : Try.prog.cellsOf 5 = 1 := by kernel_rfl
theorem rd36 (W : World) (R : Nat) : Rd Try.prog W R 36 (fun d : ID => (idCh d).flatten) (fun _ => True) := Rd_id Try.underlying36 cells36 cells5 Try.underlying5
theorem rd62 (W : World) (R : Nat) : Rd Try.prog W R 62 (fun x : Head => (headCh x).flatten) (Head.wf) := Rd_head Try.underlying62 cells62 rfl rfl cells24 cells36 (rd24 W R) (rd36 W R)
theorem bytes62 : Try.prog.bytesOf 62 = 48 := by kernel_rfl
theorem rd42 (W : World) (R : Nat) : Rd Try.prog W R 42 (fun x : SlH × List Head => [slV x.1 x.2]) (fun x => Sl (Old W) headCh 34 x.1 x.2 W ∧ x.2.length * 48 ≤ R ∧ ∀ a ∈ x.2, (Head.wf) a) := Rd_slice Try.underlying42 cells62 bytes62 (by decide) (fun _ => rfl) (rd62 W R)
theorem rd44 (W : World) (R : Nat) : Rd Try.prog W R 44 (fun r : RowS => (rowCh r).flatten) (RowS.wf W R) := Rd_row Try.underlying44 cells44 ⟨rfl, rfl, rfl, rfl, rfl⟩ ⟨cells24, cells24, cells24, cells9, cells42⟩ (rd24 W R) (rd24 W R) (rd24 W R) Try.underlying9 (rd42 W R)
theorem bytes44 : Try.prog.bytesOf 44 = 88 := by kernel_rfl
theorem rd22 (W : World) (R : Nat) : Rd Try.prog W R 22 (fun x : SlH × List RowS => [slV x.1 x.2]) (fun x => Sl (Old W) rowCh 8 x.1 x.2 W ∧ x.2.length * 88 ≤ R ∧ ∀ a ∈ x.2, (RowS.wf W R) a) := Rd_slice Try.underlying22 cells44 bytes44 (by decide) (fun _ => rfl) (rd44 W R)
theorem ownK : ownKnob Try.prog.godebug = none := by kernel_rfl
theorem laidK : laidOutB Try.prog = true := by kernel_rfl
theorem mapsK : mapsRowed Try.prog = true := by kernel_rfl
theorem fullK : ((List.range Try.prog.types.size).all fun t => match Try.prog.underlying t with | some (.slice e) => decide (0 < Try.prog.cellsOf e) | _ => true) = true := by kernel_rfl
set_option maxRecDepth 100000 in
theorem contract_DifferOrder (H : Type) (enc : TypeId × Value → H) (W : World) (base : Nat) (args : Array Value) (ds gs : List (DataW H)) (before : List MemPlace)
    (hval : ∀ (j : Nat) t v, Try.f4.params[j]? = some t → args[j]? = some v → Value.okWide Try.prog W .any base t v)
    (hW : DataW.Whole enc Try.prog Try.f4.params.toList Rows.differOrderSpec.vars false W args.toList ds gs before)
    (hwt : (DataW.weightsEach Try.prog (Try.f4.params.toList ++ Rows.differOrderSpec.plain.varTypes Try.prog) (ds ++ gs)).all (· ≤ reachBytes) = true) :
    Calls Try.prog 4 args W fun e W' => ∃ v, e = .returned v ∧ Rows.differOrderSpec.post enc Try.prog Try.f4 false true false false W args v W' := by
  have hW' := hW
  obtain ⟨p, q, hA0, hV, rfl, hfz, hnd⟩ := hW
  have hA : DataW.TrodAll enc Try.prog W 0 (fun _ => true) true Try.f4.params.toList args.toList ds p := hA0
  rw [Try.params4] at hA hval hwt
  obtain ⟨v0, vs0, d0, ds0, p0, q0, hargs0, rfl, rfl, h0, r0⟩ := trodAll_cons hA
  obtain ⟨v1, vs1, d1, ds1, p1, q1, hargs1, rfl, rfl, h1, r1⟩ := trodAll_cons r0
  obtain ⟨v2, vs2, d2, ds2, p2, q2, hargs2, rfl, rfl, h2, r2⟩ := trodAll_cons r1
  obtain ⟨hvs, rfl, rfl⟩ := trodAll_nil r2
  obtain rfl : args = #[v0, v1, v2] := by cases args; simp_all
  obtain ⟨rfl, rfl⟩ := trodVars_none hV
  have hwts : ∀ (i : Nat) (u : TypeId) (d : DataW H), [22, 22, 24][i]? = some u → [d0, d1, d2][i]? = some d → ∀ k ∈ d.weights Try.prog u, k ≤ reachBytes := fun i u d hu hd k hk =>
    of_decide_eq_true (List.all_eq_true.1 hwt k (weightsEach_get (i := i) (u := u) (d := d) (by rw [List.getElem?_append_left (by have := (List.getElem?_eq_some_iff.1 hu).1; exact this)]; exact hu) (by rw [List.getElem?_append_left (by have := (List.getElem?_eq_some_iff.1 hd).1; exact this)]; exact hd) k hk))
  obtain ⟨sa0, sb0, sc0, rfl⟩ := okWide_slice Try.underlying22 (hval 0 22 v0 rfl rfl)
  obtain ⟨⟨ha0, l0⟩, e0, ok0⟩ := Rd.arg1 (rd22 W reachBytes) h0 rfl (hwts 0 22 d0 rfl rfl)
  obtain ⟨sa1, sb1, sc1, rfl⟩ := okWide_slice Try.underlying22 (hval 1 22 v1 rfl rfl)
  obtain ⟨⟨ha1, l1⟩, e1, ok1⟩ := Rd.arg1 (rd22 W reachBytes) h1 rfl (hwts 1 22 d1 rfl rfl)
  obtain ⟨x2, e2, ok2⟩ := Rd.argA (en := stampCh) (rd24 W reachBytes) h2 (let ⟨cs, h, _⟩ := okWide_struct Try.underlying24 (hval 2 24 v2 rfl rfl); ⟨cs, h⟩) (hwts 2 24 d2 rfl rfl)
  have hc := law14_DifferOrder ha0 l0 ha1 l1 x2 W ok0.1 (fun x hx => (ok0.2.2 x hx).2.2.2.2.1) ok1.1 (fun x hx => (ok1.2.2 x hx).2.2.2.2.1) (fun x hx => Nat.le_trans (ok0.2.2 x hx).2.2.2.2.2.1 (by decide)) (fun x hx => Nat.le_trans (ok1.2.2 x hx).2.2.2.2.2.1 (by decide))
  rw [← e0] at hc
  rw [← e1] at hc
  rw [← e2] at hc
  refine hc.mono fun e W' ⟨v, he, hv, hx⟩ => ⟨v, he, ?_⟩
  subst hv
  exact post_law (bt := 4) rfl laidK mapsK fullK (by kernel_rfl) (by kernel_rfl) Try.underlying4 hW' rfl rfl rfl hx
set_option maxRecDepth 100000 in
theorem lifted_DifferOrder (os : Os) (started : os.Started) (H : Type) (enc : TypeId × Value → H) : ReturnsInHanded {} Try.checked os 4 .any (Rows.differOrderSpec.pre6 enc Try.prog Try.f4 Rows.differOrderRow.domain false) (Rows.differOrderSpec.post enc Try.prog Try.f4 false true false false) := by
  refine returnsInHanded_of_change_sized (C := Try.checked) ownK started (by kernel_rfl) Try.func4
    (ChangeSpec.witness6 (enc := enc) (C := Try.checked) false ⟨#[], #[.slice none 0 0, .slice none 0 0, .agg #[.int .i64 0, .int .i64 0]], []⟩ 8 (by kernel_rfl) (by kernel_rfl) (by kernel_rfl) (by kernel_rfl)) ?_
  intro W base args ds gs before hval hW _ hwt _
  exact contract_DifferOrder H enc W base args ds gs before hval hW hwt
theorem holds_DifferOrder : Rows.DifferOrderSaid :=
  OpenClaim.holds_of_wide 4 Try.f4 rfl rfl rfl rfl rfl rfl rfl ⟨rfl, rfl, rfl, rfl, rfl⟩ rfl rfl rfl rfl rfl (by kernel_rfl) Try.func4 (by kernel_rfl)
    (of_decide_eq_true (by kernel_rfl)) (by unfold Func.isWrapper; first | (rw [if_pos (by decide +kernel)]; kernel_rfl) | (rw [if_neg (by decide +kernel)]; exact ⟨rfl, rfl⟩))
    (fun os started H enc _ => lifted_DifferOrder os started H enc)
end Go.Proofs.Ytiknfldhommmpaa
