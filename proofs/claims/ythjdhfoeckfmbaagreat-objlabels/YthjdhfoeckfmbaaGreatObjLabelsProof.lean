/- Proved: for every input, pollardlaw04.ObjLabels returns true and leaves its argument as it was. No condition. -/
import Derived.Test.YthjdhfoeckfmbaaGreatRows
import Derived.JoinedOf
import Derived.Handed
import Derived.Test.YthjdhfoeckfmbaaGreatX6
namespace Go.Proofs.YthjdhfoeckfmbaaGreat
open Go Go.ChangeShapes Go.WideShapes Go.RowKit Go.ChangeAt Go.Proofs.YthjdhfoeckfmbaaGreat
set_option linter.unusedVariables false
theorem cells55 : Tryz.prog.cellsOf 55 = 34 := by kernel_rfl
theorem cells45 : Tryz.prog.cellsOf 45 = 32 := by kernel_rfl
theorem cells9 : Tryz.prog.cellsOf 9 = 1 := by kernel_rfl
theorem cells5 : Tryz.prog.cellsOf 5 = 1 := by kernel_rfl
theorem rd45 (W : World) (R : Nat) : Rd Tryz.prog W R 45 (fun d : ID => (idCh d).flatten) (fun _ => True) := Rd_id Tryz.underlying45 cells45 cells5 Tryz.underlying5
theorem rd55 (W : World) (R : Nat) : Rd Tryz.prog W R 55 (fun r : Label => (labelCh r).flatten) (Label.wf R) := Rd_label Tryz.underlying55 cells55 ⟨rfl, rfl, rfl⟩ ⟨cells45, cells9, cells9⟩ (rd45 W R) Tryz.underlying9 Tryz.underlying9
theorem ownK : ownKnob Tryz.prog.godebug = none := by kernel_rfl
theorem laidK : laidOutB Tryz.prog = true := by kernel_rfl
theorem mapsK : mapsRowed Tryz.prog = true := by kernel_rfl
theorem fullK : ((List.range Tryz.prog.types.size).all fun t => match Tryz.prog.underlying t with | some (.slice e) => decide (0 < Tryz.prog.cellsOf e) | _ => true) = true := by kernel_rfl
set_option maxRecDepth 100000 in
theorem contract_ObjLabels (H : Type) (enc : TypeId × Value → H) (W : World) (base : Nat) (args : Array Value) (ds gs : List (DataW H)) (before : List MemPlace)
    (hval : ∀ (j : Nat) t v, Tryz.f6.params[j]? = some t → args[j]? = some v → Value.okWide Tryz.prog W .any base t v)
    (hW : DataW.Whole enc Tryz.prog Tryz.f6.params.toList Rows.objLabelsSpec.vars false W args.toList ds gs before)
    (hwt : (DataW.weightsEach Tryz.prog (Tryz.f6.params.toList ++ Rows.objLabelsSpec.plain.varTypes Tryz.prog) (ds ++ gs)).all (· ≤ reachBytes) = true) :
    Calls Tryz.prog 6 args W fun e W' => ∃ v, e = .returned v ∧ Rows.objLabelsSpec.post enc Tryz.prog Tryz.f6 false true false false W args v W' := by
  have hW' := hW
  obtain ⟨p, q, hA0, hV, rfl, hfz, hnd⟩ := hW
  have hA : DataW.TrodAll enc Tryz.prog W 0 (fun _ => true) true Tryz.f6.params.toList args.toList ds p := hA0
  rw [Tryz.params6] at hA hval hwt
  obtain ⟨v0, vs0, d0, ds0, p0, q0, hargs0, rfl, rfl, h0, r0⟩ := trodAll_cons hA
  obtain ⟨hvs, rfl, rfl⟩ := trodAll_nil r0
  obtain rfl : args = #[v0] := by cases args; simp_all
  obtain ⟨rfl, rfl⟩ := trodVars_none hV
  have hwts : ∀ (i : Nat) (u : TypeId) (d : DataW H), [55][i]? = some u → [d0][i]? = some d → ∀ k ∈ d.weights Tryz.prog u, k ≤ reachBytes := fun i u d hu hd k hk =>
    of_decide_eq_true (List.all_eq_true.1 hwt k (weightsEach_get (i := i) (u := u) (d := d) (by rw [List.getElem?_append_left (by have := (List.getElem?_eq_some_iff.1 hu).1; exact this)]; exact hu) (by rw [List.getElem?_append_left (by have := (List.getElem?_eq_some_iff.1 hd).1; exact this)]; exact hd) k hk))
  obtain ⟨x0, e0, ok0⟩ := Rd.argA (en := labelCh) (rd55 W reachBytes) h0 (let ⟨cs, h, _⟩ := okWide_struct Tryz.underlying55 (hval 0 55 v0 rfl rfl); ⟨cs, h⟩) (hwts 0 55 d0 rfl rfl)
  have hc := law04_ObjLabels x0 W (Nat.le_trans ok0.2.1 (by decide))
  rw [← e0] at hc
  refine hc.mono fun e W' ⟨v, he, hv, hx⟩ => ⟨v, he, ?_⟩
  subst hv
  exact post_law (bt := 4) rfl laidK mapsK fullK (by kernel_rfl) (by kernel_rfl) Tryz.underlying4 hW' rfl rfl rfl hx
set_option maxRecDepth 100000 in
theorem lifted_ObjLabels (os : Os) (started : os.Started) (H : Type) (enc : TypeId × Value → H) : ReturnsInHanded {} Tryz.checked os 6 .any (Rows.objLabelsSpec.pre6 enc Tryz.prog Tryz.f6 Rows.objLabelsRow.domain false) (Rows.objLabelsSpec.post enc Tryz.prog Tryz.f6 false true false false) := by
  refine returnsInHanded_of_change_sized (C := Tryz.checked) ownK started (by kernel_rfl) Tryz.func6
    (ChangeSpec.witness6 (enc := enc) (C := Tryz.checked) false ⟨#[], #[.agg #[.int .u8 0, .int .u8 0, .int .u8 0, .int .u8 0, .int .u8 0, .int .u8 0, .int .u8 0, .int .u8 0, .int .u8 0, .int .u8 0, .int .u8 0, .int .u8 0, .int .u8 0, .int .u8 0, .int .u8 0, .int .u8 0, .int .u8 0, .int .u8 0, .int .u8 0, .int .u8 0, .int .u8 0, .int .u8 0, .int .u8 0, .int .u8 0, .int .u8 0, .int .u8 0, .int .u8 0, .int .u8 0, .int .u8 0, .int .u8 0, .int .u8 0, .int .u8 0, .string ByteArray.empty, .string ByteArray.empty]], []⟩ 8 (by kernel_rfl) (by kernel_rfl) (by kernel_rfl) (by kernel_rfl)) ?_
  intro W base args ds gs before hval hW _ hwt _
  exact contract_ObjLabels H enc W base args ds gs before hval hW hwt
theorem holds_ObjLabels : Rows.ObjLabelsSaid :=
  OpenClaim.holds_of_wide 6 Tryz.f6 rfl rfl rfl rfl rfl rfl rfl ⟨rfl, rfl, rfl, rfl, rfl⟩ rfl rfl rfl rfl rfl (by kernel_rfl) Tryz.func6 (by kernel_rfl)
    (of_decide_eq_true (by kernel_rfl)) (by unfold Func.isWrapper; first | (rw [if_pos (by decide +kernel)]; kernel_rfl) | (rw [if_neg (by decide +kernel)]; exact ⟨rfl, rfl⟩))
    (fun os started H enc _ => lifted_ObjLabels os started H enc)
end Go.Proofs.YthjdhfoeckfmbaaGreat
