/- Proved: for every input, pollardlaw04.ObjDirs returns true and leaves its argument as it was. No condition. -/
import Derived.Test.YthjdhfoeckfmbaaGreatRows
import Derived.JoinedOf
import Derived.Handed
import Derived.Test.YthjdhfoeckfmbaaGreatX6
namespace Go.Proofs.YthjdhfoeckfmbaaGreat
open Go Go.ChangeShapes Go.WideShapes Go.RowKit Go.ChangeAt Go.Proofs.YthjdhfoeckfmbaaGreat
set_option linter.unusedVariables false
theorem cells77 : Tryz.prog.cellsOf 77 = 38 := by kernel_rfl
theorem cells69 : Tryz.prog.cellsOf 69 = 2 := by kernel_rfl
theorem cells9 : Tryz.prog.cellsOf 9 = 1 := by kernel_rfl
theorem cells45 : Tryz.prog.cellsOf 45 = 32 := by kernel_rfl
theorem cells75 : Tryz.prog.cellsOf 75 = 1 := by kernel_rfl
theorem cells2 : Tryz.prog.cellsOf 2 = 1 := by kernel_rfl
theorem cells3 : Tryz.prog.cellsOf 3 = 1 := by kernel_rfl
theorem rd69 (W : World) (R : Nat) : Rd Tryz.prog W R 69 (fun s : Stamp => (stampCh s).flatten) (Stamp.wf) := Rd_stamp Tryz.underlying69 cells69 rfl rfl cells2 cells3 Tryz.underlying2 Tryz.underlying3
theorem cells5 : Tryz.prog.cellsOf 5 = 1 := by kernel_rfl
theorem rd45 (W : World) (R : Nat) : Rd Tryz.prog W R 45 (fun d : ID => (idCh d).flatten) (fun _ => True) := Rd_id Tryz.underlying45 cells45 cells5 Tryz.underlying5
theorem cells84 : Tryz.prog.cellsOf 84 = 34 := by kernel_rfl
theorem rd84 (W : World) (R : Nat) : Rd Tryz.prog W R 84 (fun x : Head => (headCh x).flatten) (Head.wf) := Rd_head Tryz.underlying84 cells84 rfl rfl cells69 cells45 (rd69 W R) (rd45 W R)
theorem bytes84 : Tryz.prog.bytesOf 84 = 48 := by kernel_rfl
theorem rd75 (W : World) (R : Nat) : Rd Tryz.prog W R 75 (fun x : SlH × List Head => [slV x.1 x.2]) (fun x => Sl (Old W) headCh 34 x.1 x.2 W ∧ x.2.length * 48 ≤ R ∧ ∀ a ∈ x.2, (Head.wf) a) := Rd_slice Tryz.underlying75 cells84 bytes84 (by decide) (fun _ => rfl) (rd84 W R)
theorem rd77 (W : World) (R : Nat) : Rd Tryz.prog W R 77 (fun r : ItemS => (itemCh r).flatten) (ItemS.wf W R) := Rd_item Tryz.underlying77 cells77 ⟨rfl, rfl, rfl, rfl, rfl⟩ ⟨cells69, cells69, cells9, cells45, cells75⟩ (rd69 W R) (rd69 W R) Tryz.underlying9 (rd45 W R) (rd75 W R)
theorem bytes77 : Tryz.prog.bytesOf 77 = 104 := by kernel_rfl
theorem rd31 (W : World) (R : Nat) : Rd Tryz.prog W R 31 (fun x : SlH × List ItemS => [slV x.1 x.2]) (fun x => Sl (Old W) itemCh 38 x.1 x.2 W ∧ x.2.length * 104 ≤ R ∧ ∀ a ∈ x.2, (ItemS.wf W R) a) := Rd_slice Tryz.underlying31 cells77 bytes77 (by decide) (fun _ => rfl) (rd77 W R)
theorem ownK : ownKnob Tryz.prog.godebug = none := by kernel_rfl
theorem laidK : laidOutB Tryz.prog = true := by kernel_rfl
theorem mapsK : mapsRowed Tryz.prog = true := by kernel_rfl
theorem fullK : ((List.range Tryz.prog.types.size).all fun t => match Tryz.prog.underlying t with | some (.slice e) => decide (0 < Tryz.prog.cellsOf e) | _ => true) = true := by kernel_rfl
set_option maxRecDepth 100000 in
theorem contract_ObjDirs (H : Type) (enc : TypeId × Value → H) (W : World) (base : Nat) (args : Array Value) (ds gs : List (DataW H)) (before : List MemPlace)
    (hval : ∀ (j : Nat) t v, Tryz.f4.params[j]? = some t → args[j]? = some v → Value.okWide Tryz.prog W .any base t v)
    (hW : DataW.Whole enc Tryz.prog Tryz.f4.params.toList Rows.objDirsSpec.vars false W args.toList ds gs before)
    (hwt : (DataW.weightsEach Tryz.prog (Tryz.f4.params.toList ++ Rows.objDirsSpec.plain.varTypes Tryz.prog) (ds ++ gs)).all (· ≤ reachBytes) = true) :
    Calls Tryz.prog 4 args W fun e W' => ∃ v, e = .returned v ∧ Rows.objDirsSpec.post enc Tryz.prog Tryz.f4 false true false false W args v W' := by
  have hW' := hW
  obtain ⟨p, q, hA0, hV, rfl, hfz, hnd⟩ := hW
  have hA : DataW.TrodAll enc Tryz.prog W 0 (fun _ => true) true Tryz.f4.params.toList args.toList ds p := hA0
  rw [Tryz.params4] at hA hval hwt
  obtain ⟨v0, vs0, d0, ds0, p0, q0, hargs0, rfl, rfl, h0, r0⟩ := trodAll_cons hA
  obtain ⟨hvs, rfl, rfl⟩ := trodAll_nil r0
  obtain rfl : args = #[v0] := by cases args; simp_all
  obtain ⟨rfl, rfl⟩ := trodVars_none hV
  have hwts : ∀ (i : Nat) (u : TypeId) (d : DataW H), [31][i]? = some u → [d0][i]? = some d → ∀ k ∈ d.weights Tryz.prog u, k ≤ reachBytes := fun i u d hu hd k hk =>
    of_decide_eq_true (List.all_eq_true.1 hwt k (weightsEach_get (i := i) (u := u) (d := d) (by rw [List.getElem?_append_left (by have := (List.getElem?_eq_some_iff.1 hu).1; exact this)]; exact hu) (by rw [List.getElem?_append_left (by have := (List.getElem?_eq_some_iff.1 hd).1; exact this)]; exact hd) k hk))
  obtain ⟨sa0, sb0, sc0, rfl⟩ := okWide_slice Tryz.underlying31 (hval 0 31 v0 rfl rfl)
  obtain ⟨⟨ha0, l0⟩, e0, ok0⟩ := Rd.arg1 (rd31 W reachBytes) h0 rfl (hwts 0 31 d0 rfl rfl)
  have hc := law04_ObjDirs ha0 l0 W ok0.1 (fun x hx => (ok0.2.2 x hx).2.2.2.2.1) (fun x hx => Nat.le_trans (ok0.2.2 x hx).2.2.1 (by decide))
  rw [← e0] at hc
  refine hc.mono fun e W' ⟨v, he, hv, hx⟩ => ⟨v, he, ?_⟩
  subst hv
  exact post_law (bt := 4) rfl laidK mapsK fullK (by kernel_rfl) (by kernel_rfl) Tryz.underlying4 hW' rfl rfl rfl hx
set_option maxRecDepth 100000 in
theorem lifted_ObjDirs (os : Os) (started : os.Started) (H : Type) (enc : TypeId × Value → H) : ReturnsInHanded {} Tryz.checked os 4 .any (Rows.objDirsSpec.pre6 enc Tryz.prog Tryz.f4 Rows.objDirsRow.domain false) (Rows.objDirsSpec.post enc Tryz.prog Tryz.f4 false true false false) := by
  refine returnsInHanded_of_change_sized (C := Tryz.checked) ownK started (by kernel_rfl) Tryz.func4
    (ChangeSpec.witness6 (enc := enc) (C := Tryz.checked) false ⟨#[], #[.slice none 0 0], []⟩ 8 (by kernel_rfl) (by kernel_rfl) (by kernel_rfl) (by kernel_rfl)) ?_
  intro W base args ds gs before hval hW _ hwt _
  exact contract_ObjDirs H enc W base args ds gs before hval hW hwt
theorem holds_ObjDirs : Rows.ObjDirsSaid :=
  OpenClaim.holds_of_wide 4 Tryz.f4 rfl rfl rfl rfl rfl rfl rfl ⟨rfl, rfl, rfl, rfl, rfl⟩ rfl rfl rfl rfl rfl (by kernel_rfl) Tryz.func4 (by kernel_rfl)
    (of_decide_eq_true (by kernel_rfl)) (by unfold Func.isWrapper; first | (rw [if_pos (by decide +kernel)]; kernel_rfl) | (rw [if_neg (by decide +kernel)]; exact ⟨rfl, rfl⟩))
    (fun os started H enc _ => lifted_ObjDirs os started H enc)
end Go.Proofs.YthjdhfoeckfmbaaGreat
