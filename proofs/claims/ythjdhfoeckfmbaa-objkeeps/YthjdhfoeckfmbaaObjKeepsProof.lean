/- Proved: for every input, pollardlaw04.ObjKeeps returns true and leaves its arguments as they were. No condition. -/
import Derived.Test.YthjdhfoeckfmbaaRows
import Derived.JoinedOf
import Derived.Handed
import Derived.Test.YthjdhfoeckfmbaaX3
namespace Go.Proofs.Ythjdhfoeckfmbaa
open Go Go.ChangeShapes Go.WideShapes Go.RowKit Go.ChangeAt Go.Proofs.Ythjdhfoeckfmbaa
set_option linter.unusedVariables false
theorem cells49 : Try.prog.cellsOf 49 = 38 := by kernel_rfl
theorem cells46 : Try.prog.cellsOf 46 = 2 := by kernel_rfl
theorem cells9 : Try.prog.cellsOf 9 = 1 := by kernel_rfl
theorem cells25 : Try.prog.cellsOf 25 = 32 := by kernel_rfl
theorem cells47 : Try.prog.cellsOf 47 = 1 := by kernel_rfl
theorem cells2 : Try.prog.cellsOf 2 = 1 := by kernel_rfl
theorem cells3 : Try.prog.cellsOf 3 = 1 := by kernel_rfl
theorem rd46 (W : World) (R : Nat) : Rd Try.prog W R 46 (fun s : Stamp => (stampCh s).flatten) (Stamp.wf) := Rd_stamp Try.underlying46 cells46 rfl rfl cells2 cells3 Try.underlying2 Try.underlying3
theorem cells5 : Try.prog.cellsOf 5 = 1 := by kernel_rfl
theorem rd25 (W : World) (R : Nat) : Rd Try.prog W R 25 (fun d : ID => (idCh d).flatten) (fun _ => True) := Rd_id Try.underlying25 cells25 cells5 Try.underlying5
theorem cells51 : Try.prog.cellsOf 51 = 34 := by kernel_rfl
theorem rd51 (W : World) (R : Nat) : Rd Try.prog W R 51 (fun x : Head => (headCh x).flatten) (Head.wf) := Rd_head Try.underlying51 cells51 rfl rfl cells46 cells25 (rd46 W R) (rd25 W R)
theorem bytes51 : Try.prog.bytesOf 51 = 48 := by kernel_rfl
theorem rd47 (W : World) (R : Nat) : Rd Try.prog W R 47 (fun x : SlH × List Head => [slV x.1 x.2]) (fun x => Sl (Old W) headCh 34 x.1 x.2 W ∧ x.2.length * 48 ≤ R ∧ ∀ a ∈ x.2, (Head.wf) a) := Rd_slice Try.underlying47 cells51 bytes51 (by decide) (fun _ => rfl) (rd51 W R)
theorem rd49 (W : World) (R : Nat) : Rd Try.prog W R 49 (fun r : ItemS => (itemCh r).flatten) (ItemS.wf W R) := Rd_item Try.underlying49 cells49 ⟨rfl, rfl, rfl, rfl, rfl⟩ ⟨cells46, cells46, cells9, cells25, cells47⟩ (rd46 W R) (rd46 W R) Try.underlying9 (rd25 W R) (rd47 W R)
theorem bytes49 : Try.prog.bytesOf 49 = 104 := by kernel_rfl
theorem rd39 (W : World) (R : Nat) : Rd Try.prog W R 39 (fun x : SlH × List ItemS => [slV x.1 x.2]) (fun x => Sl (Old W) itemCh 38 x.1 x.2 W ∧ x.2.length * 104 ≤ R ∧ ∀ a ∈ x.2, (ItemS.wf W R) a) := Rd_slice Try.underlying39 cells49 bytes49 (by decide) (fun _ => rfl) (rd49 W R)
theorem cells27 : Try.prog.cellsOf 27 = 37 := by kernel_rfl
theorem cells22 : Try.prog.cellsOf 22 = 1 := by kernel_rfl
theorem cells23 : Try.prog.cellsOf 23 = 1 := by kernel_rfl
theorem bytes25 : Try.prog.bytesOf 25 = 32 := by kernel_rfl
theorem rd22 (W : World) (R : Nat) : Rd Try.prog W R 22 (fun x : SlH × List ID => [slV x.1 x.2]) (fun x => Sl (Old W) idCh 32 x.1 x.2 W ∧ x.2.length * 32 ≤ R ∧ ∀ a ∈ x.2, (fun _ => True) a) := Rd_slice Try.underlying22 cells25 bytes25 (by decide) (fun _ => rfl) (rd25 W R)
theorem cells56 : Try.prog.cellsOf 56 = 41 := by kernel_rfl
theorem cells54 : Try.prog.cellsOf 54 = 1 := by kernel_rfl
theorem bytes46 : Try.prog.bytesOf 46 = 16 := by kernel_rfl
theorem rd54 (W : World) (R : Nat) : Rd Try.prog W R 54 (fun x : SlH × List Stamp => [slV x.1 x.2]) (fun x => Sl (Old W) stampCh 2 x.1 x.2 W ∧ x.2.length * 16 ≤ R ∧ ∀ a ∈ x.2, (Stamp.wf) a) := Rd_slice Try.underlying54 cells46 bytes46 (by decide) (fun _ => rfl) (rd46 W R)
theorem rd56 (W : World) (R : Nat) : Rd Try.prog W R 56 (fun r : OpS => (opCh r).flatten) (OpS.wf W R) := Rd_op Try.underlying56 cells56 ⟨rfl, rfl, rfl, rfl, rfl, rfl, rfl⟩ ⟨cells3, cells46, cells46, cells46, cells9, cells25, cells54⟩ Try.underlying3 (rd46 W R) (rd46 W R) (rd46 W R) Try.underlying9 (rd25 W R) (rd54 W R)
theorem bytes56 : Try.prog.bytesOf 56 = 128 := by kernel_rfl
theorem rd23 (W : World) (R : Nat) : Rd Try.prog W R 23 (fun x : SlH × List OpS => [slV x.1 x.2]) (fun x => Sl (Old W) opCh 41 x.1 x.2 W ∧ x.2.length * 128 ≤ R ∧ ∀ a ∈ x.2, (OpS.wf W R) a) := Rd_slice Try.underlying23 cells56 bytes56 (by decide) (fun _ => rfl) (rd56 W R)
theorem rd27 (W : World) (R : Nat) : Rd Try.prog W R 27 (fun r : ChangeS => (changeCh r).flatten) (ChangeS.wf W R) := Rd_change Try.underlying27 cells27 ⟨rfl, rfl, rfl, rfl, rfl, rfl⟩ ⟨cells22, cells2, cells3, cells23, cells25, cells9⟩ (rd22 W R) Try.underlying2 Try.underlying3 (rd23 W R) (rd25 W R) Try.underlying9
theorem ownK : ownKnob Try.prog.godebug = none := by kernel_rfl
theorem laidK : laidOutB Try.prog = true := by kernel_rfl
theorem mapsK : mapsRowed Try.prog = true := by kernel_rfl
theorem fullK : ((List.range Try.prog.types.size).all fun t => match Try.prog.underlying t with | some (.slice e) => decide (0 < Try.prog.cellsOf e) | _ => true) = true := by kernel_rfl
set_option maxRecDepth 100000 in
theorem contract_ObjKeeps (H : Type) (enc : TypeId × Value → H) (W : World) (base : Nat) (args : Array Value) (ds gs : List (DataW H)) (before : List MemPlace)
    (hval : ∀ (j : Nat) t v, Try.f4.params[j]? = some t → args[j]? = some v → Value.okWide Try.prog W .any base t v)
    (hW : DataW.Whole enc Try.prog Try.f4.params.toList Rows.objKeepsSpec.vars false W args.toList ds gs before)
    (hwt : (DataW.weightsEach Try.prog (Try.f4.params.toList ++ Rows.objKeepsSpec.plain.varTypes Try.prog) (ds ++ gs)).all (· ≤ reachBytes) = true) :
    Calls Try.prog 4 args W fun e W' => ∃ v, e = .returned v ∧ Rows.objKeepsSpec.post enc Try.prog Try.f4 false true false false W args v W' := by
  have hW' := hW
  obtain ⟨p, q, hA0, hV, rfl, hfz, hnd⟩ := hW
  have hA : DataW.TrodAll enc Try.prog W 0 (fun _ => true) true Try.f4.params.toList args.toList ds p := hA0
  rw [Try.params4] at hA hval hwt
  obtain ⟨v0, vs0, d0, ds0, p0, q0, hargs0, rfl, rfl, h0, r0⟩ := trodAll_cons hA
  obtain ⟨v1, vs1, d1, ds1, p1, q1, hargs1, rfl, rfl, h1, r1⟩ := trodAll_cons r0
  obtain ⟨hvs, rfl, rfl⟩ := trodAll_nil r1
  obtain rfl : args = #[v0, v1] := by cases args; simp_all
  obtain ⟨rfl, rfl⟩ := trodVars_none hV
  have hwts : ∀ (i : Nat) (u : TypeId) (d : DataW H), [39, 27][i]? = some u → [d0, d1][i]? = some d → ∀ k ∈ d.weights Try.prog u, k ≤ reachBytes := fun i u d hu hd k hk =>
    of_decide_eq_true (List.all_eq_true.1 hwt k (weightsEach_get (i := i) (u := u) (d := d) (by rw [List.getElem?_append_left (by have := (List.getElem?_eq_some_iff.1 hu).1; exact this)]; exact hu) (by rw [List.getElem?_append_left (by have := (List.getElem?_eq_some_iff.1 hd).1; exact this)]; exact hd) k hk))
  obtain ⟨sa0, sb0, sc0, rfl⟩ := okWide_slice Try.underlying39 (hval 0 39 v0 rfl rfl)
  obtain ⟨⟨ha0, l0⟩, e0, ok0⟩ := Rd.arg1 (rd39 W reachBytes) h0 rfl (hwts 0 39 d0 rfl rfl)
  obtain ⟨x1, e1, ok1⟩ := Rd.argA (en := changeCh) (rd27 W reachBytes) h1 (let ⟨cs, h, _⟩ := okWide_struct Try.underlying27 (hval 1 27 v1 rfl rfl); ⟨cs, h⟩) (hwts 1 27 d1 rfl rfl)
  have hc := law04_ObjKeeps ha0 l0 x1 W ok0.1 (fun x hx => (ok0.2.2 x hx).2.2.2.2.1) ok1.1.1 ok1.2.2.2.1.1 (fun x hx => (ok1.2.2.2.1.2.2 x hx).2.2.2.2.2.2.1)
  rw [← e0] at hc
  rw [← e1] at hc
  refine hc.mono fun e W' ⟨v, he, hv, hx⟩ => ⟨v, he, ?_⟩
  subst hv
  exact post_law (bt := 4) rfl laidK mapsK fullK (by kernel_rfl) (by kernel_rfl) Try.underlying4 hW' rfl rfl rfl hx
set_option maxRecDepth 100000 in
theorem lifted_ObjKeeps (os : Os) (started : os.Started) (H : Type) (enc : TypeId × Value → H) : ReturnsInHanded {} Try.checked os 4 .any (Rows.objKeepsSpec.pre6 enc Try.prog Try.f4 Rows.objKeepsRow.domain false) (Rows.objKeepsSpec.post enc Try.prog Try.f4 false true false false) := by
  refine returnsInHanded_of_change_sized (C := Try.checked) ownK started (by kernel_rfl) Try.func4
    (ChangeSpec.witness6 (enc := enc) (C := Try.checked) false ⟨#[], #[.slice none 0 0, .agg #[.slice none 0 0, .int .i64 0, .int .i64 0, .slice none 0 0, .int .u8 0, .int .u8 0, .int .u8 0, .int .u8 0, .int .u8 0, .int .u8 0, .int .u8 0, .int .u8 0, .int .u8 0, .int .u8 0, .int .u8 0, .int .u8 0, .int .u8 0, .int .u8 0, .int .u8 0, .int .u8 0, .int .u8 0, .int .u8 0, .int .u8 0, .int .u8 0, .int .u8 0, .int .u8 0, .int .u8 0, .int .u8 0, .int .u8 0, .int .u8 0, .int .u8 0, .int .u8 0, .int .u8 0, .int .u8 0, .int .u8 0, .int .u8 0, .string ByteArray.empty]], []⟩ 8 (by kernel_rfl) (by kernel_rfl) (by kernel_rfl) (by kernel_rfl)) ?_
  intro W base args ds gs before hval hW _ hwt _
  exact contract_ObjKeeps H enc W base args ds gs before hval hW hwt
theorem holds_ObjKeeps : Rows.ObjKeepsSaid :=
  OpenClaim.holds_of_wide 4 Try.f4 rfl rfl rfl rfl rfl rfl rfl ⟨rfl, rfl, rfl, rfl, rfl⟩ rfl rfl rfl rfl rfl (by kernel_rfl) Try.func4 (by kernel_rfl)
    (of_decide_eq_true (by kernel_rfl)) (by unfold Func.isWrapper; first | (rw [if_pos (by decide +kernel)]; kernel_rfl) | (rw [if_neg (by decide +kernel)]; exact ⟨rfl, rfl⟩))
    (fun os started H enc _ => lifted_ObjKeeps os started H enc)
end Go.Proofs.Ythjdhfoeckfmbaa
