/- Proved: for every input, pollardlaw04.ObjLinks returns true and leaves its arguments as they were. No condition. -/
import Derived.Test.YthjdhfoeckfmbaaGreatRows
import Derived.JoinedOf
import Derived.Handed
import Derived.Test.YthjdhfoeckfmbaaGreatX4
namespace Go.Proofs.YthjdhfoeckfmbaaGreat
open Go Go.ChangeShapes Go.WideShapes Go.RowKit Go.ChangeAt Go.Proofs.YthjdhfoeckfmbaaGreat
set_option linter.unusedVariables false
theorem cells47 : Tryz.prog.cellsOf 47 = 37 := by kernel_rfl
theorem cells39 : Tryz.prog.cellsOf 39 = 1 := by kernel_rfl
theorem cells2 : Tryz.prog.cellsOf 2 = 1 := by kernel_rfl
theorem cells3 : Tryz.prog.cellsOf 3 = 1 := by kernel_rfl
theorem cells43 : Tryz.prog.cellsOf 43 = 1 := by kernel_rfl
theorem cells45 : Tryz.prog.cellsOf 45 = 32 := by kernel_rfl
theorem cells9 : Tryz.prog.cellsOf 9 = 1 := by kernel_rfl
theorem cells5 : Tryz.prog.cellsOf 5 = 1 := by kernel_rfl
theorem rd45 (W : World) (R : Nat) : Rd Tryz.prog W R 45 (fun d : ID => (idCh d).flatten) (fun _ => True) := Rd_id Tryz.underlying45 cells45 cells5 Tryz.underlying5
theorem bytes45 : Tryz.prog.bytesOf 45 = 32 := by kernel_rfl
theorem rd39 (W : World) (R : Nat) : Rd Tryz.prog W R 39 (fun x : SlH × List ID => [slV x.1 x.2]) (fun x => Sl (Old W) idCh 32 x.1 x.2 W ∧ x.2.length * 32 ≤ R ∧ ∀ a ∈ x.2, (fun _ => True) a) := Rd_slice Tryz.underlying39 cells45 bytes45 (by decide) (fun _ => rfl) (rd45 W R)
theorem cells72 : Tryz.prog.cellsOf 72 = 41 := by kernel_rfl
theorem cells69 : Tryz.prog.cellsOf 69 = 2 := by kernel_rfl
theorem cells70 : Tryz.prog.cellsOf 70 = 1 := by kernel_rfl
theorem rd69 (W : World) (R : Nat) : Rd Tryz.prog W R 69 (fun s : Stamp => (stampCh s).flatten) (Stamp.wf) := Rd_stamp Tryz.underlying69 cells69 rfl rfl cells2 cells3 Tryz.underlying2 Tryz.underlying3
theorem bytes69 : Tryz.prog.bytesOf 69 = 16 := by kernel_rfl
theorem rd70 (W : World) (R : Nat) : Rd Tryz.prog W R 70 (fun x : SlH × List Stamp => [slV x.1 x.2]) (fun x => Sl (Old W) stampCh 2 x.1 x.2 W ∧ x.2.length * 16 ≤ R ∧ ∀ a ∈ x.2, (Stamp.wf) a) := Rd_slice Tryz.underlying70 cells69 bytes69 (by decide) (fun _ => rfl) (rd69 W R)
theorem rd72 (W : World) (R : Nat) : Rd Tryz.prog W R 72 (fun r : OpS => (opCh r).flatten) (OpS.wf W R) := Rd_op Tryz.underlying72 cells72 ⟨rfl, rfl, rfl, rfl, rfl, rfl, rfl⟩ ⟨cells3, cells69, cells69, cells69, cells9, cells45, cells70⟩ Tryz.underlying3 (rd69 W R) (rd69 W R) (rd69 W R) Tryz.underlying9 (rd45 W R) (rd70 W R)
theorem bytes72 : Tryz.prog.bytesOf 72 = 128 := by kernel_rfl
theorem rd43 (W : World) (R : Nat) : Rd Tryz.prog W R 43 (fun x : SlH × List OpS => [slV x.1 x.2]) (fun x => Sl (Old W) opCh 41 x.1 x.2 W ∧ x.2.length * 128 ≤ R ∧ ∀ a ∈ x.2, (OpS.wf W R) a) := Rd_slice Tryz.underlying43 cells72 bytes72 (by decide) (fun _ => rfl) (rd72 W R)
theorem rd47 (W : World) (R : Nat) : Rd Tryz.prog W R 47 (fun r : ChangeS => (changeCh r).flatten) (ChangeS.wf W R) := Rd_change Tryz.underlying47 cells47 ⟨rfl, rfl, rfl, rfl, rfl, rfl⟩ ⟨cells39, cells2, cells3, cells43, cells45, cells9⟩ (rd39 W R) Tryz.underlying2 Tryz.underlying3 (rd43 W R) (rd45 W R) Tryz.underlying9
theorem rd5 (W : World) (R : Nat) : Rd Tryz.prog W R 5 (fun b : UInt8 => (encB b).flatten) (fun _ => True) := Rd_byte Tryz.underlying5
theorem bytes5 : Tryz.prog.bytesOf 5 = 1 := by kernel_rfl
theorem rd22 (W : World) (R : Nat) : Rd Tryz.prog W R 22 (fun x : SlH × List UInt8 => [slV x.1 x.2]) (fun x => Sl (Old W) encB 1 x.1 x.2 W ∧ x.2.length * 1 ≤ R ∧ ∀ a ∈ x.2, (fun _ => True) a) := Rd_slice Tryz.underlying22 cells5 bytes5 (by decide) (fun _ => rfl) (rd5 W R)
theorem ownK : ownKnob Tryz.prog.godebug = none := by kernel_rfl
theorem laidK : laidOutB Tryz.prog = true := by kernel_rfl
theorem mapsK : mapsRowed Tryz.prog = true := by kernel_rfl
theorem fullK : ((List.range Tryz.prog.types.size).all fun t => match Tryz.prog.underlying t with | some (.slice e) => decide (0 < Tryz.prog.cellsOf e) | _ => true) = true := by kernel_rfl
set_option maxRecDepth 100000 in
theorem contract_ObjLinks (H : Type) (enc : TypeId × Value → H) (W : World) (base : Nat) (args : Array Value) (ds gs : List (DataW H)) (before : List MemPlace)
    (hval : ∀ (j : Nat) t v, Tryz.f8.params[j]? = some t → args[j]? = some v → Value.okWide Tryz.prog W .any base t v)
    (hW : DataW.Whole enc Tryz.prog Tryz.f8.params.toList Rows.objLinksSpec.vars false W args.toList ds gs before)
    (hwt : (DataW.weightsEach Tryz.prog (Tryz.f8.params.toList ++ Rows.objLinksSpec.plain.varTypes Tryz.prog) (ds ++ gs)).all (· ≤ reachBytes) = true) :
    Calls Tryz.prog 8 args W fun e W' => ∃ v, e = .returned v ∧ Rows.objLinksSpec.post enc Tryz.prog Tryz.f8 false true false false W args v W' := by
  have hW' := hW
  obtain ⟨p, q, hA0, hV, rfl, hfz, hnd⟩ := hW
  have hA : DataW.TrodAll enc Tryz.prog W 0 (fun _ => true) true Tryz.f8.params.toList args.toList ds p := hA0
  rw [Tryz.params8] at hA hval hwt
  obtain ⟨v0, vs0, d0, ds0, p0, q0, hargs0, rfl, rfl, h0, r0⟩ := trodAll_cons hA
  obtain ⟨v1, vs1, d1, ds1, p1, q1, hargs1, rfl, rfl, h1, r1⟩ := trodAll_cons r0
  obtain ⟨hvs, rfl, rfl⟩ := trodAll_nil r1
  obtain rfl : args = #[v0, v1] := by cases args; simp_all
  obtain ⟨rfl, rfl⟩ := trodVars_none hV
  have hwts : ∀ (i : Nat) (u : TypeId) (d : DataW H), [47, 22][i]? = some u → [d0, d1][i]? = some d → ∀ k ∈ d.weights Tryz.prog u, k ≤ reachBytes := fun i u d hu hd k hk =>
    of_decide_eq_true (List.all_eq_true.1 hwt k (weightsEach_get (i := i) (u := u) (d := d) (by rw [List.getElem?_append_left (by have := (List.getElem?_eq_some_iff.1 hu).1; exact this)]; exact hu) (by rw [List.getElem?_append_left (by have := (List.getElem?_eq_some_iff.1 hd).1; exact this)]; exact hd) k hk))
  obtain ⟨x0, e0, ok0⟩ := Rd.argA (en := changeCh) (rd47 W reachBytes) h0 (let ⟨cs, h, _⟩ := okWide_struct Tryz.underlying47 (hval 0 47 v0 rfl rfl); ⟨cs, h⟩) (hwts 0 47 d0 rfl rfl)
  obtain ⟨sa1, sb1, sc1, rfl⟩ := okWide_slice Tryz.underlying22 (hval 1 22 v1 rfl rfl)
  obtain ⟨⟨ha1, l1⟩, e1, ok1⟩ := Rd.arg1 (rd22 W reachBytes) h1 rfl (hwts 1 22 d1 rfl rfl)
  have hc := law04_ObjLinks x0 ha1 l1 W ok0.1.1 ok0.2.2.2.1.1 (fun x hx => (ok0.2.2.2.1.2.2 x hx).2.2.2.2.2.2.1) ok1.1
  rw [← e0] at hc
  rw [← e1] at hc
  refine hc.mono fun e W' ⟨v, he, hv, hx⟩ => ⟨v, he, ?_⟩
  subst hv
  exact post_law (bt := 4) rfl laidK mapsK fullK (by kernel_rfl) (by kernel_rfl) Tryz.underlying4 hW' rfl rfl rfl hx
set_option maxRecDepth 100000 in
theorem lifted_ObjLinks (os : Os) (started : os.Started) (H : Type) (enc : TypeId × Value → H) : ReturnsInHanded {} Tryz.checked os 8 .any (Rows.objLinksSpec.pre6 enc Tryz.prog Tryz.f8 Rows.objLinksRow.domain false) (Rows.objLinksSpec.post enc Tryz.prog Tryz.f8 false true false false) := by
  refine returnsInHanded_of_change_sized (C := Tryz.checked) ownK started (by kernel_rfl) Tryz.func8
    (ChangeSpec.witness6 (enc := enc) (C := Tryz.checked) false ⟨#[], #[.agg #[.slice none 0 0, .int .i64 0, .int .i64 0, .slice none 0 0, .int .u8 0, .int .u8 0, .int .u8 0, .int .u8 0, .int .u8 0, .int .u8 0, .int .u8 0, .int .u8 0, .int .u8 0, .int .u8 0, .int .u8 0, .int .u8 0, .int .u8 0, .int .u8 0, .int .u8 0, .int .u8 0, .int .u8 0, .int .u8 0, .int .u8 0, .int .u8 0, .int .u8 0, .int .u8 0, .int .u8 0, .int .u8 0, .int .u8 0, .int .u8 0, .int .u8 0, .int .u8 0, .int .u8 0, .int .u8 0, .int .u8 0, .int .u8 0, .string ByteArray.empty], .slice none 0 0], []⟩ 8 (by kernel_rfl) (by kernel_rfl) (by kernel_rfl) (by kernel_rfl)) ?_
  intro W base args ds gs before hval hW _ hwt _
  exact contract_ObjLinks H enc W base args ds gs before hval hW hwt
theorem holds_ObjLinks : Rows.ObjLinksSaid :=
  OpenClaim.holds_of_wide 8 Tryz.f8 rfl rfl rfl rfl rfl rfl rfl ⟨rfl, rfl, rfl, rfl, rfl⟩ rfl rfl rfl rfl rfl (by kernel_rfl) Tryz.func8 (by kernel_rfl)
    (of_decide_eq_true (by kernel_rfl)) (by unfold Func.isWrapper; first | (rw [if_pos (by decide +kernel)]; kernel_rfl) | (rw [if_neg (by decide +kernel)]; exact ⟨rfl, rfl⟩))
    (fun os started H enc _ => lifted_ObjLinks os started H enc)
end Go.Proofs.YthjdhfoeckfmbaaGreat
