/-
'InletNil': whatever the input, the Go function 'skiff/skifflaw19.InletNil' returns true, and the input reads as it did. Conditions: those of the given row alone.
-/
import Derived.Test.YtbbhjdopfpkhfaaRows
import Derived.WalkKit
import Derived.ProofKit
import Derived.OpenShut
import Derived.Deep.DeepHandedRow
import Derived.Lib.LaidTab
import Derived.Test.YtbbhjdopfpkhfaaAmShape
import Derived.Test.YtbbhjdopfpkhfaaInK
set_option linter.unusedSimpArgs false
set_option linter.unusedVariables false
set_option linter.unusedSectionVars false
set_option linter.unusedVariables false
set_option maxRecDepth 100000
namespace Go.Proofs.Ytbbhjdopfpkhfaa.rInletNil
open Go Go.ChangeShapes Go.WideShapes Go.ChangeAt Go.RowKit
theorem own : ownKnob Try.prog.godebug = none := by kernel_rfl
theorem gw {W : World} : Am.GW W Am.gl := Am.gw_dead
theorem shape31 {H : Type} {enc : TypeId × Value → H} {W : World} {base : Nat} : Am.Op enc Try.prog W base 31 (Am.Gs [(Am.GInt .u8), (Am.GInt .u64), (Am.GInt .i64), (Am.GSl .u8), Am.GBool, Am.GBool, (Am.GInt .u64)]) := by
  refine Am.op_st (Gl := [(Am.GInt .u8), (Am.GInt .u64), (Am.GInt .i64), (Am.GSl .u8), Am.GBool, Am.GBool, (Am.GInt .u64)]) Try.underlying31 (by kernel_rfl) (fun i f h => ?_) rfl (fun i f G h hg => ?_)
  · rcases i with _ | _ | _ | _ | _ | _ | _ | i
    · obtain rfl := Option.some.inj (show some _ = some f from h); exact ⟨rfl, by kernel_rfl⟩
    · obtain rfl := Option.some.inj (show some _ = some f from h); exact ⟨rfl, by kernel_rfl⟩
    · obtain rfl := Option.some.inj (show some _ = some f from h); exact ⟨rfl, by kernel_rfl⟩
    · obtain rfl := Option.some.inj (show some _ = some f from h); exact ⟨rfl, by kernel_rfl⟩
    · obtain rfl := Option.some.inj (show some _ = some f from h); exact ⟨rfl, by kernel_rfl⟩
    · obtain rfl := Option.some.inj (show some _ = some f from h); exact ⟨rfl, by kernel_rfl⟩
    · obtain rfl := Option.some.inj (show some _ = some f from h); exact ⟨rfl, by kernel_rfl⟩
    · simp at h
  · rcases i with _ | _ | _ | _ | _ | _ | _ | i
    · obtain rfl := Option.some.inj (show some _ = some f from h)
      obtain rfl := Option.some.inj (show some _ = some G from hg)
      exact (show Am.Op enc Try.prog W _ 5 (Am.GInt .u8) from Am.op_int Try.underlying5)
    · obtain rfl := Option.some.inj (show some _ = some f from h)
      obtain rfl := Option.some.inj (show some _ = some G from hg)
      exact (show Am.Op enc Try.prog W _ 29 (Am.GInt .u64) from Am.op_int Try.underlying29)
    · obtain rfl := Option.some.inj (show some _ = some f from h)
      obtain rfl := Option.some.inj (show some _ = some G from hg)
      exact (show Am.Op enc Try.prog W _ 3 (Am.GInt .i64) from Am.op_int Try.underlying3)
    · obtain rfl := Option.some.inj (show some _ = some f from h)
      obtain rfl := Option.some.inj (show some _ = some G from hg)
      exact (show Am.Op enc Try.prog W _ 22 (Am.GSl .u8) from Am.op_sl Try.underlying22 Try.underlying5 (by kernel_rfl))
    · obtain rfl := Option.some.inj (show some _ = some f from h)
      obtain rfl := Option.some.inj (show some _ = some G from hg)
      exact (show Am.Op enc Try.prog W _ 4 Am.GBool from Am.op_bool Try.underlying4)
    · obtain rfl := Option.some.inj (show some _ = some f from h)
      obtain rfl := Option.some.inj (show some _ = some G from hg)
      exact (show Am.Op enc Try.prog W _ 4 Am.GBool from Am.op_bool Try.underlying4)
    · obtain rfl := Option.some.inj (show some _ = some f from h)
      obtain rfl := Option.some.inj (show some _ = some G from hg)
      exact (show Am.Op enc Try.prog W _ 29 (Am.GInt .u64) from Am.op_int Try.underlying29)
    · simp at h
theorem contract (H : Type) (enc : TypeId × Value → H) (W : World) (base : Nat) (args : Array Value) (ds gs : List (DataW H)) (before : List MemPlace)
    (hval : ∀ (j : Nat) t v, Try.f6.params[j]? = some t → args[j]? = some v → Value.okWide Try.prog W .any base t v)
    (hW : DataW.Whole enc Try.prog Try.f6.params.toList Rows.inletNilSpec.vars false W args.toList ds gs before) (hL : laidMetH Try.prog Rows.inletNilRow.laid W) :
    Calls Try.prog 6 args W fun e W' => ∃ v, e = .returned v ∧ Rows.inletNilSpec.post enc Try.prog Try.f6 false true false false W args v W' := by
  have hW' := hW
  obtain ⟨p, q, hA0, hV, rfl, hfz, hnd⟩ := hW
  have hA : DataW.TrodAll enc Try.prog W 0 (fun _ => true) true Try.f6.params.toList args.toList ds p := hA0
  rw [Try.params6] at hA hval
  have ha0 : args.toList = args.toList := rfl
  obtain ⟨v0, vs0, d0, ds0, p0, q0, e0, rfl, rfl, h0, r0⟩ := trodAll_cons hA
  obtain ⟨rfl, rfl, rfl⟩ := trodAll_nil r0
  obtain rfl : args = #[v0] := by cases args; simp_all
  obtain ⟨rfl, rfl⟩ := trodVars_none hV
  obtain ⟨x0, a0, w0⟩ := Am.open_stt Try.underlying31 shape31 (hval 0 31 v0 rfl rfl) h0
  clear hA0
  have hD := Am.lawInletNil _ (⟨x0, rfl, w0⟩)
  refine (Am.law_at hD gw (.cons a0 .nil)).mono fun e W' ⟨he, hk⟩ => ⟨_, he, ?_⟩
  refine Am.post_true (t := 4) (by kernel_rfl) (by kernel_rfl) (by kernel_rfl) (fun t ht => ?_) Try.underlying4 (by kernel_rfl) rfl rfl (by simpa using hW') hk
  rw [Try.params6] at ht
  have : t ∈ [31] := ht
  have hsz : Try.prog.types.size = 129 := by kernel_rfl
  rw [hsz]
  simp only [List.mem_cons, List.not_mem_nil, or_false] at this
  rcases this with rfl <;> decide
noncomputable def laidWorld (os : Os) : World := World.holding Try.prog os ⟨#[], #[], []⟩
theorem laid_met (os : Os) : laidMet Try.prog Rows.inletNilRow.laid ((laidWorld os).forCall (fun _ _ => 0) ⟨#[], #[.agg #[.int .u8 0, .int .u64 0, .int .i64 0, .slice none 0 0, .bool false, .bool false, .int .u64 0]], []⟩).memory :=
  laidMet_of_run' 8 (by kernel_rfl) (by kernel_rfl)
theorem reads (os : Os) {H : Type} (enc : TypeId × Value → H) : ∃ places, DataW.whole enc Try.prog ((laidWorld os).forCall (fun _ _ => 0) ⟨#[], #[.agg #[.int .u8 0, .int .u64 0, .int .i64 0, .slice none 0 0, .bool false, .bool false, .int .u64 0]], []⟩).memory Try.f6.params.toList Rows.inletNilSpec.vars false (#[.agg #[.int .u8 0, .int .u64 0, .int .i64 0, .slice none 0 0, .bool false, .bool false, .int .u64 0]] : Array Value).toList 8 = some ([.agg [.lit (.int .u8 0), .lit (.int .u64 0), .lit (.int .i64 0), .nil, .lit (.bool false), .lit (.bool false), .lit (.int .u64 0)]], [], places) :=
  ⟨[], by kernel_rfl⟩
theorem lifted (os : Os) (started : os.Started) (H : Type) (enc : TypeId × Value → H) (F : Stop.Interp) :
    ReturnsInHanded {} Try.checked os 6 .any ((OpenSpec.ofChange Rows.inletNilSpec).preRow enc Try.prog Try.f6 Rows.inletNilRow.domain false Rows.inletNilRow.laid) (((OpenSpec.ofChange Rows.inletNilSpec).at F).post enc Try.prog Try.f6 false true false false) := by
  obtain ⟨places, hx⟩ := reads os enc
  refine returnsInHanded_of_row (C := Try.checked) (s := (OpenSpec.ofChange Rows.inletNilSpec)) own started (by kernel_rfl) Try.func6
    (witness_row_at (enc := enc) (C := Try.checked) false (laidWorld os) #[.agg #[.int .u8 0, .int .u64 0, .int .i64 0, .slice none 0 0, .bool false, .bool false, .int .u64 0]] rfl (by kernel_rfl) (by kernel_rfl) (by kernel_rfl)
      (OpenSpec.preRow_of_cond 8 hx (by kernel_rfl) (fun k hk => by cases hk) (by kernel_rfl) (laid_met os))) ?_
  intro W base args ds gs before hval hW _ _ _ hL _ _
  exact contract H enc W base args ds gs before hval hW hL
theorem said : Rows.InletNilSaid :=
  OpenClaim.holds_of_cond 6 Try.f6 rfl rfl rfl rfl rfl rfl rfl ⟨rfl, rfl, rfl, rfl, rfl⟩ rfl rfl rfl rfl rfl (by kernel_rfl) Try.func6 (by kernel_rfl)
    (of_decide_eq_true (by kernel_rfl)) (by unfold Func.isWrapper; first | (rw [if_pos (by decide +kernel)]; kernel_rfl) | (rw [if_neg (by decide +kernel)]; exact ⟨rfl, rfl⟩))
    (fun os started H enc _ F => by rw [OpenClaim.pre_eq_preRow]; exact lifted os started H enc F)
/-- The statement. -/
theorem holds : Rows.InletNilSaid := said
end Go.Proofs.Ytbbhjdopfpkhfaa.rInletNil
