/-
'GcmOpens': whatever the input, the Go function 'skiff/skifflaw09.GcmOpens' returns true, and the input reads as it did. Conditions: those of the given row alone.
-/
import Derived.Test.YtbmdhkfdigeebaaRows
import Derived.WalkKit
import Derived.ProofKit
import Derived.OpenShut
import Derived.Deep.DeepHandedRow
import Derived.Lib.LaidTab
import Derived.Test.YtbmdhkfdigeebaaAmRow
import Derived.Test.YtbmdhkfdigeebaaGcM
set_option linter.unusedSimpArgs false
set_option linter.unusedVariables false
set_option linter.unusedSectionVars false
set_option linter.unusedVariables false
set_option maxRecDepth 100000
namespace Go.Proofs.Ytbmdhkfdigeebaa.rGcmOpens
open Go Go.ChangeShapes Go.WideShapes Go.ChangeAt Go.RowKit
theorem own : ownKnob Try.prog.godebug = none := by kernel_rfl
theorem gw {W : World} : Am.GW W Am.gl := Am.gw_dead
theorem contract (H : Type) (enc : TypeId × Value → H) (W : World) (base : Nat) (args : Array Value) (ds gs : List (DataW H)) (before : List MemPlace)
    (hval : ∀ (j : Nat) t v, Try.f10.params[j]? = some t → args[j]? = some v → Value.okWide Try.prog W .any base t v)
    (hW : DataW.Whole enc Try.prog Try.f10.params.toList Rows.gcmOpensSpec.vars false W args.toList ds gs before) (hL : laidMetH Try.prog Rows.gcmOpensRow.laid W) :
    Calls Try.prog 10 args W fun e W' => ∃ v, e = .returned v ∧ Rows.gcmOpensSpec.post enc Try.prog Try.f10 false true false false W args v W' := by
  have hW' := hW
  obtain ⟨p, q, hA0, hV, rfl, hfz, hnd⟩ := hW
  have hA : DataW.TrodAll enc Try.prog W 0 (fun _ => true) true Try.f10.params.toList args.toList ds p := hA0
  rw [Try.params10] at hA hval
  have ha0 : args.toList = args.toList := rfl
  obtain ⟨v0, vs0, d0, ds0, p0, q0, e0, rfl, rfl, h0, r0⟩ := trodAll_cons hA
  obtain ⟨v1, vs1, d1, ds1, p1, q1, e1, rfl, rfl, h1, r1⟩ := trodAll_cons r0
  obtain ⟨v2, vs2, d2, ds2, p2, q2, e2, rfl, rfl, h2, r2⟩ := trodAll_cons r1
  obtain ⟨v3, vs3, d3, ds3, p3, q3, e3, rfl, rfl, h3, r3⟩ := trodAll_cons r2
  obtain ⟨v4, vs4, d4, ds4, p4, q4, e4, rfl, rfl, h4, r4⟩ := trodAll_cons r3
  obtain ⟨rfl, rfl, rfl⟩ := trodAll_nil r4
  subst e4
  subst e3
  subst e2
  subst e1
  obtain rfl : args = #[v0, v1, v2, v3, v4] := by cases args; simp_all
  obtain ⟨rfl, rfl⟩ := trodVars_none hV
  obtain ⟨x0, a0, w0, l0⟩ := Am.open_arr Try.underlying22 Try.underlying5 (by kernel_rfl) (by kernel_rfl) (hval 0 22 v0 rfl rfl) h0
  obtain ⟨x1, a1, w1, l1⟩ := Am.open_arr Try.underlying37 Try.underlying5 (by kernel_rfl) (by kernel_rfl) (hval 1 37 v1 rfl rfl) h1
  obtain ⟨x2, a2, w2, l2⟩ := Am.open_sl Try.underlying27 Try.underlying5 (by kernel_rfl) (hval 2 27 v2 rfl rfl) h2
  obtain ⟨x3, a3, w3, l3⟩ := Am.open_sl Try.underlying27 Try.underlying5 (by kernel_rfl) (hval 3 27 v3 rfl rfl) h3
  obtain ⟨x4, a4⟩ := Am.open_b Try.underlying4 (hval 4 4 v4 rfl rfl) h4
  clear hA0
  have hD := Am.lawGcmOpens _ (⟨_, _, _, _, x4, rfl, ⟨l0, Am.dig_u8 w0⟩, ⟨l1, Am.dig_u8 w1⟩, Am.dig_u8 w2, Am.dig_u8 w3⟩)
  refine (Am.law_at hD gw (.cons a0 (.cons a1 (.cons a2 (.cons a3 (.cons a4 .nil)))))).mono fun e W' ⟨he, hk⟩ => ⟨_, he, ?_⟩
  refine Am.post_true (t := 4) (by kernel_rfl) (by kernel_rfl) (by kernel_rfl) (fun t ht => ?_) Try.underlying4 (by kernel_rfl) rfl rfl (by simpa using hW') hk
  rw [Try.params10] at ht
  have : t ∈ [22, 37, 27, 27, 4] := ht
  have hsz : Try.prog.types.size = 90 := by kernel_rfl
  rw [hsz]
  simp only [List.mem_cons, List.not_mem_nil, or_false] at this
  rcases this with rfl | rfl | rfl | rfl | rfl <;> decide
noncomputable def laidWorld (os : Os) : World := World.holding Try.prog os ⟨#[], #[], []⟩
theorem laid_met (os : Os) : laidMet Try.prog Rows.gcmOpensRow.laid ((laidWorld os).forCall (fun _ _ => 0) ⟨#[], #[.agg (Array.replicate 16 (.int .u8 0)), .agg (Array.replicate 12 (.int .u8 0)), .slice none 0 0, .slice none 0 0, .bool false], []⟩).memory :=
  laidMet_of_run' 8 (by kernel_rfl) (by kernel_rfl)
theorem reads (os : Os) {H : Type} (enc : TypeId × Value → H) : ∃ places, DataW.whole enc Try.prog ((laidWorld os).forCall (fun _ _ => 0) ⟨#[], #[.agg (Array.replicate 16 (.int .u8 0)), .agg (Array.replicate 12 (.int .u8 0)), .slice none 0 0, .slice none 0 0, .bool false], []⟩).memory Try.f10.params.toList Rows.gcmOpensSpec.vars false (#[.agg (Array.replicate 16 (.int .u8 0)), .agg (Array.replicate 12 (.int .u8 0)), .slice none 0 0, .slice none 0 0, .bool false] : Array Value).toList 8 = some ([.agg (List.replicate 16 (.lit (.int .u8 0))), .agg (List.replicate 12 (.lit (.int .u8 0))), .nil, .nil, .lit (.bool false)], [], places) :=
  ⟨[], by kernel_rfl⟩
theorem lifted (os : Os) (started : os.Started) (H : Type) (enc : TypeId × Value → H) (F : Stop.Interp) :
    ReturnsInHanded {} Try.checked os 10 .any ((OpenSpec.ofChange Rows.gcmOpensSpec).preRow enc Try.prog Try.f10 Rows.gcmOpensRow.domain false Rows.gcmOpensRow.laid) (((OpenSpec.ofChange Rows.gcmOpensSpec).at F).post enc Try.prog Try.f10 false true false false) := by
  obtain ⟨places, hx⟩ := reads os enc
  refine returnsInHanded_of_row (C := Try.checked) (s := (OpenSpec.ofChange Rows.gcmOpensSpec)) own started (by kernel_rfl) Try.func10
    (witness_row_at (enc := enc) (C := Try.checked) false (laidWorld os) #[.agg (Array.replicate 16 (.int .u8 0)), .agg (Array.replicate 12 (.int .u8 0)), .slice none 0 0, .slice none 0 0, .bool false] rfl (by kernel_rfl) (by kernel_rfl) (by kernel_rfl)
      (OpenSpec.preRow_of_cond 8 hx (by kernel_rfl) (fun k hk => by cases hk) (by kernel_rfl) (laid_met os))) ?_
  intro W base args ds gs before hval hW _ _ _ hL _ _
  exact contract H enc W base args ds gs before hval hW hL
theorem said : Rows.GcmOpensSaid :=
  OpenClaim.holds_of_cond 10 Try.f10 rfl rfl rfl rfl rfl rfl rfl ⟨rfl, rfl, rfl, rfl, rfl⟩ rfl rfl rfl rfl rfl (by kernel_rfl) Try.func10 (by kernel_rfl)
    (of_decide_eq_true (by kernel_rfl)) (by unfold Func.isWrapper; first | (rw [if_pos (by decide +kernel)]; kernel_rfl) | (rw [if_neg (by decide +kernel)]; exact ⟨rfl, rfl⟩))
    (fun os started H enc _ F => by rw [OpenClaim.pre_eq_preRow]; exact lifted os started H enc F)
/-- The statement. -/
theorem holds : Rows.GcmOpensSaid := said
end Go.Proofs.Ytbmdhkfdigeebaa.rGcmOpens
