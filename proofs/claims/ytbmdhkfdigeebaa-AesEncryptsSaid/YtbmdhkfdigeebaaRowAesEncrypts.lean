/-
'AesEncrypts': whatever the input, the Go function 'skiff/skifflaw08.AesEncrypts' returns true, and the input reads as it did. Conditions: those of the given row alone.
-/
import Derived.Test.YtbmdhkfdigeebaaRows
import Derived.WalkKit
import Derived.ProofKit
import Derived.OpenShut
import Derived.Deep.DeepHandedRow
import Derived.Lib.LaidTab
import Derived.Test.YtbmdhkfdigeebaaAmRow
import Derived.Test.YtbmdhkfdigeebaaAeV
set_option linter.unusedSimpArgs false
set_option linter.unusedVariables false
set_option linter.unusedSectionVars false
set_option linter.unusedVariables false
set_option maxRecDepth 100000
namespace Go.Proofs.Ytbmdhkfdigeebaa.rAesEncrypts
open Go Go.ChangeShapes Go.WideShapes Go.ChangeAt Go.RowKit
theorem own : ownKnob Try.prog.godebug = none := by kernel_rfl
theorem gw {W : World} : Am.GW W Am.gl := Am.gw_dead
theorem contract (H : Type) (enc : TypeId × Value → H) (W : World) (base : Nat) (args : Array Value) (ds gs : List (DataW H)) (before : List MemPlace)
    (hval : ∀ (j : Nat) t v, Try.f3.params[j]? = some t → args[j]? = some v → Value.okWide Try.prog W .any base t v)
    (hW : DataW.Whole enc Try.prog Try.f3.params.toList Rows.aesEncryptsSpec.vars false W args.toList ds gs before) (hL : laidMetH Try.prog Rows.aesEncryptsRow.laid W) :
    Calls Try.prog 3 args W fun e W' => ∃ v, e = .returned v ∧ Rows.aesEncryptsSpec.post enc Try.prog Try.f3 false true false false W args v W' := by
  have hW' := hW
  obtain ⟨p, q, hA0, hV, rfl, hfz, hnd⟩ := hW
  have hA : DataW.TrodAll enc Try.prog W 0 (fun _ => true) true Try.f3.params.toList args.toList ds p := hA0
  rw [Try.params3] at hA hval
  have ha0 : args.toList = args.toList := rfl
  obtain ⟨v0, vs0, d0, ds0, p0, q0, e0, rfl, rfl, h0, r0⟩ := trodAll_cons hA
  obtain ⟨v1, vs1, d1, ds1, p1, q1, e1, rfl, rfl, h1, r1⟩ := trodAll_cons r0
  obtain ⟨rfl, rfl, rfl⟩ := trodAll_nil r1
  subst e1
  obtain rfl : args = #[v0, v1] := by cases args; simp_all
  obtain ⟨rfl, rfl⟩ := trodVars_none hV
  obtain ⟨x0, a0, w0, l0⟩ := Am.open_arr Try.underlying22 Try.underlying5 (by kernel_rfl) (by kernel_rfl) (hval 0 22 v0 rfl rfl) h0
  obtain ⟨x1, a1, w1, l1⟩ := Am.open_arr Try.underlying22 Try.underlying5 (by kernel_rfl) (by kernel_rfl) (hval 1 22 v1 rfl rfl) h1
  clear hA0
  have hD := Am.lawAesEncrypts _ (⟨_, _, rfl, ⟨l0, Am.dig_u8 w0⟩, ⟨l1, Am.dig_u8 w1⟩⟩)
  refine (Am.law_at hD gw (.cons a0 (.cons a1 .nil))).mono fun e W' ⟨he, hk⟩ => ⟨_, he, ?_⟩
  refine Am.post_true (t := 4) (by kernel_rfl) (by kernel_rfl) (by kernel_rfl) (fun t ht => ?_) Try.underlying4 (by kernel_rfl) rfl rfl (by simpa using hW') hk
  rw [Try.params3] at ht
  have : t ∈ [22, 22] := ht
  have hsz : Try.prog.types.size = 90 := by kernel_rfl
  rw [hsz]
  simp only [List.mem_cons, List.not_mem_nil, or_false] at this
  rcases this with rfl | rfl <;> decide
noncomputable def laidWorld (os : Os) : World := World.holding Try.prog os ⟨#[], #[], []⟩
theorem laid_met (os : Os) : laidMet Try.prog Rows.aesEncryptsRow.laid ((laidWorld os).forCall (fun _ _ => 0) ⟨#[], #[.agg (Array.replicate 16 (.int .u8 0)), .agg (Array.replicate 16 (.int .u8 0))], []⟩).memory :=
  laidMet_of_run' 8 (by kernel_rfl) (by kernel_rfl)
theorem reads (os : Os) {H : Type} (enc : TypeId × Value → H) : ∃ places, DataW.whole enc Try.prog ((laidWorld os).forCall (fun _ _ => 0) ⟨#[], #[.agg (Array.replicate 16 (.int .u8 0)), .agg (Array.replicate 16 (.int .u8 0))], []⟩).memory Try.f3.params.toList Rows.aesEncryptsSpec.vars false (#[.agg (Array.replicate 16 (.int .u8 0)), .agg (Array.replicate 16 (.int .u8 0))] : Array Value).toList 8 = some ([.agg (List.replicate 16 (.lit (.int .u8 0))), .agg (List.replicate 16 (.lit (.int .u8 0)))], [], places) :=
  ⟨[], by kernel_rfl⟩
theorem lifted (os : Os) (started : os.Started) (H : Type) (enc : TypeId × Value → H) (F : Stop.Interp) :
    ReturnsInHanded {} Try.checked os 3 .any ((OpenSpec.ofChange Rows.aesEncryptsSpec).preRow enc Try.prog Try.f3 Rows.aesEncryptsRow.domain false Rows.aesEncryptsRow.laid) (((OpenSpec.ofChange Rows.aesEncryptsSpec).at F).post enc Try.prog Try.f3 false true false false) := by
  obtain ⟨places, hx⟩ := reads os enc
  refine returnsInHanded_of_row (C := Try.checked) (s := (OpenSpec.ofChange Rows.aesEncryptsSpec)) own started (by kernel_rfl) Try.func3
    (witness_row_at (enc := enc) (C := Try.checked) false (laidWorld os) #[.agg (Array.replicate 16 (.int .u8 0)), .agg (Array.replicate 16 (.int .u8 0))] rfl (by kernel_rfl) (by kernel_rfl) (by kernel_rfl)
      (OpenSpec.preRow_of_cond 8 hx (by kernel_rfl) (fun k hk => by cases hk) (by kernel_rfl) (laid_met os))) ?_
  intro W base args ds gs before hval hW _ _ _ hL _ _
  exact contract H enc W base args ds gs before hval hW hL
theorem said : Rows.AesEncryptsSaid :=
  OpenClaim.holds_of_cond 3 Try.f3 rfl rfl rfl rfl rfl rfl rfl ⟨rfl, rfl, rfl, rfl, rfl⟩ rfl rfl rfl rfl rfl (by kernel_rfl) Try.func3 (by kernel_rfl)
    (of_decide_eq_true (by kernel_rfl)) (by unfold Func.isWrapper; first | (rw [if_pos (by decide +kernel)]; kernel_rfl) | (rw [if_neg (by decide +kernel)]; exact ⟨rfl, rfl⟩))
    (fun os started H enc _ F => by rw [OpenClaim.pre_eq_preRow]; exact lifted os started H enc F)
/-- The statement. -/
theorem holds : Rows.AesEncryptsSaid := said
end Go.Proofs.Ytbmdhkfdigeebaa.rAesEncrypts
