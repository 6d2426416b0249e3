/-
  NARROWER THAN 'FOR EVERY INPUT', by the rows' own cells (each row's printed sentence says how): ScalarReduces: laid · ScalarNear: laid · ScalarRuns: laid · ScalarLaws: laid · ScalarLong: laid · ScalarOften: laid.
  DERIVED. THE GIVEN ROWS OF THIS SEAT. 6 by the template 'for every input the law returns true; each argument reads behind the call as it read before'; 0 by the template 'total and deterministic' (their statements: YtjikmagomahhcaaDoorTotals.lean).
  GIVEN WITH THE SEED: the statements are not yours to turn. If you find one false, say at which input.
  Laid BY PROGRAM, IN A SANDBOX (cutbox-rows.mjs): the forced cells as the released guide's own fill.sh prints them over the translation 7930adb013f99f31… (all of the seat's roots in one cut). By AI agents, Wed Nov 11 2026. No macro, syntax, notation, axiom, sorry.
-/
import Derived.Test.YtjikmagomahhcaaDoorChecked
import GoSem.Claim
import GoSem.ClaimJoined
import GoSem.ClaimMapViews
import Derived.JoinedTies
import Derived.KernelRfl
namespace Go.Proofs.YtjikmagomahhcaaDoor
/- THE CELL 'sum', in the pinned program and in every row, IS THE sha256 OF THE DUMP (.gsa) THAT YtjikmagomahhcaaDoorProg.lean LOADS. Nothing in Lean hashes anything: it is a label: what it is worth is what the hold of that sum in a sandbox is worth. -/
noncomputable def Tryd.pinned : Pinned := { name := "ytjikmagomahhcaadoor", sum := "7930adb013f99f3192aebef36ffde89812bec78ea4f6f6dc00c8aac33b024f42", checked := Tryd.checked }
namespace Rows
def none {H : Type} : Left H := { results := [], args := [] }

/- WHAT THE LISTED PACKAGE-LEVEL VARIABLES READ AS WHEN THE CALL BEGINS. Each datum BY PROGRAM (the guide's laid-datum.mjs) off the statement by which the dump's own 'gosem.cut.vars' lays the variable. In a bare row this is a premise. The card (YtjikmagomahhcaaDoorCards.lean) ties it to the program's text. -/
def laid_skiff_scalar_order {H : Type} : DataW H := .agg [.lit (.int .u32 1559614445), .lit (.int .u32 1477600026), .lit (.int .u32 2734136534), .lit (.int .u32 350157278), .lit (.int .u32 0), .lit (.int .u32 0), .lit (.int .u32 0), .lit (.int .u32 268435456)]

/-- 'skifflaw02.ScalarReduces': WHATEVER THE INPUT: true; the input reads as it did. -/
def scalarReducesSpec : ChangeSpec := { name := "scalarReduces", fn := fun _ => fun
  | [d1, d2] => { results := [.lit (.bool true)], args := [d1, d2] }
  | _ => none }
def scalarReducesRow : OpenClaim := { program := "ytjikmagomahhcaadoor", sum := "7930adb013f99f3192aebef36ffde89812bec78ea4f6f6dc00c8aac33b024f42", func := "skiff/skifflaw02.ScalarReduces", spec := "scalarReduces", named := ["skiff/scalar.order"], apart := false, laid := [("skiff/scalar.order", laid_skiff_scalar_order)] }
def ScalarReducesSaid : Prop := scalarReducesRow.holds Tryd.pinned (OpenSpec.ofChange scalarReducesSpec)

/-- ITS FALSE NEIGHBOUR: 'it returns false'. Refute it at one input. -/
def scalarReducesWrong : ChangeSpec := { name := "scalarReduces", fn := fun _ => fun
  | [d1, d2] => { results := [.lit (.bool false)], args := [d1, d2] }
  | _ => none }
def ScalarReducesWrongFalsely : Prop := scalarReducesRow.holds Tryd.pinned (OpenSpec.ofChange scalarReducesWrong)

/-- 'skifflaw02.ScalarNear': WHATEVER THE INPUT: true; the input reads as it did. -/
def scalarNearSpec : ChangeSpec := { name := "scalarNear", fn := fun _ => fun
  | [d1, d2] => { results := [.lit (.bool true)], args := [d1, d2] }
  | _ => none }
def scalarNearRow : OpenClaim := { program := "ytjikmagomahhcaadoor", sum := "7930adb013f99f3192aebef36ffde89812bec78ea4f6f6dc00c8aac33b024f42", func := "skiff/skifflaw02.ScalarNear", spec := "scalarNear", named := ["skiff/scalar.order"], apart := false, laid := [("skiff/scalar.order", laid_skiff_scalar_order)] }
def ScalarNearSaid : Prop := scalarNearRow.holds Tryd.pinned (OpenSpec.ofChange scalarNearSpec)

/-- ITS FALSE NEIGHBOUR: 'it returns false'. Refute it at one input. -/
def scalarNearWrong : ChangeSpec := { name := "scalarNear", fn := fun _ => fun
  | [d1, d2] => { results := [.lit (.bool false)], args := [d1, d2] }
  | _ => none }
def ScalarNearWrongFalsely : Prop := scalarNearRow.holds Tryd.pinned (OpenSpec.ofChange scalarNearWrong)

/-- 'skifflaw02.ScalarRuns': WHATEVER THE INPUT: true; the input reads as it did. -/
def scalarRunsSpec : ChangeSpec := { name := "scalarRuns", fn := fun _ => fun
  | [d1, d2, d3] => { results := [.lit (.bool true)], args := [d1, d2, d3] }
  | _ => none }
def scalarRunsRow : OpenClaim := { program := "ytjikmagomahhcaadoor", sum := "7930adb013f99f3192aebef36ffde89812bec78ea4f6f6dc00c8aac33b024f42", func := "skiff/skifflaw02.ScalarRuns", spec := "scalarRuns", named := ["skiff/scalar.order"], apart := false, laid := [("skiff/scalar.order", laid_skiff_scalar_order)] }
def ScalarRunsSaid : Prop := scalarRunsRow.holds Tryd.pinned (OpenSpec.ofChange scalarRunsSpec)

/-- ITS FALSE NEIGHBOUR: 'it returns false'. Refute it at one input. -/
def scalarRunsWrong : ChangeSpec := { name := "scalarRuns", fn := fun _ => fun
  | [d1, d2, d3] => { results := [.lit (.bool false)], args := [d1, d2, d3] }
  | _ => none }
def ScalarRunsWrongFalsely : Prop := scalarRunsRow.holds Tryd.pinned (OpenSpec.ofChange scalarRunsWrong)

/-- 'skifflaw02.ScalarLaws': WHATEVER THE INPUT: true; the input reads as it did. -/
def scalarLawsSpec : ChangeSpec := { name := "scalarLaws", fn := fun _ => fun
  | [d1, d2, d3] => { results := [.lit (.bool true)], args := [d1, d2, d3] }
  | _ => none }
def scalarLawsRow : OpenClaim := { program := "ytjikmagomahhcaadoor", sum := "7930adb013f99f3192aebef36ffde89812bec78ea4f6f6dc00c8aac33b024f42", func := "skiff/skifflaw02.ScalarLaws", spec := "scalarLaws", named := ["skiff/scalar.order"], apart := false, laid := [("skiff/scalar.order", laid_skiff_scalar_order)] }
def ScalarLawsSaid : Prop := scalarLawsRow.holds Tryd.pinned (OpenSpec.ofChange scalarLawsSpec)

/-- ITS FALSE NEIGHBOUR: 'it returns false'. Refute it at one input. -/
def scalarLawsWrong : ChangeSpec := { name := "scalarLaws", fn := fun _ => fun
  | [d1, d2, d3] => { results := [.lit (.bool false)], args := [d1, d2, d3] }
  | _ => none }
def ScalarLawsWrongFalsely : Prop := scalarLawsRow.holds Tryd.pinned (OpenSpec.ofChange scalarLawsWrong)

/-- 'skifflaw02.ScalarLong': WHATEVER THE INPUT: true; the input reads as it did. -/
def scalarLongSpec : ChangeSpec := { name := "scalarLong", fn := fun _ => fun
  | [d1, d2, d3] => { results := [.lit (.bool true)], args := [d1, d2, d3] }
  | _ => none }
def scalarLongRow : OpenClaim := { program := "ytjikmagomahhcaadoor", sum := "7930adb013f99f3192aebef36ffde89812bec78ea4f6f6dc00c8aac33b024f42", func := "skiff/skifflaw02.ScalarLong", spec := "scalarLong", named := ["skiff/scalar.order"], apart := false, laid := [("skiff/scalar.order", laid_skiff_scalar_order)] }
def ScalarLongSaid : Prop := scalarLongRow.holds Tryd.pinned (OpenSpec.ofChange scalarLongSpec)

/-- ITS FALSE NEIGHBOUR: 'it returns false'. Refute it at one input. -/
def scalarLongWrong : ChangeSpec := { name := "scalarLong", fn := fun _ => fun
  | [d1, d2, d3] => { results := [.lit (.bool false)], args := [d1, d2, d3] }
  | _ => none }
def ScalarLongWrongFalsely : Prop := scalarLongRow.holds Tryd.pinned (OpenSpec.ofChange scalarLongWrong)

/-- 'skifflaw02.ScalarOften': WHATEVER THE INPUT: true; the input reads as it did. -/
def scalarOftenSpec : ChangeSpec := { name := "scalarOften", fn := fun _ => fun
  | [d1, d2] => { results := [.lit (.bool true)], args := [d1, d2] }
  | _ => none }
def scalarOftenRow : OpenClaim := { program := "ytjikmagomahhcaadoor", sum := "7930adb013f99f3192aebef36ffde89812bec78ea4f6f6dc00c8aac33b024f42", func := "skiff/skifflaw02.ScalarOften", spec := "scalarOften", named := ["skiff/scalar.order"], apart := false, laid := [("skiff/scalar.order", laid_skiff_scalar_order)] }
def ScalarOftenSaid : Prop := scalarOftenRow.holds Tryd.pinned (OpenSpec.ofChange scalarOftenSpec)

/-- ITS FALSE NEIGHBOUR: 'it returns false'. Refute it at one input. -/
def scalarOftenWrong : ChangeSpec := { name := "scalarOften", fn := fun _ => fun
  | [d1, d2] => { results := [.lit (.bool false)], args := [d1, d2] }
  | _ => none }
def ScalarOftenWrongFalsely : Prop := scalarOftenRow.holds Tryd.pinned (OpenSpec.ofChange scalarOftenWrong)

/- THE SECOND FORM. 'bulk': how many values and letters a reading holds, each counted each time it is reached (what is shared counts as often as it is met; a slice's spare places count too). A statement '..UptoSaid' is the law's where the arguments, and the package variables that the reading takes, are together of bulk at most 1048576: NARROWER than '..Said'. Prove '..Said' where nothing that the law and all that it calls make is longer than what came in: it says more and counts as full. Else prove '..UptoSaid'. A law counts once. -/
mutual
def uptoBulk {H : Type} : DataW H → Nat
  | .lit (.string bytes) => bytes.length + 1
  | .lit _ => 1
  | .nil => 1
  | .ptr d => uptoBulk d + 1
  | .slice elems spare => uptoBulkAll elems + uptoBulkAll spare + 1
  | .agg parts => uptoBulkAll parts + 1
  | .iface _ d => uptoBulk d + 1
  | .map entries => uptoBulkEntries entries + 1
  | .held _ => 1
def uptoBulkAll {H : Type} : List (DataW H) → Nat
  | [] => 0
  | d :: r => uptoBulk d + uptoBulkAll r
def uptoBulkEntries {H : Type} : List (Lit × DataW H) → Nat
  | [] => 0
  | x :: r => uptoBulkEntry x + uptoBulkEntries r
def uptoBulkEntry {H : Type} : Lit × DataW H → Nat
  | (.string bytes, d) => bytes.length + uptoBulk d + 1
  | (_, d) => uptoBulk d + 1
 end
def uptoSmall : (H : Type) → List (DataW H) → Bool := fun _ ds => decide (uptoBulkAll ds ≤ 1048576)
def OpenSpec.upto (s : _root_.Go.ChangeSpec) : _root_.Go.OpenSpec := { _root_.Go.OpenSpec.ofChange s with cond := some uptoSmall }

/-- 'skifflaw02.ScalarReduces', WHERE WHAT IT READS IS OF BULK AT MOST 1048576: true; the input reads as it did. -/
def scalarReducesUptoRow : OpenClaim := { program := "ytjikmagomahhcaadoor", sum := "7930adb013f99f3192aebef36ffde89812bec78ea4f6f6dc00c8aac33b024f42", func := "skiff/skifflaw02.ScalarReduces", spec := "scalarReduces", named := ["skiff/scalar.order"], apart := false, laid := [("skiff/scalar.order", laid_skiff_scalar_order)], narrowed := true }
def ScalarReducesUptoSaid : Prop := scalarReducesUptoRow.holds Tryd.pinned (OpenSpec.upto scalarReducesSpec)

/-- 'skifflaw02.ScalarNear', WHERE WHAT IT READS IS OF BULK AT MOST 1048576: true; the input reads as it did. -/
def scalarNearUptoRow : OpenClaim := { program := "ytjikmagomahhcaadoor", sum := "7930adb013f99f3192aebef36ffde89812bec78ea4f6f6dc00c8aac33b024f42", func := "skiff/skifflaw02.ScalarNear", spec := "scalarNear", named := ["skiff/scalar.order"], apart := false, laid := [("skiff/scalar.order", laid_skiff_scalar_order)], narrowed := true }
def ScalarNearUptoSaid : Prop := scalarNearUptoRow.holds Tryd.pinned (OpenSpec.upto scalarNearSpec)

/-- 'skifflaw02.ScalarRuns', WHERE WHAT IT READS IS OF BULK AT MOST 1048576: true; the input reads as it did. -/
def scalarRunsUptoRow : OpenClaim := { program := "ytjikmagomahhcaadoor", sum := "7930adb013f99f3192aebef36ffde89812bec78ea4f6f6dc00c8aac33b024f42", func := "skiff/skifflaw02.ScalarRuns", spec := "scalarRuns", named := ["skiff/scalar.order"], apart := false, laid := [("skiff/scalar.order", laid_skiff_scalar_order)], narrowed := true }
def ScalarRunsUptoSaid : Prop := scalarRunsUptoRow.holds Tryd.pinned (OpenSpec.upto scalarRunsSpec)

/-- 'skifflaw02.ScalarLaws', WHERE WHAT IT READS IS OF BULK AT MOST 1048576: true; the input reads as it did. -/
def scalarLawsUptoRow : OpenClaim := { program := "ytjikmagomahhcaadoor", sum := "7930adb013f99f3192aebef36ffde89812bec78ea4f6f6dc00c8aac33b024f42", func := "skiff/skifflaw02.ScalarLaws", spec := "scalarLaws", named := ["skiff/scalar.order"], apart := false, laid := [("skiff/scalar.order", laid_skiff_scalar_order)], narrowed := true }
def ScalarLawsUptoSaid : Prop := scalarLawsUptoRow.holds Tryd.pinned (OpenSpec.upto scalarLawsSpec)

/-- 'skifflaw02.ScalarLong', WHERE WHAT IT READS IS OF BULK AT MOST 1048576: true; the input reads as it did. -/
def scalarLongUptoRow : OpenClaim := { program := "ytjikmagomahhcaadoor", sum := "7930adb013f99f3192aebef36ffde89812bec78ea4f6f6dc00c8aac33b024f42", func := "skiff/skifflaw02.ScalarLong", spec := "scalarLong", named := ["skiff/scalar.order"], apart := false, laid := [("skiff/scalar.order", laid_skiff_scalar_order)], narrowed := true }
def ScalarLongUptoSaid : Prop := scalarLongUptoRow.holds Tryd.pinned (OpenSpec.upto scalarLongSpec)

/-- 'skifflaw02.ScalarOften', WHERE WHAT IT READS IS OF BULK AT MOST 1048576: true; the input reads as it did. -/
def scalarOftenUptoRow : OpenClaim := { program := "ytjikmagomahhcaadoor", sum := "7930adb013f99f3192aebef36ffde89812bec78ea4f6f6dc00c8aac33b024f42", func := "skiff/skifflaw02.ScalarOften", spec := "scalarOften", named := ["skiff/scalar.order"], apart := false, laid := [("skiff/scalar.order", laid_skiff_scalar_order)], narrowed := true }
def ScalarOftenUptoSaid : Prop := scalarOftenUptoRow.holds Tryd.pinned (OpenSpec.upto scalarOftenSpec)

end Rows
end Go.Proofs.YtjikmagomahhcaaDoor
