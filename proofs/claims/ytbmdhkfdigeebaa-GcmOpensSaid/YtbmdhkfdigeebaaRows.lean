/-
  No cell of these rows narrows 'for every input' (looked for: loops, veiled, ifaces, maps, wideKeys, modest, calm, conditions, laid).
  DERIVED. THE GIVEN ROWS OF THIS SEAT. 10 by the template 'for every input the law returns true; each argument reads behind the call as it read before'; 0 by the template 'total and deterministic' (their statements: YtbmdhkfdigeebaaTotals.lean).
  GIVEN WITH THE SEED: the statements are not yours to turn. If you find one false, say at which input.
  Laid BY PROGRAM, IN A SANDBOX (cutbox-rows.mjs): the forced cells as the released guide's own fill.sh prints them over the translation de3d2a8b076deb3f… (all of the seat's roots in one cut). By AI agents, Wed Nov 11 2026. No macro, syntax, notation, axiom, sorry.
-/
import Derived.Test.YtbmdhkfdigeebaaChecked
import GoSem.Claim
import GoSem.ClaimJoined
import GoSem.ClaimMapViews
import Derived.JoinedTies
import Derived.KernelRfl
namespace Go.Proofs.Ytbmdhkfdigeebaa
/- THE CELL 'sum', in the pinned program and in every row, IS THE sha256 OF THE DUMP (.gsa) THAT YtbmdhkfdigeebaaProg.lean LOADS. Nothing in Lean hashes anything: it is a label: what it is worth is what the hold of that sum in a sandbox is worth. -/
noncomputable def Try.pinned : Pinned := { name := "ytbmdhkfdigeebaa", sum := "de3d2a8b076deb3fdb44050a8cbf82ba1b13aafcce95a2cbf9b013ba216f57dd", checked := Try.checked }
namespace Rows
def none {H : Type} : Left H := { results := [], args := [] }

/-- 'skifflaw08.AesEncrypts': WHATEVER THE INPUT: true; the input reads as it did. -/
def aesEncryptsSpec : ChangeSpec := { name := "aesEncrypts", fn := fun _ => fun
  | [d1, d2] => { results := [.lit (.bool true)], args := [d1, d2] }
  | _ => none }
def aesEncryptsRow : OpenClaim := { program := "ytbmdhkfdigeebaa", sum := "de3d2a8b076deb3fdb44050a8cbf82ba1b13aafcce95a2cbf9b013ba216f57dd", func := "skiff/skifflaw08.AesEncrypts", spec := "aesEncrypts", plainKeys := false, apart := false }
def AesEncryptsSaid : Prop := aesEncryptsRow.holds Try.pinned (OpenSpec.ofChange aesEncryptsSpec)

/-- ITS FALSE NEIGHBOUR: 'it returns false'. Refute it at one input. -/
def aesEncryptsWrong : ChangeSpec := { name := "aesEncrypts", fn := fun _ => fun
  | [d1, d2] => { results := [.lit (.bool false)], args := [d1, d2] }
  | _ => none }
def AesEncryptsWrongFalsely : Prop := aesEncryptsRow.holds Try.pinned (OpenSpec.ofChange aesEncryptsWrong)

/-- 'skifflaw08.AesKnown': WHATEVER THE INPUT: true; the input reads as it did. -/
def aesKnownSpec : ChangeSpec := { name := "aesKnown", fn := fun _ => fun
  | [d] => { results := [.lit (.bool true)], args := [d] }
  | _ => none }
def aesKnownRow : OpenClaim := { program := "ytbmdhkfdigeebaa", sum := "de3d2a8b076deb3fdb44050a8cbf82ba1b13aafcce95a2cbf9b013ba216f57dd", func := "skiff/skifflaw08.AesKnown", spec := "aesKnown", plainKeys := false, apart := false }
def AesKnownSaid : Prop := aesKnownRow.holds Try.pinned (OpenSpec.ofChange aesKnownSpec)

/-- ITS FALSE NEIGHBOUR: 'it returns false'. Refute it at one input. -/
def aesKnownWrong : ChangeSpec := { name := "aesKnown", fn := fun _ => fun
  | [d] => { results := [.lit (.bool false)], args := [d] }
  | _ => none }
def AesKnownWrongFalsely : Prop := aesKnownRow.holds Try.pinned (OpenSpec.ofChange aesKnownWrong)

/-- 'skifflaw08.AesApart': WHATEVER THE INPUT: true; the input reads as it did. -/
def aesApartSpec : ChangeSpec := { name := "aesApart", fn := fun _ => fun
  | [d1, d2, d3, d4, d5] => { results := [.lit (.bool true)], args := [d1, d2, d3, d4, d5] }
  | _ => none }
def aesApartRow : OpenClaim := { program := "ytbmdhkfdigeebaa", sum := "de3d2a8b076deb3fdb44050a8cbf82ba1b13aafcce95a2cbf9b013ba216f57dd", func := "skiff/skifflaw08.AesApart", spec := "aesApart", plainKeys := false, apart := false }
def AesApartSaid : Prop := aesApartRow.holds Try.pinned (OpenSpec.ofChange aesApartSpec)

/-- ITS FALSE NEIGHBOUR: 'it returns false'. Refute it at one input. -/
def aesApartWrong : ChangeSpec := { name := "aesApart", fn := fun _ => fun
  | [d1, d2, d3, d4, d5] => { results := [.lit (.bool false)], args := [d1, d2, d3, d4, d5] }
  | _ => none }
def AesApartWrongFalsely : Prop := aesApartRow.holds Try.pinned (OpenSpec.ofChange aesApartWrong)

/-- 'skifflaw08.AesRow': WHATEVER THE INPUT: true; the input reads as it did. -/
def aesRowSpec : ChangeSpec := { name := "aesRow", fn := fun _ => fun
  | [d1, d2] => { results := [.lit (.bool true)], args := [d1, d2] }
  | _ => none }
def aesRowRow : OpenClaim := { program := "ytbmdhkfdigeebaa", sum := "de3d2a8b076deb3fdb44050a8cbf82ba1b13aafcce95a2cbf9b013ba216f57dd", func := "skiff/skifflaw08.AesRow", spec := "aesRow", plainKeys := false, apart := false }
def AesRowSaid : Prop := aesRowRow.holds Try.pinned (OpenSpec.ofChange aesRowSpec)

/-- ITS FALSE NEIGHBOUR: 'it returns false'. Refute it at one input. -/
def aesRowWrong : ChangeSpec := { name := "aesRow", fn := fun _ => fun
  | [d1, d2] => { results := [.lit (.bool false)], args := [d1, d2] }
  | _ => none }
def AesRowWrongFalsely : Prop := aesRowRow.holds Try.pinned (OpenSpec.ofChange aesRowWrong)

/-- 'skifflaw09.GcmStream': WHATEVER THE INPUT: true; the input reads as it did. -/
def gcmStreamSpec : ChangeSpec := { name := "gcmStream", fn := fun _ => fun
  | [d1, d2, d3, d4] => { results := [.lit (.bool true)], args := [d1, d2, d3, d4] }
  | _ => none }
def gcmStreamRow : OpenClaim := { program := "ytbmdhkfdigeebaa", sum := "de3d2a8b076deb3fdb44050a8cbf82ba1b13aafcce95a2cbf9b013ba216f57dd", func := "skiff/skifflaw09.GcmStream", spec := "gcmStream", unfollowed := true, recurses := true, plainKeys := false, apart := false }
def GcmStreamSaid : Prop := gcmStreamRow.holds Try.pinned (OpenSpec.ofChange gcmStreamSpec)

/-- ITS FALSE NEIGHBOUR: 'it returns false'. Refute it at one input. -/
def gcmStreamWrong : ChangeSpec := { name := "gcmStream", fn := fun _ => fun
  | [d1, d2, d3, d4] => { results := [.lit (.bool false)], args := [d1, d2, d3, d4] }
  | _ => none }
def GcmStreamWrongFalsely : Prop := gcmStreamRow.holds Try.pinned (OpenSpec.ofChange gcmStreamWrong)

/-- 'skifflaw09.GcmLonger': WHATEVER THE INPUT: true; the input reads as it did. -/
def gcmLongerSpec : ChangeSpec := { name := "gcmLonger", fn := fun _ => fun
  | [d1, d2, d3, d4] => { results := [.lit (.bool true)], args := [d1, d2, d3, d4] }
  | _ => none }
def gcmLongerRow : OpenClaim := { program := "ytbmdhkfdigeebaa", sum := "de3d2a8b076deb3fdb44050a8cbf82ba1b13aafcce95a2cbf9b013ba216f57dd", func := "skiff/skifflaw09.GcmLonger", spec := "gcmLonger", unfollowed := true, recurses := true, plainKeys := false, apart := false }
def GcmLongerSaid : Prop := gcmLongerRow.holds Try.pinned (OpenSpec.ofChange gcmLongerSpec)

/-- ITS FALSE NEIGHBOUR: 'it returns false'. Refute it at one input. -/
def gcmLongerWrong : ChangeSpec := { name := "gcmLonger", fn := fun _ => fun
  | [d1, d2, d3, d4] => { results := [.lit (.bool false)], args := [d1, d2, d3, d4] }
  | _ => none }
def GcmLongerWrongFalsely : Prop := gcmLongerRow.holds Try.pinned (OpenSpec.ofChange gcmLongerWrong)

/-- 'skifflaw09.GcmSeals': WHATEVER THE INPUT: true; the input reads as it did. -/
def gcmSealsSpec : ChangeSpec := { name := "gcmSeals", fn := fun _ => fun
  | [d1, d2, d3, d4] => { results := [.lit (.bool true)], args := [d1, d2, d3, d4] }
  | _ => none }
def gcmSealsRow : OpenClaim := { program := "ytbmdhkfdigeebaa", sum := "de3d2a8b076deb3fdb44050a8cbf82ba1b13aafcce95a2cbf9b013ba216f57dd", func := "skiff/skifflaw09.GcmSeals", spec := "gcmSeals", unfollowed := true, recurses := true, plainKeys := false, apart := false }
def GcmSealsSaid : Prop := gcmSealsRow.holds Try.pinned (OpenSpec.ofChange gcmSealsSpec)

/-- ITS FALSE NEIGHBOUR: 'it returns false'. Refute it at one input. -/
def gcmSealsWrong : ChangeSpec := { name := "gcmSeals", fn := fun _ => fun
  | [d1, d2, d3, d4] => { results := [.lit (.bool false)], args := [d1, d2, d3, d4] }
  | _ => none }
def GcmSealsWrongFalsely : Prop := gcmSealsRow.holds Try.pinned (OpenSpec.ofChange gcmSealsWrong)

/-- 'skifflaw09.GcmOpens': WHATEVER THE INPUT: true; the input reads as it did. -/
def gcmOpensSpec : ChangeSpec := { name := "gcmOpens", fn := fun _ => fun
  | [d1, d2, d3, d4, d5] => { results := [.lit (.bool true)], args := [d1, d2, d3, d4, d5] }
  | _ => none }
def gcmOpensRow : OpenClaim := { program := "ytbmdhkfdigeebaa", sum := "de3d2a8b076deb3fdb44050a8cbf82ba1b13aafcce95a2cbf9b013ba216f57dd", func := "skiff/skifflaw09.GcmOpens", spec := "gcmOpens", unfollowed := true, recurses := true, plainKeys := false, apart := false }
def GcmOpensSaid : Prop := gcmOpensRow.holds Try.pinned (OpenSpec.ofChange gcmOpensSpec)

/-- ITS FALSE NEIGHBOUR: 'it returns false'. Refute it at one input. -/
def gcmOpensWrong : ChangeSpec := { name := "gcmOpens", fn := fun _ => fun
  | [d1, d2, d3, d4, d5] => { results := [.lit (.bool false)], args := [d1, d2, d3, d4, d5] }
  | _ => none }
def GcmOpensWrongFalsely : Prop := gcmOpensRow.holds Try.pinned (OpenSpec.ofChange gcmOpensWrong)

/-- 'skifflaw09.GcmTurned': WHATEVER THE INPUT: true; the input reads as it did. -/
def gcmTurnedSpec : ChangeSpec := { name := "gcmTurned", fn := fun _ => fun
  | [d1, d2, d3, d4, d5, d6] => { results := [.lit (.bool true)], args := [d1, d2, d3, d4, d5, d6] }
  | _ => none }
def gcmTurnedRow : OpenClaim := { program := "ytbmdhkfdigeebaa", sum := "de3d2a8b076deb3fdb44050a8cbf82ba1b13aafcce95a2cbf9b013ba216f57dd", func := "skiff/skifflaw09.GcmTurned", spec := "gcmTurned", unfollowed := true, recurses := true, plainKeys := false, apart := false }
def GcmTurnedSaid : Prop := gcmTurnedRow.holds Try.pinned (OpenSpec.ofChange gcmTurnedSpec)

/-- ITS FALSE NEIGHBOUR: 'it returns false'. Refute it at one input. -/
def gcmTurnedWrong : ChangeSpec := { name := "gcmTurned", fn := fun _ => fun
  | [d1, d2, d3, d4, d5, d6] => { results := [.lit (.bool false)], args := [d1, d2, d3, d4, d5, d6] }
  | _ => none }
def GcmTurnedWrongFalsely : Prop := gcmTurnedRow.holds Try.pinned (OpenSpec.ofChange gcmTurnedWrong)

/-- 'skifflaw09.GcmOwn': WHATEVER THE INPUT: true; the input reads as it did. -/
def gcmOwnSpec : ChangeSpec := { name := "gcmOwn", fn := fun _ => fun
  | [d1, d2, d3, d4] => { results := [.lit (.bool true)], args := [d1, d2, d3, d4] }
  | _ => none }
def gcmOwnRow : OpenClaim := { program := "ytbmdhkfdigeebaa", sum := "de3d2a8b076deb3fdb44050a8cbf82ba1b13aafcce95a2cbf9b013ba216f57dd", func := "skiff/skifflaw09.GcmOwn", spec := "gcmOwn", unfollowed := true, recurses := true, plainKeys := false, apart := false }
def GcmOwnSaid : Prop := gcmOwnRow.holds Try.pinned (OpenSpec.ofChange gcmOwnSpec)

/-- ITS FALSE NEIGHBOUR: 'it returns false'. Refute it at one input. -/
def gcmOwnWrong : ChangeSpec := { name := "gcmOwn", fn := fun _ => fun
  | [d1, d2, d3, d4] => { results := [.lit (.bool false)], args := [d1, d2, d3, d4] }
  | _ => none }
def GcmOwnWrongFalsely : Prop := gcmOwnRow.holds Try.pinned (OpenSpec.ofChange gcmOwnWrong)

/- THE SECOND FORM. 'bulk': how many values and letters a reading holds, each counted each time it is reached (what is shared counts as often as it is met; a slice's spare places count too). A statement '..UptoSaid' is the law's where the arguments, and the package variables that the reading takes, are together of bulk at most 1048576: NARROWER than '..Said'. Prove '..Said' where nothing that the law and all that it calls make is longer than what came in: it says more and counts as full. Else prove '..UptoSaid'. A law counts once. -/
mutual
def uptoBulk {H : Type} : DataW H → Nat
  | .lit (.string bytes) => bytes.length + 1
  | .lit _ => 1
  | .nil => 1
  | .ptr d => uptoBulk d + 1
  | .slice elems spare => uptoBulkAll elems + uptoBulkAll spare + 1
  | .agg parts => uptoBulkAll parts + 1
  | .iface _ d => uptoBulk d + 1
  | .map entries => uptoBulkEntries entries + 1
  | .held _ => 1
def uptoBulkAll {H : Type} : List (DataW H) → Nat
  | [] => 0
  | d :: r => uptoBulk d + uptoBulkAll r
def uptoBulkEntries {H : Type} : List (Lit × DataW H) → Nat
  | [] => 0
  | x :: r => uptoBulkEntry x + uptoBulkEntries r
def uptoBulkEntry {H : Type} : Lit × DataW H → Nat
  | (.string bytes, d) => bytes.length + uptoBulk d + 1
  | (_, d) => uptoBulk d + 1
 end
def uptoSmall : (H : Type) → List (DataW H) → Bool := fun _ ds => decide (uptoBulkAll ds ≤ 1048576)
def OpenSpec.upto (s : _root_.Go.ChangeSpec) : _root_.Go.OpenSpec := { _root_.Go.OpenSpec.ofChange s with cond := some uptoSmall }

/-- 'skifflaw08.AesEncrypts', WHERE WHAT IT READS IS OF BULK AT MOST 1048576: true; the input reads as it did. -/
def aesEncryptsUptoRow : OpenClaim := { program := "ytbmdhkfdigeebaa", sum := "de3d2a8b076deb3fdb44050a8cbf82ba1b13aafcce95a2cbf9b013ba216f57dd", func := "skiff/skifflaw08.AesEncrypts", spec := "aesEncrypts", plainKeys := false, apart := false, narrowed := true }
def AesEncryptsUptoSaid : Prop := aesEncryptsUptoRow.holds Try.pinned (OpenSpec.upto aesEncryptsSpec)

/-- 'skifflaw08.AesKnown', WHERE WHAT IT READS IS OF BULK AT MOST 1048576: true; the input reads as it did. -/
def aesKnownUptoRow : OpenClaim := { program := "ytbmdhkfdigeebaa", sum := "de3d2a8b076deb3fdb44050a8cbf82ba1b13aafcce95a2cbf9b013ba216f57dd", func := "skiff/skifflaw08.AesKnown", spec := "aesKnown", plainKeys := false, apart := false, narrowed := true }
def AesKnownUptoSaid : Prop := aesKnownUptoRow.holds Try.pinned (OpenSpec.upto aesKnownSpec)

/-- 'skifflaw08.AesApart', WHERE WHAT IT READS IS OF BULK AT MOST 1048576: true; the input reads as it did. -/
def aesApartUptoRow : OpenClaim := { program := "ytbmdhkfdigeebaa", sum := "de3d2a8b076deb3fdb44050a8cbf82ba1b13aafcce95a2cbf9b013ba216f57dd", func := "skiff/skifflaw08.AesApart", spec := "aesApart", plainKeys := false, apart := false, narrowed := true }
def AesApartUptoSaid : Prop := aesApartUptoRow.holds Try.pinned (OpenSpec.upto aesApartSpec)

/-- 'skifflaw08.AesRow', WHERE WHAT IT READS IS OF BULK AT MOST 1048576: true; the input reads as it did. -/
def aesRowUptoRow : OpenClaim := { program := "ytbmdhkfdigeebaa", sum := "de3d2a8b076deb3fdb44050a8cbf82ba1b13aafcce95a2cbf9b013ba216f57dd", func := "skiff/skifflaw08.AesRow", spec := "aesRow", plainKeys := false, apart := false, narrowed := true }
def AesRowUptoSaid : Prop := aesRowUptoRow.holds Try.pinned (OpenSpec.upto aesRowSpec)

/-- 'skifflaw09.GcmStream', WHERE WHAT IT READS IS OF BULK AT MOST 1048576: true; the input reads as it did. -/
def gcmStreamUptoRow : OpenClaim := { program := "ytbmdhkfdigeebaa", sum := "de3d2a8b076deb3fdb44050a8cbf82ba1b13aafcce95a2cbf9b013ba216f57dd", func := "skiff/skifflaw09.GcmStream", spec := "gcmStream", unfollowed := true, recurses := true, plainKeys := false, apart := false, narrowed := true }
def GcmStreamUptoSaid : Prop := gcmStreamUptoRow.holds Try.pinned (OpenSpec.upto gcmStreamSpec)

/-- 'skifflaw09.GcmLonger', WHERE WHAT IT READS IS OF BULK AT MOST 1048576: true; the input reads as it did. -/
def gcmLongerUptoRow : OpenClaim := { program := "ytbmdhkfdigeebaa", sum := "de3d2a8b076deb3fdb44050a8cbf82ba1b13aafcce95a2cbf9b013ba216f57dd", func := "skiff/skifflaw09.GcmLonger", spec := "gcmLonger", unfollowed := true, recurses := true, plainKeys := false, apart := false, narrowed := true }
def GcmLongerUptoSaid : Prop := gcmLongerUptoRow.holds Try.pinned (OpenSpec.upto gcmLongerSpec)

/-- 'skifflaw09.GcmSeals', WHERE WHAT IT READS IS OF BULK AT MOST 1048576: true; the input reads as it did. -/
def gcmSealsUptoRow : OpenClaim := { program := "ytbmdhkfdigeebaa", sum := "de3d2a8b076deb3fdb44050a8cbf82ba1b13aafcce95a2cbf9b013ba216f57dd", func := "skiff/skifflaw09.GcmSeals", spec := "gcmSeals", unfollowed := true, recurses := true, plainKeys := false, apart := false, narrowed := true }
def GcmSealsUptoSaid : Prop := gcmSealsUptoRow.holds Try.pinned (OpenSpec.upto gcmSealsSpec)

/-- 'skifflaw09.GcmOpens', WHERE WHAT IT READS IS OF BULK AT MOST 1048576: true; the input reads as it did. -/
def gcmOpensUptoRow : OpenClaim := { program := "ytbmdhkfdigeebaa", sum := "de3d2a8b076deb3fdb44050a8cbf82ba1b13aafcce95a2cbf9b013ba216f57dd", func := "skiff/skifflaw09.GcmOpens", spec := "gcmOpens", unfollowed := true, recurses := true, plainKeys := false, apart := false, narrowed := true }
def GcmOpensUptoSaid : Prop := gcmOpensUptoRow.holds Try.pinned (OpenSpec.upto gcmOpensSpec)

/-- 'skifflaw09.GcmTurned', WHERE WHAT IT READS IS OF BULK AT MOST 1048576: true; the input reads as it did. -/
def gcmTurnedUptoRow : OpenClaim := { program := "ytbmdhkfdigeebaa", sum := "de3d2a8b076deb3fdb44050a8cbf82ba1b13aafcce95a2cbf9b013ba216f57dd", func := "skiff/skifflaw09.GcmTurned", spec := "gcmTurned", unfollowed := true, recurses := true, plainKeys := false, apart := false, narrowed := true }
def GcmTurnedUptoSaid : Prop := gcmTurnedUptoRow.holds Try.pinned (OpenSpec.upto gcmTurnedSpec)

/-- 'skifflaw09.GcmOwn', WHERE WHAT IT READS IS OF BULK AT MOST 1048576: true; the input reads as it did. -/
def gcmOwnUptoRow : OpenClaim := { program := "ytbmdhkfdigeebaa", sum := "de3d2a8b076deb3fdb44050a8cbf82ba1b13aafcce95a2cbf9b013ba216f57dd", func := "skiff/skifflaw09.GcmOwn", spec := "gcmOwn", unfollowed := true, recurses := true, plainKeys := false, apart := false, narrowed := true }
def GcmOwnUptoSaid : Prop := gcmOwnUptoRow.holds Try.pinned (OpenSpec.upto gcmOwnSpec)

end Rows
end Go.Proofs.Ytbmdhkfdigeebaa
