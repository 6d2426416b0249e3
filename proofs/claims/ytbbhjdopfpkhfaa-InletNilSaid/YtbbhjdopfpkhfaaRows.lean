/-
  No cell of these rows narrows 'for every input' (looked for: loops, veiled, ifaces, maps, wideKeys, modest, calm, conditions, laid).
  DERIVED. THE GIVEN ROWS OF THIS SEAT. 14 by the template 'for every input the law returns true; each argument reads behind the call as it read before'; 0 by the template 'total and deterministic' (their statements: YtbbhjdopfpkhfaaTotals.lean).
  GIVEN WITH THE SEED: the statements are not yours to turn. If you find one false, say at which input.
  Laid BY PROGRAM, IN A SANDBOX (cutbox-rows.mjs): the forced cells as the released guide's own fill.sh prints them over the translation f197ce68afb3d031… (all of the seat's roots in one cut). By AI agents, Wed Nov 11 2026. No macro, syntax, notation, axiom, sorry.
-/
import Derived.Test.YtbbhjdopfpkhfaaChecked
import GoSem.Claim
import GoSem.ClaimJoined
import GoSem.ClaimMapViews
import Derived.JoinedTies
import Derived.KernelRfl
namespace Go.Proofs.Ytbbhjdopfpkhfaa
/- THE CELL 'sum', in the pinned program and in every row, IS THE sha256 OF THE DUMP (.gsa) THAT YtbbhjdopfpkhfaaProg.lean LOADS. Nothing in Lean hashes anything: it is a label: what it is worth is what the hold of that sum in a sandbox is worth. -/
noncomputable def Try.pinned : Pinned := { name := "ytbbhjdopfpkhfaa", sum := "f197ce68afb3d03164299a685cdc061e1c5f02aeed643b0ee2d6dc439de877cb", checked := Try.checked }
namespace Rows
def none {H : Type} : Left H := { results := [], args := [] }

/-- 'skifflaw19.InletAll': WHATEVER THE INPUT: true; the input reads as it did. -/
def inletAllSpec : ChangeSpec := { name := "inletAll", fn := fun _ => fun
  | [d1, d2, d3] => { results := [.lit (.bool true)], args := [d1, d2, d3] }
  | _ => none }
def inletAllRow : OpenClaim := { program := "ytbbhjdopfpkhfaa", sum := "f197ce68afb3d03164299a685cdc061e1c5f02aeed643b0ee2d6dc439de877cb", func := "skiff/skifflaw19.InletAll", spec := "inletAll", apart := false }
def InletAllSaid : Prop := inletAllRow.holds Try.pinned (OpenSpec.ofChange inletAllSpec)

/-- ITS FALSE NEIGHBOUR: 'it returns false'. Refute it at one input. -/
def inletAllWrong : ChangeSpec := { name := "inletAll", fn := fun _ => fun
  | [d1, d2, d3] => { results := [.lit (.bool false)], args := [d1, d2, d3] }
  | _ => none }
def InletAllWrongFalsely : Prop := inletAllRow.holds Try.pinned (OpenSpec.ofChange inletAllWrong)

/-- 'skifflaw19.InletRoom': WHATEVER THE INPUT: true; the input reads as it did. -/
def inletRoomSpec : ChangeSpec := { name := "inletRoom", fn := fun _ => fun
  | [d1, d2] => { results := [.lit (.bool true)], args := [d1, d2] }
  | _ => none }
def inletRoomRow : OpenClaim := { program := "ytbbhjdopfpkhfaa", sum := "f197ce68afb3d03164299a685cdc061e1c5f02aeed643b0ee2d6dc439de877cb", func := "skiff/skifflaw19.InletRoom", spec := "inletRoom", apart := false }
def InletRoomSaid : Prop := inletRoomRow.holds Try.pinned (OpenSpec.ofChange inletRoomSpec)

/-- ITS FALSE NEIGHBOUR: 'it returns false'. Refute it at one input. -/
def inletRoomWrong : ChangeSpec := { name := "inletRoom", fn := fun _ => fun
  | [d1, d2] => { results := [.lit (.bool false)], args := [d1, d2] }
  | _ => none }
def InletRoomWrongFalsely : Prop := inletRoomRow.holds Try.pinned (OpenSpec.ofChange inletRoomWrong)

/-- 'skifflaw19.InletEnds': WHATEVER THE INPUT: true; the input reads as it did. -/
def inletEndsSpec : ChangeSpec := { name := "inletEnds", fn := fun _ => fun
  | [d1, d2, d3, d4] => { results := [.lit (.bool true)], args := [d1, d2, d3, d4] }
  | _ => none }
def inletEndsRow : OpenClaim := { program := "ytbbhjdopfpkhfaa", sum := "f197ce68afb3d03164299a685cdc061e1c5f02aeed643b0ee2d6dc439de877cb", func := "skiff/skifflaw19.InletEnds", spec := "inletEnds", apart := false }
def InletEndsSaid : Prop := inletEndsRow.holds Try.pinned (OpenSpec.ofChange inletEndsSpec)

/-- ITS FALSE NEIGHBOUR: 'it returns false'. Refute it at one input. -/
def inletEndsWrong : ChangeSpec := { name := "inletEnds", fn := fun _ => fun
  | [d1, d2, d3, d4] => { results := [.lit (.bool false)], args := [d1, d2, d3, d4] }
  | _ => none }
def InletEndsWrongFalsely : Prop := inletEndsRow.holds Try.pinned (OpenSpec.ofChange inletEndsWrong)

/-- 'skifflaw19.InletNil': WHATEVER THE INPUT: true; the input reads as it did. -/
def inletNilSpec : ChangeSpec := { name := "inletNil", fn := fun _ => fun
  | [d] => { results := [.lit (.bool true)], args := [d] }
  | _ => none }
def inletNilRow : OpenClaim := { program := "ytbbhjdopfpkhfaa", sum := "f197ce68afb3d03164299a685cdc061e1c5f02aeed643b0ee2d6dc439de877cb", func := "skiff/skifflaw19.InletNil", spec := "inletNil", apart := false }
def InletNilSaid : Prop := inletNilRow.holds Try.pinned (OpenSpec.ofChange inletNilSpec)

/-- ITS FALSE NEIGHBOUR: 'it returns false'. Refute it at one input. -/
def inletNilWrong : ChangeSpec := { name := "inletNil", fn := fun _ => fun
  | [d] => { results := [.lit (.bool false)], args := [d] }
  | _ => none }
def InletNilWrongFalsely : Prop := inletNilRow.holds Try.pinned (OpenSpec.ofChange inletNilWrong)

/-- 'skifflaw20.OutletRoom': WHATEVER THE INPUT: true; the input reads as it did. -/
def outletRoomSpec : ChangeSpec := { name := "outletRoom", fn := fun _ => fun
  | [d1, d2, d3] => { results := [.lit (.bool true)], args := [d1, d2, d3] }
  | _ => none }
def outletRoomRow : OpenClaim := { program := "ytbbhjdopfpkhfaa", sum := "f197ce68afb3d03164299a685cdc061e1c5f02aeed643b0ee2d6dc439de877cb", func := "skiff/skifflaw20.OutletRoom", spec := "outletRoom", apart := false }
def OutletRoomSaid : Prop := outletRoomRow.holds Try.pinned (OpenSpec.ofChange outletRoomSpec)

/-- ITS FALSE NEIGHBOUR: 'it returns false'. Refute it at one input. -/
def outletRoomWrong : ChangeSpec := { name := "outletRoom", fn := fun _ => fun
  | [d1, d2, d3] => { results := [.lit (.bool false)], args := [d1, d2, d3] }
  | _ => none }
def OutletRoomWrongFalsely : Prop := outletRoomRow.holds Try.pinned (OpenSpec.ofChange outletRoomWrong)

/-- 'skifflaw20.OutletGone': WHATEVER THE INPUT: true; the input reads as it did. -/
def outletGoneSpec : ChangeSpec := { name := "outletGone", fn := fun _ => fun
  | [d1, d2, d3] => { results := [.lit (.bool true)], args := [d1, d2, d3] }
  | _ => none }
def outletGoneRow : OpenClaim := { program := "ytbbhjdopfpkhfaa", sum := "f197ce68afb3d03164299a685cdc061e1c5f02aeed643b0ee2d6dc439de877cb", func := "skiff/skifflaw20.OutletGone", spec := "outletGone", apart := false }
def OutletGoneSaid : Prop := outletGoneRow.holds Try.pinned (OpenSpec.ofChange outletGoneSpec)

/-- ITS FALSE NEIGHBOUR: 'it returns false'. Refute it at one input. -/
def outletGoneWrong : ChangeSpec := { name := "outletGone", fn := fun _ => fun
  | [d1, d2, d3] => { results := [.lit (.bool false)], args := [d1, d2, d3] }
  | _ => none }
def OutletGoneWrongFalsely : Prop := outletGoneRow.holds Try.pinned (OpenSpec.ofChange outletGoneWrong)

/-- 'skifflaw20.OutletKeeps': WHATEVER THE INPUT: true; the input reads as it did. -/
def outletKeepsSpec : ChangeSpec := { name := "outletKeeps", fn := fun _ => fun
  | [d1, d2] => { results := [.lit (.bool true)], args := [d1, d2] }
  | _ => none }
def outletKeepsRow : OpenClaim := { program := "ytbbhjdopfpkhfaa", sum := "f197ce68afb3d03164299a685cdc061e1c5f02aeed643b0ee2d6dc439de877cb", func := "skiff/skifflaw20.OutletKeeps", spec := "outletKeeps", apart := false }
def OutletKeepsSaid : Prop := outletKeepsRow.holds Try.pinned (OpenSpec.ofChange outletKeepsSpec)

/-- ITS FALSE NEIGHBOUR: 'it returns false'. Refute it at one input. -/
def outletKeepsWrong : ChangeSpec := { name := "outletKeeps", fn := fun _ => fun
  | [d1, d2] => { results := [.lit (.bool false)], args := [d1, d2] }
  | _ => none }
def OutletKeepsWrongFalsely : Prop := outletKeepsRow.holds Try.pinned (OpenSpec.ofChange outletKeepsWrong)

/-- 'skifflaw20.OutletPlays': WHATEVER THE INPUT: true; the input reads as it did. -/
def outletPlaysSpec : ChangeSpec := { name := "outletPlays", fn := fun _ => fun
  | [d1, d2] => { results := [.lit (.bool true)], args := [d1, d2] }
  | _ => none }
def outletPlaysRow : OpenClaim := { program := "ytbbhjdopfpkhfaa", sum := "f197ce68afb3d03164299a685cdc061e1c5f02aeed643b0ee2d6dc439de877cb", func := "skiff/skifflaw20.OutletPlays", spec := "outletPlays", apart := false }
def OutletPlaysSaid : Prop := outletPlaysRow.holds Try.pinned (OpenSpec.ofChange outletPlaysSpec)

/-- ITS FALSE NEIGHBOUR: 'it returns false'. Refute it at one input. -/
def outletPlaysWrong : ChangeSpec := { name := "outletPlays", fn := fun _ => fun
  | [d1, d2] => { results := [.lit (.bool false)], args := [d1, d2] }
  | _ => none }
def OutletPlaysWrongFalsely : Prop := outletPlaysRow.holds Try.pinned (OpenSpec.ofChange outletPlaysWrong)

/-- 'skifflaw20.OutletNil': WHATEVER THE INPUT: true; the input reads as it did. -/
def outletNilSpec : ChangeSpec := { name := "outletNil", fn := fun _ => fun
  | [d] => { results := [.lit (.bool true)], args := [d] }
  | _ => none }
def outletNilRow : OpenClaim := { program := "ytbbhjdopfpkhfaa", sum := "f197ce68afb3d03164299a685cdc061e1c5f02aeed643b0ee2d6dc439de877cb", func := "skiff/skifflaw20.OutletNil", spec := "outletNil", apart := false }
def OutletNilSaid : Prop := outletNilRow.holds Try.pinned (OpenSpec.ofChange outletNilSpec)

/-- ITS FALSE NEIGHBOUR: 'it returns false'. Refute it at one input. -/
def outletNilWrong : ChangeSpec := { name := "outletNil", fn := fun _ => fun
  | [d] => { results := [.lit (.bool false)], args := [d] }
  | _ => none }
def OutletNilWrongFalsely : Prop := outletNilRow.holds Try.pinned (OpenSpec.ofChange outletNilWrong)

/-- 'skifflaw17.SeenPlays': WHATEVER THE INPUT: true; the input reads as it did. -/
def seenPlaysSpec : ChangeSpec := { name := "seenPlays", fn := fun _ => fun
  | [d] => { results := [.lit (.bool true)], args := [d] }
  | _ => none }
def seenPlaysRow : OpenClaim := { program := "ytbbhjdopfpkhfaa", sum := "f197ce68afb3d03164299a685cdc061e1c5f02aeed643b0ee2d6dc439de877cb", func := "skiff/skifflaw17.SeenPlays", spec := "seenPlays", inPlace := ["slices.overlaps[skiff/api.Span]"], unfollowed := true, recurses := true, apart := false }
def SeenPlaysSaid : Prop := seenPlaysRow.holds Try.pinned (OpenSpec.ofChange seenPlaysSpec)

/-- ITS FALSE NEIGHBOUR: 'it returns false'. Refute it at one input. -/
def seenPlaysWrong : ChangeSpec := { name := "seenPlays", fn := fun _ => fun
  | [d] => { results := [.lit (.bool false)], args := [d] }
  | _ => none }
def SeenPlaysWrongFalsely : Prop := seenPlaysRow.holds Try.pinned (OpenSpec.ofChange seenPlaysWrong)

/-- 'skifflaw17.SeenGaps': WHATEVER THE INPUT: true; the input reads as it did. -/
def seenGapsSpec : ChangeSpec := { name := "seenGaps", fn := fun _ => fun
  | [d1, d2] => { results := [.lit (.bool true)], args := [d1, d2] }
  | _ => none }
def seenGapsRow : OpenClaim := { program := "ytbbhjdopfpkhfaa", sum := "f197ce68afb3d03164299a685cdc061e1c5f02aeed643b0ee2d6dc439de877cb", func := "skiff/skifflaw17.SeenGaps", spec := "seenGaps", inPlace := ["slices.overlaps[skiff/api.Span]"], unfollowed := true, recurses := true, apart := false }
def SeenGapsSaid : Prop := seenGapsRow.holds Try.pinned (OpenSpec.ofChange seenGapsSpec)

/-- ITS FALSE NEIGHBOUR: 'it returns false'. Refute it at one input. -/
def seenGapsWrong : ChangeSpec := { name := "seenGaps", fn := fun _ => fun
  | [d1, d2] => { results := [.lit (.bool false)], args := [d1, d2] }
  | _ => none }
def SeenGapsWrongFalsely : Prop := seenGapsRow.holds Try.pinned (OpenSpec.ofChange seenGapsWrong)

/-- 'skifflaw17.SeenOnce': WHATEVER THE INPUT: true; the input reads as it did. -/
def seenOnceSpec : ChangeSpec := { name := "seenOnce", fn := fun _ => fun
  | [d] => { results := [.lit (.bool true)], args := [d] }
  | _ => none }
def seenOnceRow : OpenClaim := { program := "ytbbhjdopfpkhfaa", sum := "f197ce68afb3d03164299a685cdc061e1c5f02aeed643b0ee2d6dc439de877cb", func := "skiff/skifflaw17.SeenOnce", spec := "seenOnce", inPlace := ["slices.overlaps[skiff/api.Span]"], unfollowed := true, recurses := true, apart := false }
def SeenOnceSaid : Prop := seenOnceRow.holds Try.pinned (OpenSpec.ofChange seenOnceSpec)

/-- ITS FALSE NEIGHBOUR: 'it returns false'. Refute it at one input. -/
def seenOnceWrong : ChangeSpec := { name := "seenOnce", fn := fun _ => fun
  | [d] => { results := [.lit (.bool false)], args := [d] }
  | _ => none }
def SeenOnceWrongFalsely : Prop := seenOnceRow.holds Try.pinned (OpenSpec.ofChange seenOnceWrong)

/-- 'skifflaw17.SeenNil': WHATEVER THE INPUT: true; the input reads as it did. -/
def seenNilSpec : ChangeSpec := { name := "seenNil", fn := fun _ => fun
  | [d1, d2] => { results := [.lit (.bool true)], args := [d1, d2] }
  | _ => none }
def seenNilRow : OpenClaim := { program := "ytbbhjdopfpkhfaa", sum := "f197ce68afb3d03164299a685cdc061e1c5f02aeed643b0ee2d6dc439de877cb", func := "skiff/skifflaw17.SeenNil", spec := "seenNil", inPlace := ["slices.overlaps[skiff/api.Span]"], unfollowed := true, recurses := true, apart := false }
def SeenNilSaid : Prop := seenNilRow.holds Try.pinned (OpenSpec.ofChange seenNilSpec)

/-- ITS FALSE NEIGHBOUR: 'it returns false'. Refute it at one input. -/
def seenNilWrong : ChangeSpec := { name := "seenNil", fn := fun _ => fun
  | [d1, d2] => { results := [.lit (.bool false)], args := [d1, d2] }
  | _ => none }
def SeenNilWrongFalsely : Prop := seenNilRow.holds Try.pinned (OpenSpec.ofChange seenNilWrong)

/-- 'skifflaw17.SeenRow': WHATEVER THE INPUT: true; the input reads as it did. -/
def seenRowSpec : ChangeSpec := { name := "seenRow", fn := fun _ => fun
  | [d1, d2, d3] => { results := [.lit (.bool true)], args := [d1, d2, d3] }
  | _ => none }
def seenRowRow : OpenClaim := { program := "ytbbhjdopfpkhfaa", sum := "f197ce68afb3d03164299a685cdc061e1c5f02aeed643b0ee2d6dc439de877cb", func := "skiff/skifflaw17.SeenRow", spec := "seenRow", inPlace := ["slices.overlaps[skiff/api.Span]"], unfollowed := true, recurses := true, apart := false }
def SeenRowSaid : Prop := seenRowRow.holds Try.pinned (OpenSpec.ofChange seenRowSpec)

/-- ITS FALSE NEIGHBOUR: 'it returns false'. Refute it at one input. -/
def seenRowWrong : ChangeSpec := { name := "seenRow", fn := fun _ => fun
  | [d1, d2, d3] => { results := [.lit (.bool false)], args := [d1, d2, d3] }
  | _ => none }
def SeenRowWrongFalsely : Prop := seenRowRow.holds Try.pinned (OpenSpec.ofChange seenRowWrong)

/- THE SECOND FORM. 'bulk': how many values and letters a reading holds, each counted each time it is reached (what is shared counts as often as it is met; a slice's spare places count too). A statement '..UptoSaid' is the law's where the arguments, and the package variables that the reading takes, are together of bulk at most 1048576: NARROWER than '..Said'. Prove '..Said' where nothing that the law and all that it calls make is longer than what came in: it says more and counts as full. Else prove '..UptoSaid'. A law counts once. -/
mutual
def uptoBulk {H : Type} : DataW H → Nat
  | .lit (.string bytes) => bytes.length + 1
  | .lit _ => 1
  | .nil => 1
  | .ptr d => uptoBulk d + 1
  | .slice elems spare => uptoBulkAll elems + uptoBulkAll spare + 1
  | .agg parts => uptoBulkAll parts + 1
  | .iface _ d => uptoBulk d + 1
  | .map entries => uptoBulkEntries entries + 1
  | .held _ => 1
def uptoBulkAll {H : Type} : List (DataW H) → Nat
  | [] => 0
  | d :: r => uptoBulk d + uptoBulkAll r
def uptoBulkEntries {H : Type} : List (Lit × DataW H) → Nat
  | [] => 0
  | x :: r => uptoBulkEntry x + uptoBulkEntries r
def uptoBulkEntry {H : Type} : Lit × DataW H → Nat
  | (.string bytes, d) => bytes.length + uptoBulk d + 1
  | (_, d) => uptoBulk d + 1
 end
def uptoSmall : (H : Type) → List (DataW H) → Bool := fun _ ds => decide (uptoBulkAll ds ≤ 1048576)
def OpenSpec.upto (s : _root_.Go.ChangeSpec) : _root_.Go.OpenSpec := { _root_.Go.OpenSpec.ofChange s with cond := some uptoSmall }

/-- 'skifflaw19.InletAll', WHERE WHAT IT READS IS OF BULK AT MOST 1048576: true; the input reads as it did. -/
def inletAllUptoRow : OpenClaim := { program := "ytbbhjdopfpkhfaa", sum := "f197ce68afb3d03164299a685cdc061e1c5f02aeed643b0ee2d6dc439de877cb", func := "skiff/skifflaw19.InletAll", spec := "inletAll", apart := false, narrowed := true }
def InletAllUptoSaid : Prop := inletAllUptoRow.holds Try.pinned (OpenSpec.upto inletAllSpec)

/-- 'skifflaw19.InletRoom', WHERE WHAT IT READS IS OF BULK AT MOST 1048576: true; the input reads as it did. -/
def inletRoomUptoRow : OpenClaim := { program := "ytbbhjdopfpkhfaa", sum := "f197ce68afb3d03164299a685cdc061e1c5f02aeed643b0ee2d6dc439de877cb", func := "skiff/skifflaw19.InletRoom", spec := "inletRoom", apart := false, narrowed := true }
def InletRoomUptoSaid : Prop := inletRoomUptoRow.holds Try.pinned (OpenSpec.upto inletRoomSpec)

/-- 'skifflaw19.InletEnds', WHERE WHAT IT READS IS OF BULK AT MOST 1048576: true; the input reads as it did. -/
def inletEndsUptoRow : OpenClaim := { program := "ytbbhjdopfpkhfaa", sum := "f197ce68afb3d03164299a685cdc061e1c5f02aeed643b0ee2d6dc439de877cb", func := "skiff/skifflaw19.InletEnds", spec := "inletEnds", apart := false, narrowed := true }
def InletEndsUptoSaid : Prop := inletEndsUptoRow.holds Try.pinned (OpenSpec.upto inletEndsSpec)

/-- 'skifflaw19.InletNil', WHERE WHAT IT READS IS OF BULK AT MOST 1048576: true; the input reads as it did. -/
def inletNilUptoRow : OpenClaim := { program := "ytbbhjdopfpkhfaa", sum := "f197ce68afb3d03164299a685cdc061e1c5f02aeed643b0ee2d6dc439de877cb", func := "skiff/skifflaw19.InletNil", spec := "inletNil", apart := false, narrowed := true }
def InletNilUptoSaid : Prop := inletNilUptoRow.holds Try.pinned (OpenSpec.upto inletNilSpec)

/-- 'skifflaw20.OutletRoom', WHERE WHAT IT READS IS OF BULK AT MOST 1048576: true; the input reads as it did. -/
def outletRoomUptoRow : OpenClaim := { program := "ytbbhjdopfpkhfaa", sum := "f197ce68afb3d03164299a685cdc061e1c5f02aeed643b0ee2d6dc439de877cb", func := "skiff/skifflaw20.OutletRoom", spec := "outletRoom", apart := false, narrowed := true }
def OutletRoomUptoSaid : Prop := outletRoomUptoRow.holds Try.pinned (OpenSpec.upto outletRoomSpec)

/-- 'skifflaw20.OutletGone', WHERE WHAT IT READS IS OF BULK AT MOST 1048576: true; the input reads as it did. -/
def outletGoneUptoRow : OpenClaim := { program := "ytbbhjdopfpkhfaa", sum := "f197ce68afb3d03164299a685cdc061e1c5f02aeed643b0ee2d6dc439de877cb", func := "skiff/skifflaw20.OutletGone", spec := "outletGone", apart := false, narrowed := true }
def OutletGoneUptoSaid : Prop := outletGoneUptoRow.holds Try.pinned (OpenSpec.upto outletGoneSpec)

/-- 'skifflaw20.OutletKeeps', WHERE WHAT IT READS IS OF BULK AT MOST 1048576: true; the input reads as it did. -/
def outletKeepsUptoRow : OpenClaim := { program := "ytbbhjdopfpkhfaa", sum := "f197ce68afb3d03164299a685cdc061e1c5f02aeed643b0ee2d6dc439de877cb", func := "skiff/skifflaw20.OutletKeeps", spec := "outletKeeps", apart := false, narrowed := true }
def OutletKeepsUptoSaid : Prop := outletKeepsUptoRow.holds Try.pinned (OpenSpec.upto outletKeepsSpec)

/-- 'skifflaw20.OutletPlays', WHERE WHAT IT READS IS OF BULK AT MOST 1048576: true; the input reads as it did. -/
def outletPlaysUptoRow : OpenClaim := { program := "ytbbhjdopfpkhfaa", sum := "f197ce68afb3d03164299a685cdc061e1c5f02aeed643b0ee2d6dc439de877cb", func := "skiff/skifflaw20.OutletPlays", spec := "outletPlays", apart := false, narrowed := true }
def OutletPlaysUptoSaid : Prop := outletPlaysUptoRow.holds Try.pinned (OpenSpec.upto outletPlaysSpec)

/-- 'skifflaw20.OutletNil', WHERE WHAT IT READS IS OF BULK AT MOST 1048576: true; the input reads as it did. -/
def outletNilUptoRow : OpenClaim := { program := "ytbbhjdopfpkhfaa", sum := "f197ce68afb3d03164299a685cdc061e1c5f02aeed643b0ee2d6dc439de877cb", func := "skiff/skifflaw20.OutletNil", spec := "outletNil", apart := false, narrowed := true }
def OutletNilUptoSaid : Prop := outletNilUptoRow.holds Try.pinned (OpenSpec.upto outletNilSpec)

/-- 'skifflaw17.SeenPlays', WHERE WHAT IT READS IS OF BULK AT MOST 1048576: true; the input reads as it did. -/
def seenPlaysUptoRow : OpenClaim := { program := "ytbbhjdopfpkhfaa", sum := "f197ce68afb3d03164299a685cdc061e1c5f02aeed643b0ee2d6dc439de877cb", func := "skiff/skifflaw17.SeenPlays", spec := "seenPlays", inPlace := ["slices.overlaps[skiff/api.Span]"], unfollowed := true, recurses := true, apart := false, narrowed := true }
def SeenPlaysUptoSaid : Prop := seenPlaysUptoRow.holds Try.pinned (OpenSpec.upto seenPlaysSpec)

/-- 'skifflaw17.SeenGaps', WHERE WHAT IT READS IS OF BULK AT MOST 1048576: true; the input reads as it did. -/
def seenGapsUptoRow : OpenClaim := { program := "ytbbhjdopfpkhfaa", sum := "f197ce68afb3d03164299a685cdc061e1c5f02aeed643b0ee2d6dc439de877cb", func := "skiff/skifflaw17.SeenGaps", spec := "seenGaps", inPlace := ["slices.overlaps[skiff/api.Span]"], unfollowed := true, recurses := true, apart := false, narrowed := true }
def SeenGapsUptoSaid : Prop := seenGapsUptoRow.holds Try.pinned (OpenSpec.upto seenGapsSpec)

/-- 'skifflaw17.SeenOnce', WHERE WHAT IT READS IS OF BULK AT MOST 1048576: true; the input reads as it did. -/
def seenOnceUptoRow : OpenClaim := { program := "ytbbhjdopfpkhfaa", sum := "f197ce68afb3d03164299a685cdc061e1c5f02aeed643b0ee2d6dc439de877cb", func := "skiff/skifflaw17.SeenOnce", spec := "seenOnce", inPlace := ["slices.overlaps[skiff/api.Span]"], unfollowed := true, recurses := true, apart := false, narrowed := true }
def SeenOnceUptoSaid : Prop := seenOnceUptoRow.holds Try.pinned (OpenSpec.upto seenOnceSpec)

/-- 'skifflaw17.SeenNil', WHERE WHAT IT READS IS OF BULK AT MOST 1048576: true; the input reads as it did. -/
def seenNilUptoRow : OpenClaim := { program := "ytbbhjdopfpkhfaa", sum := "f197ce68afb3d03164299a685cdc061e1c5f02aeed643b0ee2d6dc439de877cb", func := "skiff/skifflaw17.SeenNil", spec := "seenNil", inPlace := ["slices.overlaps[skiff/api.Span]"], unfollowed := true, recurses := true, apart := false, narrowed := true }
def SeenNilUptoSaid : Prop := seenNilUptoRow.holds Try.pinned (OpenSpec.upto seenNilSpec)

/-- 'skifflaw17.SeenRow', WHERE WHAT IT READS IS OF BULK AT MOST 1048576: true; the input reads as it did. -/
def seenRowUptoRow : OpenClaim := { program := "ytbbhjdopfpkhfaa", sum := "f197ce68afb3d03164299a685cdc061e1c5f02aeed643b0ee2d6dc439de877cb", func := "skiff/skifflaw17.SeenRow", spec := "seenRow", inPlace := ["slices.overlaps[skiff/api.Span]"], unfollowed := true, recurses := true, apart := false, narrowed := true }
def SeenRowUptoSaid : Prop := seenRowUptoRow.holds Try.pinned (OpenSpec.upto seenRowSpec)

end Rows
end Go.Proofs.Ytbbhjdopfpkhfaa
