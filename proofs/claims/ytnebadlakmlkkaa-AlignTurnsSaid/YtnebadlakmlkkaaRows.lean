/-
  No cell of these rows narrows 'for every input' (looked for: loops, veiled, ifaces, maps, wideKeys, modest, calm, conditions, laid).
  DERIVED. THE GIVEN ROWS OF THIS SEAT. 11 by the template 'for every input the law returns true; each argument reads behind the call as it read before'; 0 by the template 'total and deterministic' (their statements: YtnebadlakmlkkaaTotals.lean).
  GIVEN WITH THE SEED: the statements are not yours to turn. If you find one false, say at which input.
  Laid BY PROGRAM, IN A SANDBOX (cutbox-rows.mjs): the forced cells as the released guide's own fill.sh prints them over the translation 93a21d9cf4751b99… (all of the seat's roots in one cut). By AI agents, Wed Nov 11 2026. No macro, syntax, notation, axiom, sorry.
-/
import Derived.Test.YtnebadlakmlkkaaChecked
import GoSem.Claim
import GoSem.ClaimJoined
import GoSem.ClaimMapViews
import Derived.JoinedTies
import Derived.KernelRfl
namespace Go.Proofs.Ytnebadlakmlkkaa
/- THE CELL 'sum', in the pinned program and in every row, IS THE sha256 OF THE DUMP (.gsa) THAT YtnebadlakmlkkaaProg.lean LOADS. Nothing in Lean hashes anything: it is a label: what it is worth is what the hold of that sum in a sandbox is worth. -/
noncomputable def Try.pinned : Pinned := { name := "ytnebadlakmlkkaa", sum := "93a21d9cf4751b999bb1a348b4bb8dfbc6609060e4379723caefdc2bbe97a8dd", checked := Try.checked }
namespace Rows
def none {H : Type} : Left H := { results := [], args := [] }

/-- 'sennitlaw05.AlignCovers': WHATEVER THE INPUT: true; the input reads as it did. -/
def alignCoversSpec : ChangeSpec := { name := "alignCovers", fn := fun _ => fun
  | [d1, d2] => { results := [.lit (.bool true)], args := [d1, d2] }
  | _ => none }
def alignCoversRow : OpenClaim := { program := "ytnebadlakmlkkaa", sum := "93a21d9cf4751b999bb1a348b4bb8dfbc6609060e4379723caefdc2bbe97a8dd", func := "sennit/sennitlaw05.AlignCovers", spec := "alignCovers", unfollowed := true, recurses := true, apart := false }
def AlignCoversSaid : Prop := alignCoversRow.holds Try.pinned (OpenSpec.ofChange alignCoversSpec)

/-- ITS FALSE NEIGHBOUR: 'it returns false'. Refute it at one input. -/
def alignCoversWrong : ChangeSpec := { name := "alignCovers", fn := fun _ => fun
  | [d1, d2] => { results := [.lit (.bool false)], args := [d1, d2] }
  | _ => none }
def AlignCoversWrongFalsely : Prop := alignCoversRow.holds Try.pinned (OpenSpec.ofChange alignCoversWrong)

/-- 'sennitlaw05.AlignStable': WHATEVER THE INPUT: true; the input reads as it did. -/
def alignStableSpec : ChangeSpec := { name := "alignStable", fn := fun _ => fun
  | [d1, d2] => { results := [.lit (.bool true)], args := [d1, d2] }
  | _ => none }
def alignStableRow : OpenClaim := { program := "ytnebadlakmlkkaa", sum := "93a21d9cf4751b999bb1a348b4bb8dfbc6609060e4379723caefdc2bbe97a8dd", func := "sennit/sennitlaw05.AlignStable", spec := "alignStable", unfollowed := true, recurses := true, apart := false }
def AlignStableSaid : Prop := alignStableRow.holds Try.pinned (OpenSpec.ofChange alignStableSpec)

/-- ITS FALSE NEIGHBOUR: 'it returns false'. Refute it at one input. -/
def alignStableWrong : ChangeSpec := { name := "alignStable", fn := fun _ => fun
  | [d1, d2] => { results := [.lit (.bool false)], args := [d1, d2] }
  | _ => none }
def AlignStableWrongFalsely : Prop := alignStableRow.holds Try.pinned (OpenSpec.ofChange alignStableWrong)

/-- 'sennitlaw05.AlignUnique': WHATEVER THE INPUT: true; the input reads as it did. -/
def alignUniqueSpec : ChangeSpec := { name := "alignUnique", fn := fun _ => fun
  | [d1, d2, d3] => { results := [.lit (.bool true)], args := [d1, d2, d3] }
  | _ => none }
def alignUniqueRow : OpenClaim := { program := "ytnebadlakmlkkaa", sum := "93a21d9cf4751b999bb1a348b4bb8dfbc6609060e4379723caefdc2bbe97a8dd", func := "sennit/sennitlaw05.AlignUnique", spec := "alignUnique", unfollowed := true, recurses := true, apart := false }
def AlignUniqueSaid : Prop := alignUniqueRow.holds Try.pinned (OpenSpec.ofChange alignUniqueSpec)

/-- ITS FALSE NEIGHBOUR: 'it returns false'. Refute it at one input. -/
def alignUniqueWrong : ChangeSpec := { name := "alignUnique", fn := fun _ => fun
  | [d1, d2, d3] => { results := [.lit (.bool false)], args := [d1, d2, d3] }
  | _ => none }
def AlignUniqueWrongFalsely : Prop := alignUniqueRow.holds Try.pinned (OpenSpec.ofChange alignUniqueWrong)

/-- 'sennitlaw05.AlignTurns': WHATEVER THE INPUT: true; the input reads as it did. -/
def alignTurnsSpec : ChangeSpec := { name := "alignTurns", fn := fun _ => fun
  | [d1, d2, d3] => { results := [.lit (.bool true)], args := [d1, d2, d3] }
  | _ => none }
def alignTurnsRow : OpenClaim := { program := "ytnebadlakmlkkaa", sum := "93a21d9cf4751b999bb1a348b4bb8dfbc6609060e4379723caefdc2bbe97a8dd", func := "sennit/sennitlaw05.AlignTurns", spec := "alignTurns", unfollowed := true, recurses := true, apart := false }
def AlignTurnsSaid : Prop := alignTurnsRow.holds Try.pinned (OpenSpec.ofChange alignTurnsSpec)

/-- ITS FALSE NEIGHBOUR: 'it returns false'. Refute it at one input. -/
def alignTurnsWrong : ChangeSpec := { name := "alignTurns", fn := fun _ => fun
  | [d1, d2, d3] => { results := [.lit (.bool false)], args := [d1, d2, d3] }
  | _ => none }
def AlignTurnsWrongFalsely : Prop := alignTurnsRow.holds Try.pinned (OpenSpec.ofChange alignTurnsWrong)

/-- 'sennitlaw04.EditTells': WHATEVER THE INPUT: true; the input reads as it did. -/
def editTellsSpec : ChangeSpec := { name := "editTells", fn := fun _ => fun
  | [d1, d2] => { results := [.lit (.bool true)], args := [d1, d2] }
  | _ => none }
def editTellsRow : OpenClaim := { program := "ytnebadlakmlkkaa", sum := "93a21d9cf4751b999bb1a348b4bb8dfbc6609060e4379723caefdc2bbe97a8dd", func := "sennit/sennitlaw04.EditTells", spec := "editTells", unfollowed := true, recurses := true, apart := false }
def EditTellsSaid : Prop := editTellsRow.holds Try.pinned (OpenSpec.ofChange editTellsSpec)

/-- ITS FALSE NEIGHBOUR: 'it returns false'. Refute it at one input. -/
def editTellsWrong : ChangeSpec := { name := "editTells", fn := fun _ => fun
  | [d1, d2] => { results := [.lit (.bool false)], args := [d1, d2] }
  | _ => none }
def EditTellsWrongFalsely : Prop := editTellsRow.holds Try.pinned (OpenSpec.ofChange editTellsWrong)

/-- 'sennitlaw04.EditMatches': WHATEVER THE INPUT: true; the input reads as it did. -/
def editMatchesSpec : ChangeSpec := { name := "editMatches", fn := fun _ => fun
  | [d1, d2, d3] => { results := [.lit (.bool true)], args := [d1, d2, d3] }
  | _ => none }
def editMatchesRow : OpenClaim := { program := "ytnebadlakmlkkaa", sum := "93a21d9cf4751b999bb1a348b4bb8dfbc6609060e4379723caefdc2bbe97a8dd", func := "sennit/sennitlaw04.EditMatches", spec := "editMatches", unfollowed := true, recurses := true, apart := false }
def EditMatchesSaid : Prop := editMatchesRow.holds Try.pinned (OpenSpec.ofChange editMatchesSpec)

/-- ITS FALSE NEIGHBOUR: 'it returns false'. Refute it at one input. -/
def editMatchesWrong : ChangeSpec := { name := "editMatches", fn := fun _ => fun
  | [d1, d2, d3] => { results := [.lit (.bool false)], args := [d1, d2, d3] }
  | _ => none }
def EditMatchesWrongFalsely : Prop := editMatchesRow.holds Try.pinned (OpenSpec.ofChange editMatchesWrong)

/-- 'sennitlaw04.EditBack': WHATEVER THE INPUT: true; the input reads as it did. -/
def editBackSpec : ChangeSpec := { name := "editBack", fn := fun _ => fun
  | [d1, d2] => { results := [.lit (.bool true)], args := [d1, d2] }
  | _ => none }
def editBackRow : OpenClaim := { program := "ytnebadlakmlkkaa", sum := "93a21d9cf4751b999bb1a348b4bb8dfbc6609060e4379723caefdc2bbe97a8dd", func := "sennit/sennitlaw04.EditBack", spec := "editBack", unfollowed := true, recurses := true, apart := false }
def EditBackSaid : Prop := editBackRow.holds Try.pinned (OpenSpec.ofChange editBackSpec)

/-- ITS FALSE NEIGHBOUR: 'it returns false'. Refute it at one input. -/
def editBackWrong : ChangeSpec := { name := "editBack", fn := fun _ => fun
  | [d1, d2] => { results := [.lit (.bool false)], args := [d1, d2] }
  | _ => none }
def EditBackWrongFalsely : Prop := editBackRow.holds Try.pinned (OpenSpec.ofChange editBackWrong)

/-- 'sennitlaw04.EditOne': WHATEVER THE INPUT: true; the input reads as it did. -/
def editOneSpec : ChangeSpec := { name := "editOne", fn := fun _ => fun
  | [d1, d2, d3] => { results := [.lit (.bool true)], args := [d1, d2, d3] }
  | _ => none }
def editOneRow : OpenClaim := { program := "ytnebadlakmlkkaa", sum := "93a21d9cf4751b999bb1a348b4bb8dfbc6609060e4379723caefdc2bbe97a8dd", func := "sennit/sennitlaw04.EditOne", spec := "editOne", unfollowed := true, recurses := true, apart := false }
def EditOneSaid : Prop := editOneRow.holds Try.pinned (OpenSpec.ofChange editOneSpec)

/-- ITS FALSE NEIGHBOUR: 'it returns false'. Refute it at one input. -/
def editOneWrong : ChangeSpec := { name := "editOne", fn := fun _ => fun
  | [d1, d2, d3] => { results := [.lit (.bool false)], args := [d1, d2, d3] }
  | _ => none }
def EditOneWrongFalsely : Prop := editOneRow.holds Try.pinned (OpenSpec.ofChange editOneWrong)

/-- 'sennitlaw04.EditSwaps': WHATEVER THE INPUT: true; the input reads as it did. -/
def editSwapsSpec : ChangeSpec := { name := "editSwaps", fn := fun _ => fun
  | [d1, d2] => { results := [.lit (.bool true)], args := [d1, d2] }
  | _ => none }
def editSwapsRow : OpenClaim := { program := "ytnebadlakmlkkaa", sum := "93a21d9cf4751b999bb1a348b4bb8dfbc6609060e4379723caefdc2bbe97a8dd", func := "sennit/sennitlaw04.EditSwaps", spec := "editSwaps", unfollowed := true, recurses := true, apart := false }
def EditSwapsSaid : Prop := editSwapsRow.holds Try.pinned (OpenSpec.ofChange editSwapsSpec)

/-- ITS FALSE NEIGHBOUR: 'it returns false'. Refute it at one input. -/
def editSwapsWrong : ChangeSpec := { name := "editSwaps", fn := fun _ => fun
  | [d1, d2] => { results := [.lit (.bool false)], args := [d1, d2] }
  | _ => none }
def EditSwapsWrongFalsely : Prop := editSwapsRow.holds Try.pinned (OpenSpec.ofChange editSwapsWrong)

/-- 'sennitlaw04.EditCounts': WHATEVER THE INPUT: true; the input reads as it did. -/
def editCountsSpec : ChangeSpec := { name := "editCounts", fn := fun _ => fun
  | [d1, d2] => { results := [.lit (.bool true)], args := [d1, d2] }
  | _ => none }
def editCountsRow : OpenClaim := { program := "ytnebadlakmlkkaa", sum := "93a21d9cf4751b999bb1a348b4bb8dfbc6609060e4379723caefdc2bbe97a8dd", func := "sennit/sennitlaw04.EditCounts", spec := "editCounts", unfollowed := true, recurses := true, apart := false }
def EditCountsSaid : Prop := editCountsRow.holds Try.pinned (OpenSpec.ofChange editCountsSpec)

/-- ITS FALSE NEIGHBOUR: 'it returns false'. Refute it at one input. -/
def editCountsWrong : ChangeSpec := { name := "editCounts", fn := fun _ => fun
  | [d1, d2] => { results := [.lit (.bool false)], args := [d1, d2] }
  | _ => none }
def EditCountsWrongFalsely : Prop := editCountsRow.holds Try.pinned (OpenSpec.ofChange editCountsWrong)

/-- 'sennitlaw05.AlignOne': WHATEVER THE INPUT: true; the input reads as it did. -/
def alignOneSpec : ChangeSpec := { name := "alignOne", fn := fun _ => fun
  | [d1, d2] => { results := [.lit (.bool true)], args := [d1, d2] }
  | _ => none }
def alignOneRow : OpenClaim := { program := "ytnebadlakmlkkaa", sum := "93a21d9cf4751b999bb1a348b4bb8dfbc6609060e4379723caefdc2bbe97a8dd", func := "sennit/sennitlaw05.AlignOne", spec := "alignOne", unfollowed := true, recurses := true, apart := false }
def AlignOneSaid : Prop := alignOneRow.holds Try.pinned (OpenSpec.ofChange alignOneSpec)

/-- ITS FALSE NEIGHBOUR: 'it returns false'. Refute it at one input. -/
def alignOneWrong : ChangeSpec := { name := "alignOne", fn := fun _ => fun
  | [d1, d2] => { results := [.lit (.bool false)], args := [d1, d2] }
  | _ => none }
def AlignOneWrongFalsely : Prop := alignOneRow.holds Try.pinned (OpenSpec.ofChange alignOneWrong)

/- THE SECOND FORM. 'bulk': how many values and letters a reading holds, each counted each time it is reached (what is shared counts as often as it is met; a slice's spare places count too). A statement '..UptoSaid' is the law's where the arguments, and the package variables that the reading takes, are together of bulk at most 1048576: NARROWER than '..Said'. Prove '..Said' where nothing that the law and all that it calls make is longer than what came in: it says more and counts as full. Else prove '..UptoSaid'. A law counts once. -/
mutual
def uptoBulk {H : Type} : DataW H → Nat
  | .lit (.string bytes) => bytes.length + 1
  | .lit _ => 1
  | .nil => 1
  | .ptr d => uptoBulk d + 1
  | .slice elems spare => uptoBulkAll elems + uptoBulkAll spare + 1
  | .agg parts => uptoBulkAll parts + 1
  | .iface _ d => uptoBulk d + 1
  | .map entries => uptoBulkEntries entries + 1
  | .held _ => 1
def uptoBulkAll {H : Type} : List (DataW H) → Nat
  | [] => 0
  | d :: r => uptoBulk d + uptoBulkAll r
def uptoBulkEntries {H : Type} : List (Lit × DataW H) → Nat
  | [] => 0
  | x :: r => uptoBulkEntry x + uptoBulkEntries r
def uptoBulkEntry {H : Type} : Lit × DataW H → Nat
  | (.string bytes, d) => bytes.length + uptoBulk d + 1
  | (_, d) => uptoBulk d + 1
 end
def uptoSmall : (H : Type) → List (DataW H) → Bool := fun _ ds => decide (uptoBulkAll ds ≤ 1048576)
def OpenSpec.upto (s : _root_.Go.ChangeSpec) : _root_.Go.OpenSpec := { _root_.Go.OpenSpec.ofChange s with cond := some uptoSmall }

/-- 'sennitlaw05.AlignCovers', WHERE WHAT IT READS IS OF BULK AT MOST 1048576: true; the input reads as it did. -/
def alignCoversUptoRow : OpenClaim := { program := "ytnebadlakmlkkaa", sum := "93a21d9cf4751b999bb1a348b4bb8dfbc6609060e4379723caefdc2bbe97a8dd", func := "sennit/sennitlaw05.AlignCovers", spec := "alignCovers", unfollowed := true, recurses := true, apart := false, narrowed := true }
def AlignCoversUptoSaid : Prop := alignCoversUptoRow.holds Try.pinned (OpenSpec.upto alignCoversSpec)

/-- 'sennitlaw05.AlignStable', WHERE WHAT IT READS IS OF BULK AT MOST 1048576: true; the input reads as it did. -/
def alignStableUptoRow : OpenClaim := { program := "ytnebadlakmlkkaa", sum := "93a21d9cf4751b999bb1a348b4bb8dfbc6609060e4379723caefdc2bbe97a8dd", func := "sennit/sennitlaw05.AlignStable", spec := "alignStable", unfollowed := true, recurses := true, apart := false, narrowed := true }
def AlignStableUptoSaid : Prop := alignStableUptoRow.holds Try.pinned (OpenSpec.upto alignStableSpec)

/-- 'sennitlaw05.AlignUnique', WHERE WHAT IT READS IS OF BULK AT MOST 1048576: true; the input reads as it did. -/
def alignUniqueUptoRow : OpenClaim := { program := "ytnebadlakmlkkaa", sum := "93a21d9cf4751b999bb1a348b4bb8dfbc6609060e4379723caefdc2bbe97a8dd", func := "sennit/sennitlaw05.AlignUnique", spec := "alignUnique", unfollowed := true, recurses := true, apart := false, narrowed := true }
def AlignUniqueUptoSaid : Prop := alignUniqueUptoRow.holds Try.pinned (OpenSpec.upto alignUniqueSpec)

/-- 'sennitlaw05.AlignTurns', WHERE WHAT IT READS IS OF BULK AT MOST 1048576: true; the input reads as it did. -/
def alignTurnsUptoRow : OpenClaim := { program := "ytnebadlakmlkkaa", sum := "93a21d9cf4751b999bb1a348b4bb8dfbc6609060e4379723caefdc2bbe97a8dd", func := "sennit/sennitlaw05.AlignTurns", spec := "alignTurns", unfollowed := true, recurses := true, apart := false, narrowed := true }
def AlignTurnsUptoSaid : Prop := alignTurnsUptoRow.holds Try.pinned (OpenSpec.upto alignTurnsSpec)

/-- 'sennitlaw04.EditTells', WHERE WHAT IT READS IS OF BULK AT MOST 1048576: true; the input reads as it did. -/
def editTellsUptoRow : OpenClaim := { program := "ytnebadlakmlkkaa", sum := "93a21d9cf4751b999bb1a348b4bb8dfbc6609060e4379723caefdc2bbe97a8dd", func := "sennit/sennitlaw04.EditTells", spec := "editTells", unfollowed := true, recurses := true, apart := false, narrowed := true }
def EditTellsUptoSaid : Prop := editTellsUptoRow.holds Try.pinned (OpenSpec.upto editTellsSpec)

/-- 'sennitlaw04.EditMatches', WHERE WHAT IT READS IS OF BULK AT MOST 1048576: true; the input reads as it did. -/
def editMatchesUptoRow : OpenClaim := { program := "ytnebadlakmlkkaa", sum := "93a21d9cf4751b999bb1a348b4bb8dfbc6609060e4379723caefdc2bbe97a8dd", func := "sennit/sennitlaw04.EditMatches", spec := "editMatches", unfollowed := true, recurses := true, apart := false, narrowed := true }
def EditMatchesUptoSaid : Prop := editMatchesUptoRow.holds Try.pinned (OpenSpec.upto editMatchesSpec)

/-- 'sennitlaw04.EditBack', WHERE WHAT IT READS IS OF BULK AT MOST 1048576: true; the input reads as it did. -/
def editBackUptoRow : OpenClaim := { program := "ytnebadlakmlkkaa", sum := "93a21d9cf4751b999bb1a348b4bb8dfbc6609060e4379723caefdc2bbe97a8dd", func := "sennit/sennitlaw04.EditBack", spec := "editBack", unfollowed := true, recurses := true, apart := false, narrowed := true }
def EditBackUptoSaid : Prop := editBackUptoRow.holds Try.pinned (OpenSpec.upto editBackSpec)

/-- 'sennitlaw04.EditOne', WHERE WHAT IT READS IS OF BULK AT MOST 1048576: true; the input reads as it did. -/
def editOneUptoRow : OpenClaim := { program := "ytnebadlakmlkkaa", sum := "93a21d9cf4751b999bb1a348b4bb8dfbc6609060e4379723caefdc2bbe97a8dd", func := "sennit/sennitlaw04.EditOne", spec := "editOne", unfollowed := true, recurses := true, apart := false, narrowed := true }
def EditOneUptoSaid : Prop := editOneUptoRow.holds Try.pinned (OpenSpec.upto editOneSpec)

/-- 'sennitlaw04.EditSwaps', WHERE WHAT IT READS IS OF BULK AT MOST 1048576: true; the input reads as it did. -/
def editSwapsUptoRow : OpenClaim := { program := "ytnebadlakmlkkaa", sum := "93a21d9cf4751b999bb1a348b4bb8dfbc6609060e4379723caefdc2bbe97a8dd", func := "sennit/sennitlaw04.EditSwaps", spec := "editSwaps", unfollowed := true, recurses := true, apart := false, narrowed := true }
def EditSwapsUptoSaid : Prop := editSwapsUptoRow.holds Try.pinned (OpenSpec.upto editSwapsSpec)

/-- 'sennitlaw04.EditCounts', WHERE WHAT IT READS IS OF BULK AT MOST 1048576: true; the input reads as it did. -/
def editCountsUptoRow : OpenClaim := { program := "ytnebadlakmlkkaa", sum := "93a21d9cf4751b999bb1a348b4bb8dfbc6609060e4379723caefdc2bbe97a8dd", func := "sennit/sennitlaw04.EditCounts", spec := "editCounts", unfollowed := true, recurses := true, apart := false, narrowed := true }
def EditCountsUptoSaid : Prop := editCountsUptoRow.holds Try.pinned (OpenSpec.upto editCountsSpec)

/-- 'sennitlaw05.AlignOne', WHERE WHAT IT READS IS OF BULK AT MOST 1048576: true; the input reads as it did. -/
def alignOneUptoRow : OpenClaim := { program := "ytnebadlakmlkkaa", sum := "93a21d9cf4751b999bb1a348b4bb8dfbc6609060e4379723caefdc2bbe97a8dd", func := "sennit/sennitlaw05.AlignOne", spec := "alignOne", unfollowed := true, recurses := true, apart := false, narrowed := true }
def AlignOneUptoSaid : Prop := alignOneUptoRow.holds Try.pinned (OpenSpec.upto alignOneSpec)

end Rows
end Go.Proofs.Ytnebadlakmlkkaa
