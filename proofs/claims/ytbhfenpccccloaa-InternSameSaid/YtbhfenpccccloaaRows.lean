/-
  No cell of these rows narrows 'for every input' (looked for: loops, veiled, ifaces, maps, wideKeys, modest, calm, conditions, laid).
  DERIVED. THE GIVEN ROWS OF THIS SEAT. 15 by the template 'for every input the law returns true; each argument reads behind the call as it read before'; 0 by the template 'total and deterministic' (their statements: YtbhfenpccccloaaTotals.lean).
  GIVEN WITH THE SEED: the statements are not yours to turn. If you find one false, say at which input.
  Laid BY PROGRAM, IN A SANDBOX (cutbox-rows.mjs): the forced cells as the released guide's own fill.sh prints them over the translation ca17ed08709f3934… (all of the seat's roots in one cut). By AI agents, Wed Nov 11 2026. No macro, syntax, notation, axiom, sorry.
-/
import Derived.Test.YtbhfenpccccloaaChecked
import GoSem.Claim
import GoSem.ClaimJoined
import GoSem.ClaimMapViews
import Derived.JoinedTies
import Derived.KernelRfl
namespace Go.Proofs.Ytbhfenpccccloaa
/- THE CELL 'sum', in the pinned program and in every row, IS THE sha256 OF THE DUMP (.gsa) THAT YtbhfenpccccloaaProg.lean LOADS. Nothing in Lean hashes anything: it is a label: what it is worth is what the hold of that sum in a sandbox is worth. -/
noncomputable def Try.pinned : Pinned := { name := "ytbhfenpccccloaa", sum := "ca17ed08709f393419c135dfe339fa1687f27fc5dc395c6439baa951923a3d6a", checked := Try.checked }
namespace Rows
def none {H : Type} : Left H := { results := [], args := [] }

/-- 'sennitlaw15.DotsBlock': WHATEVER THE INPUT: true; the input reads as it did. -/
def dotsBlockSpec : ChangeSpec := { name := "dotsBlock", fn := fun _ => fun
  | [d] => { results := [.lit (.bool true)], args := [d] }
  | _ => none }
def dotsBlockRow : OpenClaim := { program := "ytbhfenpccccloaa", sum := "ca17ed08709f393419c135dfe339fa1687f27fc5dc395c6439baa951923a3d6a", func := "sennit/sennitlaw15.DotsBlock", spec := "dotsBlock", unfollowed := true, recurses := true, apart := false }
def DotsBlockSaid : Prop := dotsBlockRow.holds Try.pinned (OpenSpec.ofChange dotsBlockSpec)

/-- ITS FALSE NEIGHBOUR: 'it returns false'. Refute it at one input. -/
def dotsBlockWrong : ChangeSpec := { name := "dotsBlock", fn := fun _ => fun
  | [d] => { results := [.lit (.bool false)], args := [d] }
  | _ => none }
def DotsBlockWrongFalsely : Prop := dotsBlockRow.holds Try.pinned (OpenSpec.ofChange dotsBlockWrong)

/-- 'sennitlaw15.DotsUnblock': WHATEVER THE INPUT: true; the input reads as it did. -/
def dotsUnblockSpec : ChangeSpec := { name := "dotsUnblock", fn := fun _ => fun
  | [d] => { results := [.lit (.bool true)], args := [d] }
  | _ => none }
def dotsUnblockRow : OpenClaim := { program := "ytbhfenpccccloaa", sum := "ca17ed08709f393419c135dfe339fa1687f27fc5dc395c6439baa951923a3d6a", func := "sennit/sennitlaw15.DotsUnblock", spec := "dotsUnblock", unfollowed := true, recurses := true, apart := false }
def DotsUnblockSaid : Prop := dotsUnblockRow.holds Try.pinned (OpenSpec.ofChange dotsUnblockSpec)

/-- ITS FALSE NEIGHBOUR: 'it returns false'. Refute it at one input. -/
def dotsUnblockWrong : ChangeSpec := { name := "dotsUnblock", fn := fun _ => fun
  | [d] => { results := [.lit (.bool false)], args := [d] }
  | _ => none }
def DotsUnblockWrongFalsely : Prop := dotsUnblockRow.holds Try.pinned (OpenSpec.ofChange dotsUnblockWrong)

/-- 'sennitlaw15.DotsBack': WHATEVER THE INPUT: true; the input reads as it did. -/
def dotsBackSpec : ChangeSpec := { name := "dotsBack", fn := fun _ => fun
  | [d1, d2] => { results := [.lit (.bool true)], args := [d1, d2] }
  | _ => none }
def dotsBackRow : OpenClaim := { program := "ytbhfenpccccloaa", sum := "ca17ed08709f393419c135dfe339fa1687f27fc5dc395c6439baa951923a3d6a", func := "sennit/sennitlaw15.DotsBack", spec := "dotsBack", unfollowed := true, recurses := true, apart := false }
def DotsBackSaid : Prop := dotsBackRow.holds Try.pinned (OpenSpec.ofChange dotsBackSpec)

/-- ITS FALSE NEIGHBOUR: 'it returns false'. Refute it at one input. -/
def dotsBackWrong : ChangeSpec := { name := "dotsBack", fn := fun _ => fun
  | [d1, d2] => { results := [.lit (.bool false)], args := [d1, d2] }
  | _ => none }
def DotsBackWrongFalsely : Prop := dotsBackRow.holds Try.pinned (OpenSpec.ofChange dotsBackWrong)

/-- 'sennitlaw15.DotsEnds': WHATEVER THE INPUT: true; the input reads as it did. -/
def dotsEndsSpec : ChangeSpec := { name := "dotsEnds", fn := fun _ => fun
  | [d] => { results := [.lit (.bool true)], args := [d] }
  | _ => none }
def dotsEndsRow : OpenClaim := { program := "ytbhfenpccccloaa", sum := "ca17ed08709f393419c135dfe339fa1687f27fc5dc395c6439baa951923a3d6a", func := "sennit/sennitlaw15.DotsEnds", spec := "dotsEnds", unfollowed := true, recurses := true, apart := false }
def DotsEndsSaid : Prop := dotsEndsRow.holds Try.pinned (OpenSpec.ofChange dotsEndsSpec)

/-- ITS FALSE NEIGHBOUR: 'it returns false'. Refute it at one input. -/
def dotsEndsWrong : ChangeSpec := { name := "dotsEnds", fn := fun _ => fun
  | [d] => { results := [.lit (.bool false)], args := [d] }
  | _ => none }
def DotsEndsWrongFalsely : Prop := dotsEndsRow.holds Try.pinned (OpenSpec.ofChange dotsEndsWrong)

/-- 'sennitlaw15.DotsJoins': WHATEVER THE INPUT: true; the input reads as it did. -/
def dotsJoinsSpec : ChangeSpec := { name := "dotsJoins", fn := fun _ => fun
  | [d1, d2] => { results := [.lit (.bool true)], args := [d1, d2] }
  | _ => none }
def dotsJoinsRow : OpenClaim := { program := "ytbhfenpccccloaa", sum := "ca17ed08709f393419c135dfe339fa1687f27fc5dc395c6439baa951923a3d6a", func := "sennit/sennitlaw15.DotsJoins", spec := "dotsJoins", unfollowed := true, recurses := true, apart := false }
def DotsJoinsSaid : Prop := dotsJoinsRow.holds Try.pinned (OpenSpec.ofChange dotsJoinsSpec)

/-- ITS FALSE NEIGHBOUR: 'it returns false'. Refute it at one input. -/
def dotsJoinsWrong : ChangeSpec := { name := "dotsJoins", fn := fun _ => fun
  | [d1, d2] => { results := [.lit (.bool false)], args := [d1, d2] }
  | _ => none }
def DotsJoinsWrongFalsely : Prop := dotsJoinsRow.holds Try.pinned (OpenSpec.ofChange dotsJoinsWrong)

/-- 'sennitlaw02.InternTells': WHATEVER THE INPUT: true; the input reads as it did. -/
def internTellsSpec : ChangeSpec := { name := "internTells", fn := fun _ => fun
  | [d] => { results := [.lit (.bool true)], args := [d] }
  | _ => none }
def internTellsRow : OpenClaim := { program := "ytbhfenpccccloaa", sum := "ca17ed08709f393419c135dfe339fa1687f27fc5dc395c6439baa951923a3d6a", func := "sennit/sennitlaw02.InternTells", spec := "internTells", inPlace := ["sync/atomic.AddInt64", "sync/atomic.LoadInt64"], apart := false }
def InternTellsSaid : Prop := internTellsRow.holds Try.pinned (OpenSpec.ofChange internTellsSpec)

/-- ITS FALSE NEIGHBOUR: 'it returns false'. Refute it at one input. -/
def internTellsWrong : ChangeSpec := { name := "internTells", fn := fun _ => fun
  | [d] => { results := [.lit (.bool false)], args := [d] }
  | _ => none }
def InternTellsWrongFalsely : Prop := internTellsRow.holds Try.pinned (OpenSpec.ofChange internTellsWrong)

/-- 'sennitlaw02.InternAll': WHATEVER THE INPUT: true; the input reads as it did. -/
def internAllSpec : ChangeSpec := { name := "internAll", fn := fun _ => fun
  | [d] => { results := [.lit (.bool true)], args := [d] }
  | _ => none }
def internAllRow : OpenClaim := { program := "ytbhfenpccccloaa", sum := "ca17ed08709f393419c135dfe339fa1687f27fc5dc395c6439baa951923a3d6a", func := "sennit/sennitlaw02.InternAll", spec := "internAll", inPlace := ["sync/atomic.AddInt64", "sync/atomic.LoadInt64"], apart := false }
def InternAllSaid : Prop := internAllRow.holds Try.pinned (OpenSpec.ofChange internAllSpec)

/-- ITS FALSE NEIGHBOUR: 'it returns false'. Refute it at one input. -/
def internAllWrong : ChangeSpec := { name := "internAll", fn := fun _ => fun
  | [d] => { results := [.lit (.bool false)], args := [d] }
  | _ => none }
def InternAllWrongFalsely : Prop := internAllRow.holds Try.pinned (OpenSpec.ofChange internAllWrong)

/-- 'sennitlaw02.InternSame': WHATEVER THE INPUT: true; the input reads as it did. -/
def internSameSpec : ChangeSpec := { name := "internSame", fn := fun _ => fun
  | [d1, d2] => { results := [.lit (.bool true)], args := [d1, d2] }
  | _ => none }
def internSameRow : OpenClaim := { program := "ytbhfenpccccloaa", sum := "ca17ed08709f393419c135dfe339fa1687f27fc5dc395c6439baa951923a3d6a", func := "sennit/sennitlaw02.InternSame", spec := "internSame", inPlace := ["sync/atomic.AddInt64", "sync/atomic.LoadInt64"], apart := false }
def InternSameSaid : Prop := internSameRow.holds Try.pinned (OpenSpec.ofChange internSameSpec)

/-- ITS FALSE NEIGHBOUR: 'it returns false'. Refute it at one input. -/
def internSameWrong : ChangeSpec := { name := "internSame", fn := fun _ => fun
  | [d1, d2] => { results := [.lit (.bool false)], args := [d1, d2] }
  | _ => none }
def InternSameWrongFalsely : Prop := internSameRow.holds Try.pinned (OpenSpec.ofChange internSameWrong)

/-- 'sennitlaw02.InternGaps': WHATEVER THE INPUT: true; the input reads as it did. -/
def internGapsSpec : ChangeSpec := { name := "internGaps", fn := fun _ => fun
  | [d] => { results := [.lit (.bool true)], args := [d] }
  | _ => none }
def internGapsRow : OpenClaim := { program := "ytbhfenpccccloaa", sum := "ca17ed08709f393419c135dfe339fa1687f27fc5dc395c6439baa951923a3d6a", func := "sennit/sennitlaw02.InternGaps", spec := "internGaps", inPlace := ["sync/atomic.AddInt64", "sync/atomic.LoadInt64"], apart := false }
def InternGapsSaid : Prop := internGapsRow.holds Try.pinned (OpenSpec.ofChange internGapsSpec)

/-- ITS FALSE NEIGHBOUR: 'it returns false'. Refute it at one input. -/
def internGapsWrong : ChangeSpec := { name := "internGaps", fn := fun _ => fun
  | [d] => { results := [.lit (.bool false)], args := [d] }
  | _ => none }
def InternGapsWrongFalsely : Prop := internGapsRow.holds Try.pinned (OpenSpec.ofChange internGapsWrong)

/-- 'sennitlaw02.InternText': WHATEVER THE INPUT: true; the input reads as it did. -/
def internTextSpec : ChangeSpec := { name := "internText", fn := fun _ => fun
  | [d1, d2] => { results := [.lit (.bool true)], args := [d1, d2] }
  | _ => none }
def internTextRow : OpenClaim := { program := "ytbhfenpccccloaa", sum := "ca17ed08709f393419c135dfe339fa1687f27fc5dc395c6439baa951923a3d6a", func := "sennit/sennitlaw02.InternText", spec := "internText", inPlace := ["sync/atomic.AddInt64", "sync/atomic.LoadInt64"], apart := false }
def InternTextSaid : Prop := internTextRow.holds Try.pinned (OpenSpec.ofChange internTextSpec)

/-- ITS FALSE NEIGHBOUR: 'it returns false'. Refute it at one input. -/
def internTextWrong : ChangeSpec := { name := "internText", fn := fun _ => fun
  | [d1, d2] => { results := [.lit (.bool false)], args := [d1, d2] }
  | _ => none }
def InternTextWrongFalsely : Prop := internTextRow.holds Try.pinned (OpenSpec.ofChange internTextWrong)

/-- 'sennitlaw14.FlagsKinds': WHATEVER THE INPUT: true; the input reads as it did. -/
def flagsKindsSpec : ChangeSpec := { name := "flagsKinds", fn := fun _ => fun
  | [d1, d2, d3] => { results := [.lit (.bool true)], args := [d1, d2, d3] }
  | _ => none }
def flagsKindsRow : OpenClaim := { program := "ytbhfenpccccloaa", sum := "ca17ed08709f393419c135dfe339fa1687f27fc5dc395c6439baa951923a3d6a", func := "sennit/sennitlaw14.FlagsKinds", spec := "flagsKinds", unfollowed := true, recurses := true, apart := false }
def FlagsKindsSaid : Prop := flagsKindsRow.holds Try.pinned (OpenSpec.ofChange flagsKindsSpec)

/-- ITS FALSE NEIGHBOUR: 'it returns false'. Refute it at one input. -/
def flagsKindsWrong : ChangeSpec := { name := "flagsKinds", fn := fun _ => fun
  | [d1, d2, d3] => { results := [.lit (.bool false)], args := [d1, d2, d3] }
  | _ => none }
def FlagsKindsWrongFalsely : Prop := flagsKindsRow.holds Try.pinned (OpenSpec.ofChange flagsKindsWrong)

/-- 'sennitlaw14.FlagsDoes': WHATEVER THE INPUT: true; the input reads as it did. -/
def flagsDoesSpec : ChangeSpec := { name := "flagsDoes", fn := fun _ => fun
  | [d1, d2] => { results := [.lit (.bool true)], args := [d1, d2] }
  | _ => none }
def flagsDoesRow : OpenClaim := { program := "ytbhfenpccccloaa", sum := "ca17ed08709f393419c135dfe339fa1687f27fc5dc395c6439baa951923a3d6a", func := "sennit/sennitlaw14.FlagsDoes", spec := "flagsDoes", unfollowed := true, recurses := true, apart := false }
def FlagsDoesSaid : Prop := flagsDoesRow.holds Try.pinned (OpenSpec.ofChange flagsDoesSpec)

/-- ITS FALSE NEIGHBOUR: 'it returns false'. Refute it at one input. -/
def flagsDoesWrong : ChangeSpec := { name := "flagsDoes", fn := fun _ => fun
  | [d1, d2] => { results := [.lit (.bool false)], args := [d1, d2] }
  | _ => none }
def FlagsDoesWrongFalsely : Prop := flagsDoesRow.holds Try.pinned (OpenSpec.ofChange flagsDoesWrong)

/-- 'sennitlaw14.FlagsResult': WHATEVER THE INPUT: true; the input reads as it did. -/
def flagsResultSpec : ChangeSpec := { name := "flagsResult", fn := fun _ => fun
  | [d1, d2] => { results := [.lit (.bool true)], args := [d1, d2] }
  | _ => none }
def flagsResultRow : OpenClaim := { program := "ytbhfenpccccloaa", sum := "ca17ed08709f393419c135dfe339fa1687f27fc5dc395c6439baa951923a3d6a", func := "sennit/sennitlaw14.FlagsResult", spec := "flagsResult", unfollowed := true, recurses := true, apart := false }
def FlagsResultSaid : Prop := flagsResultRow.holds Try.pinned (OpenSpec.ofChange flagsResultSpec)

/-- ITS FALSE NEIGHBOUR: 'it returns false'. Refute it at one input. -/
def flagsResultWrong : ChangeSpec := { name := "flagsResult", fn := fun _ => fun
  | [d1, d2] => { results := [.lit (.bool false)], args := [d1, d2] }
  | _ => none }
def FlagsResultWrongFalsely : Prop := flagsResultRow.holds Try.pinned (OpenSpec.ofChange flagsResultWrong)

/-- 'sennitlaw14.FlagsParts': WHATEVER THE INPUT: true; the input reads as it did. -/
def flagsPartsSpec : ChangeSpec := { name := "flagsParts", fn := fun _ => fun
  | [d1, d2, d3] => { results := [.lit (.bool true)], args := [d1, d2, d3] }
  | _ => none }
def flagsPartsRow : OpenClaim := { program := "ytbhfenpccccloaa", sum := "ca17ed08709f393419c135dfe339fa1687f27fc5dc395c6439baa951923a3d6a", func := "sennit/sennitlaw14.FlagsParts", spec := "flagsParts", unfollowed := true, recurses := true, apart := false }
def FlagsPartsSaid : Prop := flagsPartsRow.holds Try.pinned (OpenSpec.ofChange flagsPartsSpec)

/-- ITS FALSE NEIGHBOUR: 'it returns false'. Refute it at one input. -/
def flagsPartsWrong : ChangeSpec := { name := "flagsParts", fn := fun _ => fun
  | [d1, d2, d3] => { results := [.lit (.bool false)], args := [d1, d2, d3] }
  | _ => none }
def FlagsPartsWrongFalsely : Prop := flagsPartsRow.holds Try.pinned (OpenSpec.ofChange flagsPartsWrong)

/-- 'sennitlaw14.FlagsContent': WHATEVER THE INPUT: true; the input reads as it did. -/
def flagsContentSpec : ChangeSpec := { name := "flagsContent", fn := fun _ => fun
  | [d1, d2, d3] => { results := [.lit (.bool true)], args := [d1, d2, d3] }
  | _ => none }
def flagsContentRow : OpenClaim := { program := "ytbhfenpccccloaa", sum := "ca17ed08709f393419c135dfe339fa1687f27fc5dc395c6439baa951923a3d6a", func := "sennit/sennitlaw14.FlagsContent", spec := "flagsContent", unfollowed := true, recurses := true, apart := false }
def FlagsContentSaid : Prop := flagsContentRow.holds Try.pinned (OpenSpec.ofChange flagsContentSpec)

/-- ITS FALSE NEIGHBOUR: 'it returns false'. Refute it at one input. -/
def flagsContentWrong : ChangeSpec := { name := "flagsContent", fn := fun _ => fun
  | [d1, d2, d3] => { results := [.lit (.bool false)], args := [d1, d2, d3] }
  | _ => none }
def FlagsContentWrongFalsely : Prop := flagsContentRow.holds Try.pinned (OpenSpec.ofChange flagsContentWrong)

/- THE SECOND FORM. 'bulk': how many values and letters a reading holds, each counted each time it is reached (what is shared counts as often as it is met; a slice's spare places count too). A statement '..UptoSaid' is the law's where the arguments, and the package variables that the reading takes, are together of bulk at most 1048576: NARROWER than '..Said'. Prove '..Said' where nothing that the law and all that it calls make is longer than what came in: it says more and counts as full. Else prove '..UptoSaid'. A law counts once. -/
mutual
def uptoBulk {H : Type} : DataW H → Nat
  | .lit (.string bytes) => bytes.length + 1
  | .lit _ => 1
  | .nil => 1
  | .ptr d => uptoBulk d + 1
  | .slice elems spare => uptoBulkAll elems + uptoBulkAll spare + 1
  | .agg parts => uptoBulkAll parts + 1
  | .iface _ d => uptoBulk d + 1
  | .map entries => uptoBulkEntries entries + 1
  | .held _ => 1
def uptoBulkAll {H : Type} : List (DataW H) → Nat
  | [] => 0
  | d :: r => uptoBulk d + uptoBulkAll r
def uptoBulkEntries {H : Type} : List (Lit × DataW H) → Nat
  | [] => 0
  | x :: r => uptoBulkEntry x + uptoBulkEntries r
def uptoBulkEntry {H : Type} : Lit × DataW H → Nat
  | (.string bytes, d) => bytes.length + uptoBulk d + 1
  | (_, d) => uptoBulk d + 1
 end
def uptoSmall : (H : Type) → List (DataW H) → Bool := fun _ ds => decide (uptoBulkAll ds ≤ 1048576)
def OpenSpec.upto (s : _root_.Go.ChangeSpec) : _root_.Go.OpenSpec := { _root_.Go.OpenSpec.ofChange s with cond := some uptoSmall }

/-- 'sennitlaw15.DotsBlock', WHERE WHAT IT READS IS OF BULK AT MOST 1048576: true; the input reads as it did. -/
def dotsBlockUptoRow : OpenClaim := { program := "ytbhfenpccccloaa", sum := "ca17ed08709f393419c135dfe339fa1687f27fc5dc395c6439baa951923a3d6a", func := "sennit/sennitlaw15.DotsBlock", spec := "dotsBlock", unfollowed := true, recurses := true, apart := false, narrowed := true }
def DotsBlockUptoSaid : Prop := dotsBlockUptoRow.holds Try.pinned (OpenSpec.upto dotsBlockSpec)

/-- 'sennitlaw15.DotsUnblock', WHERE WHAT IT READS IS OF BULK AT MOST 1048576: true; the input reads as it did. -/
def dotsUnblockUptoRow : OpenClaim := { program := "ytbhfenpccccloaa", sum := "ca17ed08709f393419c135dfe339fa1687f27fc5dc395c6439baa951923a3d6a", func := "sennit/sennitlaw15.DotsUnblock", spec := "dotsUnblock", unfollowed := true, recurses := true, apart := false, narrowed := true }
def DotsUnblockUptoSaid : Prop := dotsUnblockUptoRow.holds Try.pinned (OpenSpec.upto dotsUnblockSpec)

/-- 'sennitlaw15.DotsBack', WHERE WHAT IT READS IS OF BULK AT MOST 1048576: true; the input reads as it did. -/
def dotsBackUptoRow : OpenClaim := { program := "ytbhfenpccccloaa", sum := "ca17ed08709f393419c135dfe339fa1687f27fc5dc395c6439baa951923a3d6a", func := "sennit/sennitlaw15.DotsBack", spec := "dotsBack", unfollowed := true, recurses := true, apart := false, narrowed := true }
def DotsBackUptoSaid : Prop := dotsBackUptoRow.holds Try.pinned (OpenSpec.upto dotsBackSpec)

/-- 'sennitlaw15.DotsEnds', WHERE WHAT IT READS IS OF BULK AT MOST 1048576: true; the input reads as it did. -/
def dotsEndsUptoRow : OpenClaim := { program := "ytbhfenpccccloaa", sum := "ca17ed08709f393419c135dfe339fa1687f27fc5dc395c6439baa951923a3d6a", func := "sennit/sennitlaw15.DotsEnds", spec := "dotsEnds", unfollowed := true, recurses := true, apart := false, narrowed := true }
def DotsEndsUptoSaid : Prop := dotsEndsUptoRow.holds Try.pinned (OpenSpec.upto dotsEndsSpec)

/-- 'sennitlaw15.DotsJoins', WHERE WHAT IT READS IS OF BULK AT MOST 1048576: true; the input reads as it did. -/
def dotsJoinsUptoRow : OpenClaim := { program := "ytbhfenpccccloaa", sum := "ca17ed08709f393419c135dfe339fa1687f27fc5dc395c6439baa951923a3d6a", func := "sennit/sennitlaw15.DotsJoins", spec := "dotsJoins", unfollowed := true, recurses := true, apart := false, narrowed := true }
def DotsJoinsUptoSaid : Prop := dotsJoinsUptoRow.holds Try.pinned (OpenSpec.upto dotsJoinsSpec)

/-- 'sennitlaw02.InternTells', WHERE WHAT IT READS IS OF BULK AT MOST 1048576: true; the input reads as it did. -/
def internTellsUptoRow : OpenClaim := { program := "ytbhfenpccccloaa", sum := "ca17ed08709f393419c135dfe339fa1687f27fc5dc395c6439baa951923a3d6a", func := "sennit/sennitlaw02.InternTells", spec := "internTells", inPlace := ["sync/atomic.AddInt64", "sync/atomic.LoadInt64"], apart := false, narrowed := true }
def InternTellsUptoSaid : Prop := internTellsUptoRow.holds Try.pinned (OpenSpec.upto internTellsSpec)

/-- 'sennitlaw02.InternAll', WHERE WHAT IT READS IS OF BULK AT MOST 1048576: true; the input reads as it did. -/
def internAllUptoRow : OpenClaim := { program := "ytbhfenpccccloaa", sum := "ca17ed08709f393419c135dfe339fa1687f27fc5dc395c6439baa951923a3d6a", func := "sennit/sennitlaw02.InternAll", spec := "internAll", inPlace := ["sync/atomic.AddInt64", "sync/atomic.LoadInt64"], apart := false, narrowed := true }
def InternAllUptoSaid : Prop := internAllUptoRow.holds Try.pinned (OpenSpec.upto internAllSpec)

/-- 'sennitlaw02.InternSame', WHERE WHAT IT READS IS OF BULK AT MOST 1048576: true; the input reads as it did. -/
def internSameUptoRow : OpenClaim := { program := "ytbhfenpccccloaa", sum := "ca17ed08709f393419c135dfe339fa1687f27fc5dc395c6439baa951923a3d6a", func := "sennit/sennitlaw02.InternSame", spec := "internSame", inPlace := ["sync/atomic.AddInt64", "sync/atomic.LoadInt64"], apart := false, narrowed := true }
def InternSameUptoSaid : Prop := internSameUptoRow.holds Try.pinned (OpenSpec.upto internSameSpec)

/-- 'sennitlaw02.InternGaps', WHERE WHAT IT READS IS OF BULK AT MOST 1048576: true; the input reads as it did. -/
def internGapsUptoRow : OpenClaim := { program := "ytbhfenpccccloaa", sum := "ca17ed08709f393419c135dfe339fa1687f27fc5dc395c6439baa951923a3d6a", func := "sennit/sennitlaw02.InternGaps", spec := "internGaps", inPlace := ["sync/atomic.AddInt64", "sync/atomic.LoadInt64"], apart := false, narrowed := true }
def InternGapsUptoSaid : Prop := internGapsUptoRow.holds Try.pinned (OpenSpec.upto internGapsSpec)

/-- 'sennitlaw02.InternText', WHERE WHAT IT READS IS OF BULK AT MOST 1048576: true; the input reads as it did. -/
def internTextUptoRow : OpenClaim := { program := "ytbhfenpccccloaa", sum := "ca17ed08709f393419c135dfe339fa1687f27fc5dc395c6439baa951923a3d6a", func := "sennit/sennitlaw02.InternText", spec := "internText", inPlace := ["sync/atomic.AddInt64", "sync/atomic.LoadInt64"], apart := false, narrowed := true }
def InternTextUptoSaid : Prop := internTextUptoRow.holds Try.pinned (OpenSpec.upto internTextSpec)

/-- 'sennitlaw14.FlagsKinds', WHERE WHAT IT READS IS OF BULK AT MOST 1048576: true; the input reads as it did. -/
def flagsKindsUptoRow : OpenClaim := { program := "ytbhfenpccccloaa", sum := "ca17ed08709f393419c135dfe339fa1687f27fc5dc395c6439baa951923a3d6a", func := "sennit/sennitlaw14.FlagsKinds", spec := "flagsKinds", unfollowed := true, recurses := true, apart := false, narrowed := true }
def FlagsKindsUptoSaid : Prop := flagsKindsUptoRow.holds Try.pinned (OpenSpec.upto flagsKindsSpec)

/-- 'sennitlaw14.FlagsDoes', WHERE WHAT IT READS IS OF BULK AT MOST 1048576: true; the input reads as it did. -/
def flagsDoesUptoRow : OpenClaim := { program := "ytbhfenpccccloaa", sum := "ca17ed08709f393419c135dfe339fa1687f27fc5dc395c6439baa951923a3d6a", func := "sennit/sennitlaw14.FlagsDoes", spec := "flagsDoes", unfollowed := true, recurses := true, apart := false, narrowed := true }
def FlagsDoesUptoSaid : Prop := flagsDoesUptoRow.holds Try.pinned (OpenSpec.upto flagsDoesSpec)

/-- 'sennitlaw14.FlagsResult', WHERE WHAT IT READS IS OF BULK AT MOST 1048576: true; the input reads as it did. -/
def flagsResultUptoRow : OpenClaim := { program := "ytbhfenpccccloaa", sum := "ca17ed08709f393419c135dfe339fa1687f27fc5dc395c6439baa951923a3d6a", func := "sennit/sennitlaw14.FlagsResult", spec := "flagsResult", unfollowed := true, recurses := true, apart := false, narrowed := true }
def FlagsResultUptoSaid : Prop := flagsResultUptoRow.holds Try.pinned (OpenSpec.upto flagsResultSpec)

/-- 'sennitlaw14.FlagsParts', WHERE WHAT IT READS IS OF BULK AT MOST 1048576: true; the input reads as it did. -/
def flagsPartsUptoRow : OpenClaim := { program := "ytbhfenpccccloaa", sum := "ca17ed08709f393419c135dfe339fa1687f27fc5dc395c6439baa951923a3d6a", func := "sennit/sennitlaw14.FlagsParts", spec := "flagsParts", unfollowed := true, recurses := true, apart := false, narrowed := true }
def FlagsPartsUptoSaid : Prop := flagsPartsUptoRow.holds Try.pinned (OpenSpec.upto flagsPartsSpec)

/-- 'sennitlaw14.FlagsContent', WHERE WHAT IT READS IS OF BULK AT MOST 1048576: true; the input reads as it did. -/
def flagsContentUptoRow : OpenClaim := { program := "ytbhfenpccccloaa", sum := "ca17ed08709f393419c135dfe339fa1687f27fc5dc395c6439baa951923a3d6a", func := "sennit/sennitlaw14.FlagsContent", spec := "flagsContent", unfollowed := true, recurses := true, apart := false, narrowed := true }
def FlagsContentUptoSaid : Prop := flagsContentUptoRow.holds Try.pinned (OpenSpec.upto flagsContentSpec)

end Rows
end Go.Proofs.Ytbhfenpccccloaa
