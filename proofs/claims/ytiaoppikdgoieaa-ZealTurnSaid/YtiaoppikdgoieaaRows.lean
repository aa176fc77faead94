/-
  No cell of these rows narrows 'for every input' (looked for: loops, veiled, ifaces, maps, wideKeys, modest, calm, conditions, laid).
  DERIVED. THE GIVEN ROWS OF THIS SEAT. 16 by the template 'for every input the law returns true; each argument reads behind the call as it read before'; 0 by the template 'total and deterministic' (their statements: YtiaoppikdgoieaaTotals.lean).
  GIVEN WITH THE SEED: the statements are not yours to turn. If you find one false, say at which input.
  Laid BY PROGRAM, IN A SANDBOX (cutbox-rows.mjs): the forced cells as the released guide's own fill.sh prints them over the translation 63c114ac18d38867… (all of the seat's roots in one cut). By AI agents, Wed Nov 11 2026. No macro, syntax, notation, axiom, sorry.
-/
import Derived.Test.YtiaoppikdgoieaaChecked
import GoSem.Claim
import GoSem.ClaimJoined
import GoSem.ClaimMapViews
import Derived.JoinedTies
import Derived.KernelRfl
namespace Go.Proofs.Ytiaoppikdgoieaa
/- THE CELL 'sum', in the pinned program and in every row, IS THE sha256 OF THE DUMP (.gsa) THAT YtiaoppikdgoieaaProg.lean LOADS. Nothing in Lean hashes anything: it is a label: what it is worth is what the hold of that sum in a sandbox is worth. -/
noncomputable def Try.pinned : Pinned := { name := "ytiaoppikdgoieaa", sum := "63c114ac18d3886774c4349378315f909d5f0b3aee05c917c6c7832571e22ed7", checked := Try.checked }
namespace Rows
def none {H : Type} : Left H := { results := [], args := [] }

/-- 'sennitlaw07.PickUnion': WHATEVER THE INPUT: true; the input reads as it did. -/
def pickUnionSpec : ChangeSpec := { name := "pickUnion", fn := fun _ => fun
  | [d1, d2] => { results := [.lit (.bool true)], args := [d1, d2] }
  | _ => none }
def pickUnionRow : OpenClaim := { program := "ytiaoppikdgoieaa", sum := "63c114ac18d3886774c4349378315f909d5f0b3aee05c917c6c7832571e22ed7", func := "sennit/sennitlaw07.PickUnion", spec := "pickUnion", unfollowed := true, recurses := true, apart := false }
def PickUnionSaid : Prop := pickUnionRow.holds Try.pinned (OpenSpec.ofChange pickUnionSpec)

/-- ITS FALSE NEIGHBOUR: 'it returns false'. Refute it at one input. -/
def pickUnionWrong : ChangeSpec := { name := "pickUnion", fn := fun _ => fun
  | [d1, d2] => { results := [.lit (.bool false)], args := [d1, d2] }
  | _ => none }
def PickUnionWrongFalsely : Prop := pickUnionRow.holds Try.pinned (OpenSpec.ofChange pickUnionWrong)

/-- 'sennitlaw06.ContentParts': WHATEVER THE INPUT: true; the input reads as it did. -/
def contentPartsSpec : ChangeSpec := { name := "contentParts", fn := fun _ => fun
  | [d1, d2, d3] => { results := [.lit (.bool true)], args := [d1, d2, d3] }
  | _ => none }
def contentPartsRow : OpenClaim := { program := "ytiaoppikdgoieaa", sum := "63c114ac18d3886774c4349378315f909d5f0b3aee05c917c6c7832571e22ed7", func := "sennit/sennitlaw06.ContentParts", spec := "contentParts", unfollowed := true, recurses := true, apart := false }
def ContentPartsSaid : Prop := contentPartsRow.holds Try.pinned (OpenSpec.ofChange contentPartsSpec)

/-- ITS FALSE NEIGHBOUR: 'it returns false'. Refute it at one input. -/
def contentPartsWrong : ChangeSpec := { name := "contentParts", fn := fun _ => fun
  | [d1, d2, d3] => { results := [.lit (.bool false)], args := [d1, d2, d3] }
  | _ => none }
def ContentPartsWrongFalsely : Prop := contentPartsRow.holds Try.pinned (OpenSpec.ofChange contentPartsWrong)

/-- 'sennitlaw06.ContentTells': WHATEVER THE INPUT: true; the input reads as it did. -/
def contentTellsSpec : ChangeSpec := { name := "contentTells", fn := fun _ => fun
  | [d1, d2] => { results := [.lit (.bool true)], args := [d1, d2] }
  | _ => none }
def contentTellsRow : OpenClaim := { program := "ytiaoppikdgoieaa", sum := "63c114ac18d3886774c4349378315f909d5f0b3aee05c917c6c7832571e22ed7", func := "sennit/sennitlaw06.ContentTells", spec := "contentTells", unfollowed := true, recurses := true, apart := false }
def ContentTellsSaid : Prop := contentTellsRow.holds Try.pinned (OpenSpec.ofChange contentTellsSpec)

/-- ITS FALSE NEIGHBOUR: 'it returns false'. Refute it at one input. -/
def contentTellsWrong : ChangeSpec := { name := "contentTells", fn := fun _ => fun
  | [d1, d2] => { results := [.lit (.bool false)], args := [d1, d2] }
  | _ => none }
def ContentTellsWrongFalsely : Prop := contentTellsRow.holds Try.pinned (OpenSpec.ofChange contentTellsWrong)

/-- 'sennitlaw06.ContentEach': WHATEVER THE INPUT: true; the input reads as it did. -/
def contentEachSpec : ChangeSpec := { name := "contentEach", fn := fun _ => fun
  | [d1, d2] => { results := [.lit (.bool true)], args := [d1, d2] }
  | _ => none }
def contentEachRow : OpenClaim := { program := "ytiaoppikdgoieaa", sum := "63c114ac18d3886774c4349378315f909d5f0b3aee05c917c6c7832571e22ed7", func := "sennit/sennitlaw06.ContentEach", spec := "contentEach", unfollowed := true, recurses := true, apart := false }
def ContentEachSaid : Prop := contentEachRow.holds Try.pinned (OpenSpec.ofChange contentEachSpec)

/-- ITS FALSE NEIGHBOUR: 'it returns false'. Refute it at one input. -/
def contentEachWrong : ChangeSpec := { name := "contentEach", fn := fun _ => fun
  | [d1, d2] => { results := [.lit (.bool false)], args := [d1, d2] }
  | _ => none }
def ContentEachWrongFalsely : Prop := contentEachRow.holds Try.pinned (OpenSpec.ofChange contentEachWrong)

/-- 'sennitlaw06.ContentTurn': WHATEVER THE INPUT: true; the input reads as it did. -/
def contentTurnSpec : ChangeSpec := { name := "contentTurn", fn := fun _ => fun
  | [d1, d2, d3] => { results := [.lit (.bool true)], args := [d1, d2, d3] }
  | _ => none }
def contentTurnRow : OpenClaim := { program := "ytiaoppikdgoieaa", sum := "63c114ac18d3886774c4349378315f909d5f0b3aee05c917c6c7832571e22ed7", func := "sennit/sennitlaw06.ContentTurn", spec := "contentTurn", unfollowed := true, recurses := true, apart := false }
def ContentTurnSaid : Prop := contentTurnRow.holds Try.pinned (OpenSpec.ofChange contentTurnSpec)

/-- ITS FALSE NEIGHBOUR: 'it returns false'. Refute it at one input. -/
def contentTurnWrong : ChangeSpec := { name := "contentTurn", fn := fun _ => fun
  | [d1, d2, d3] => { results := [.lit (.bool false)], args := [d1, d2, d3] }
  | _ => none }
def ContentTurnWrongFalsely : Prop := contentTurnRow.holds Try.pinned (OpenSpec.ofChange contentTurnWrong)

/-- 'sennitlaw07.PickSame': WHATEVER THE INPUT: true; the input reads as it did. -/
def pickSameSpec : ChangeSpec := { name := "pickSame", fn := fun _ => fun
  | [d1, d2] => { results := [.lit (.bool true)], args := [d1, d2] }
  | _ => none }
def pickSameRow : OpenClaim := { program := "ytiaoppikdgoieaa", sum := "63c114ac18d3886774c4349378315f909d5f0b3aee05c917c6c7832571e22ed7", func := "sennit/sennitlaw07.PickSame", spec := "pickSame", unfollowed := true, recurses := true, apart := false }
def PickSameSaid : Prop := pickSameRow.holds Try.pinned (OpenSpec.ofChange pickSameSpec)

/-- ITS FALSE NEIGHBOUR: 'it returns false'. Refute it at one input. -/
def pickSameWrong : ChangeSpec := { name := "pickSame", fn := fun _ => fun
  | [d1, d2] => { results := [.lit (.bool false)], args := [d1, d2] }
  | _ => none }
def PickSameWrongFalsely : Prop := pickSameRow.holds Try.pinned (OpenSpec.ofChange pickSameWrong)

/-- 'sennitlaw06.ContentSame': WHATEVER THE INPUT: true; the input reads as it did. -/
def contentSameSpec : ChangeSpec := { name := "contentSame", fn := fun _ => fun
  | [d1, d2] => { results := [.lit (.bool true)], args := [d1, d2] }
  | _ => none }
def contentSameRow : OpenClaim := { program := "ytiaoppikdgoieaa", sum := "63c114ac18d3886774c4349378315f909d5f0b3aee05c917c6c7832571e22ed7", func := "sennit/sennitlaw06.ContentSame", spec := "contentSame", unfollowed := true, recurses := true, apart := false }
def ContentSameSaid : Prop := contentSameRow.holds Try.pinned (OpenSpec.ofChange contentSameSpec)

/-- ITS FALSE NEIGHBOUR: 'it returns false'. Refute it at one input. -/
def contentSameWrong : ChangeSpec := { name := "contentSame", fn := fun _ => fun
  | [d1, d2] => { results := [.lit (.bool false)], args := [d1, d2] }
  | _ => none }
def ContentSameWrongFalsely : Prop := contentSameRow.holds Try.pinned (OpenSpec.ofChange contentSameWrong)

/-- 'sennitlaw10.ZealTells': WHATEVER THE INPUT: true; the input reads as it did. -/
def zealTellsSpec : ChangeSpec := { name := "zealTells", fn := fun _ => fun
  | [d1, d2] => { results := [.lit (.bool true)], args := [d1, d2] }
  | _ => none }
def zealTellsRow : OpenClaim := { program := "ytiaoppikdgoieaa", sum := "63c114ac18d3886774c4349378315f909d5f0b3aee05c917c6c7832571e22ed7", func := "sennit/sennitlaw10.ZealTells", spec := "zealTells", unfollowed := true, recurses := true, apart := false }
def ZealTellsSaid : Prop := zealTellsRow.holds Try.pinned (OpenSpec.ofChange zealTellsSpec)

/-- ITS FALSE NEIGHBOUR: 'it returns false'. Refute it at one input. -/
def zealTellsWrong : ChangeSpec := { name := "zealTells", fn := fun _ => fun
  | [d1, d2] => { results := [.lit (.bool false)], args := [d1, d2] }
  | _ => none }
def ZealTellsWrongFalsely : Prop := zealTellsRow.holds Try.pinned (OpenSpec.ofChange zealTellsWrong)

/-- 'sennitlaw10.ZealTwice': WHATEVER THE INPUT: true; the input reads as it did. -/
def zealTwiceSpec : ChangeSpec := { name := "zealTwice", fn := fun _ => fun
  | [d1, d2] => { results := [.lit (.bool true)], args := [d1, d2] }
  | _ => none }
def zealTwiceRow : OpenClaim := { program := "ytiaoppikdgoieaa", sum := "63c114ac18d3886774c4349378315f909d5f0b3aee05c917c6c7832571e22ed7", func := "sennit/sennitlaw10.ZealTwice", spec := "zealTwice", unfollowed := true, recurses := true, apart := false }
def ZealTwiceSaid : Prop := zealTwiceRow.holds Try.pinned (OpenSpec.ofChange zealTwiceSpec)

/-- ITS FALSE NEIGHBOUR: 'it returns false'. Refute it at one input. -/
def zealTwiceWrong : ChangeSpec := { name := "zealTwice", fn := fun _ => fun
  | [d1, d2] => { results := [.lit (.bool false)], args := [d1, d2] }
  | _ => none }
def ZealTwiceWrongFalsely : Prop := zealTwiceRow.holds Try.pinned (OpenSpec.ofChange zealTwiceWrong)

/-- 'sennitlaw10.ZealEnds': WHATEVER THE INPUT: true; the input reads as it did. -/
def zealEndsSpec : ChangeSpec := { name := "zealEnds", fn := fun _ => fun
  | [d] => { results := [.lit (.bool true)], args := [d] }
  | _ => none }
def zealEndsRow : OpenClaim := { program := "ytiaoppikdgoieaa", sum := "63c114ac18d3886774c4349378315f909d5f0b3aee05c917c6c7832571e22ed7", func := "sennit/sennitlaw10.ZealEnds", spec := "zealEnds", unfollowed := true, recurses := true, apart := false }
def ZealEndsSaid : Prop := zealEndsRow.holds Try.pinned (OpenSpec.ofChange zealEndsSpec)

/-- ITS FALSE NEIGHBOUR: 'it returns false'. Refute it at one input. -/
def zealEndsWrong : ChangeSpec := { name := "zealEnds", fn := fun _ => fun
  | [d] => { results := [.lit (.bool false)], args := [d] }
  | _ => none }
def ZealEndsWrongFalsely : Prop := zealEndsRow.holds Try.pinned (OpenSpec.ofChange zealEndsWrong)

/-- 'sennitlaw10.ZealTurn': WHATEVER THE INPUT: true; the input reads as it did. -/
def zealTurnSpec : ChangeSpec := { name := "zealTurn", fn := fun _ => fun
  | [d1, d2] => { results := [.lit (.bool true)], args := [d1, d2] }
  | _ => none }
def zealTurnRow : OpenClaim := { program := "ytiaoppikdgoieaa", sum := "63c114ac18d3886774c4349378315f909d5f0b3aee05c917c6c7832571e22ed7", func := "sennit/sennitlaw10.ZealTurn", spec := "zealTurn", unfollowed := true, recurses := true, apart := false }
def ZealTurnSaid : Prop := zealTurnRow.holds Try.pinned (OpenSpec.ofChange zealTurnSpec)

/-- ITS FALSE NEIGHBOUR: 'it returns false'. Refute it at one input. -/
def zealTurnWrong : ChangeSpec := { name := "zealTurn", fn := fun _ => fun
  | [d1, d2] => { results := [.lit (.bool false)], args := [d1, d2] }
  | _ => none }
def ZealTurnWrongFalsely : Prop := zealTurnRow.holds Try.pinned (OpenSpec.ofChange zealTurnWrong)

/-- 'sennitlaw10.ZealChoose': WHATEVER THE INPUT: true; the input reads as it did. -/
def zealChooseSpec : ChangeSpec := { name := "zealChoose", fn := fun _ => fun
  | [d1, d2] => { results := [.lit (.bool true)], args := [d1, d2] }
  | _ => none }
def zealChooseRow : OpenClaim := { program := "ytiaoppikdgoieaa", sum := "63c114ac18d3886774c4349378315f909d5f0b3aee05c917c6c7832571e22ed7", func := "sennit/sennitlaw10.ZealChoose", spec := "zealChoose", unfollowed := true, recurses := true, apart := false }
def ZealChooseSaid : Prop := zealChooseRow.holds Try.pinned (OpenSpec.ofChange zealChooseSpec)

/-- ITS FALSE NEIGHBOUR: 'it returns false'. Refute it at one input. -/
def zealChooseWrong : ChangeSpec := { name := "zealChoose", fn := fun _ => fun
  | [d1, d2] => { results := [.lit (.bool false)], args := [d1, d2] }
  | _ => none }
def ZealChooseWrongFalsely : Prop := zealChooseRow.holds Try.pinned (OpenSpec.ofChange zealChooseWrong)

/-- 'sennitlaw07.PickTells': WHATEVER THE INPUT: true; the input reads as it did. -/
def pickTellsSpec : ChangeSpec := { name := "pickTells", fn := fun _ => fun
  | [d1, d2, d3] => { results := [.lit (.bool true)], args := [d1, d2, d3] }
  | _ => none }
def pickTellsRow : OpenClaim := { program := "ytiaoppikdgoieaa", sum := "63c114ac18d3886774c4349378315f909d5f0b3aee05c917c6c7832571e22ed7", func := "sennit/sennitlaw07.PickTells", spec := "pickTells", unfollowed := true, recurses := true, apart := false }
def PickTellsSaid : Prop := pickTellsRow.holds Try.pinned (OpenSpec.ofChange pickTellsSpec)

/-- ITS FALSE NEIGHBOUR: 'it returns false'. Refute it at one input. -/
def pickTellsWrong : ChangeSpec := { name := "pickTells", fn := fun _ => fun
  | [d1, d2, d3] => { results := [.lit (.bool false)], args := [d1, d2, d3] }
  | _ => none }
def PickTellsWrongFalsely : Prop := pickTellsRow.holds Try.pinned (OpenSpec.ofChange pickTellsWrong)

/-- 'sennitlaw07.PickNormal': WHATEVER THE INPUT: true; the input reads as it did. -/
def pickNormalSpec : ChangeSpec := { name := "pickNormal", fn := fun _ => fun
  | [d] => { results := [.lit (.bool true)], args := [d] }
  | _ => none }
def pickNormalRow : OpenClaim := { program := "ytiaoppikdgoieaa", sum := "63c114ac18d3886774c4349378315f909d5f0b3aee05c917c6c7832571e22ed7", func := "sennit/sennitlaw07.PickNormal", spec := "pickNormal", unfollowed := true, recurses := true, apart := false }
def PickNormalSaid : Prop := pickNormalRow.holds Try.pinned (OpenSpec.ofChange pickNormalSpec)

/-- ITS FALSE NEIGHBOUR: 'it returns false'. Refute it at one input. -/
def pickNormalWrong : ChangeSpec := { name := "pickNormal", fn := fun _ => fun
  | [d] => { results := [.lit (.bool false)], args := [d] }
  | _ => none }
def PickNormalWrongFalsely : Prop := pickNormalRow.holds Try.pinned (OpenSpec.ofChange pickNormalWrong)

/-- 'sennitlaw07.PickChooses': WHATEVER THE INPUT: true; the input reads as it did. -/
def pickChoosesSpec : ChangeSpec := { name := "pickChooses", fn := fun _ => fun
  | [d1, d2] => { results := [.lit (.bool true)], args := [d1, d2] }
  | _ => none }
def pickChoosesRow : OpenClaim := { program := "ytiaoppikdgoieaa", sum := "63c114ac18d3886774c4349378315f909d5f0b3aee05c917c6c7832571e22ed7", func := "sennit/sennitlaw07.PickChooses", spec := "pickChooses", unfollowed := true, recurses := true, apart := false }
def PickChoosesSaid : Prop := pickChoosesRow.holds Try.pinned (OpenSpec.ofChange pickChoosesSpec)

/-- ITS FALSE NEIGHBOUR: 'it returns false'. Refute it at one input. -/
def pickChoosesWrong : ChangeSpec := { name := "pickChooses", fn := fun _ => fun
  | [d1, d2] => { results := [.lit (.bool false)], args := [d1, d2] }
  | _ => none }
def PickChoosesWrongFalsely : Prop := pickChoosesRow.holds Try.pinned (OpenSpec.ofChange pickChoosesWrong)

/-- 'sennitlaw07.PickFavour': WHATEVER THE INPUT: true; the input reads as it did. -/
def pickFavourSpec : ChangeSpec := { name := "pickFavour", fn := fun _ => fun
  | [d1, d2, d3] => { results := [.lit (.bool true)], args := [d1, d2, d3] }
  | _ => none }
def pickFavourRow : OpenClaim := { program := "ytiaoppikdgoieaa", sum := "63c114ac18d3886774c4349378315f909d5f0b3aee05c917c6c7832571e22ed7", func := "sennit/sennitlaw07.PickFavour", spec := "pickFavour", unfollowed := true, recurses := true, apart := false }
def PickFavourSaid : Prop := pickFavourRow.holds Try.pinned (OpenSpec.ofChange pickFavourSpec)

/-- ITS FALSE NEIGHBOUR: 'it returns false'. Refute it at one input. -/
def pickFavourWrong : ChangeSpec := { name := "pickFavour", fn := fun _ => fun
  | [d1, d2, d3] => { results := [.lit (.bool false)], args := [d1, d2, d3] }
  | _ => none }
def PickFavourWrongFalsely : Prop := pickFavourRow.holds Try.pinned (OpenSpec.ofChange pickFavourWrong)

/- THE SECOND FORM. 'bulk': how many values and letters a reading holds, each counted each time it is reached (what is shared counts as often as it is met; a slice's spare places count too). A statement '..UptoSaid' is the law's where the arguments, and the package variables that the reading takes, are together of bulk at most 1048576: NARROWER than '..Said'. Prove '..Said' where nothing that the law and all that it calls make is longer than what came in: it says more and counts as full. Else prove '..UptoSaid'. A law counts once. -/
mutual
def uptoBulk {H : Type} : DataW H → Nat
  | .lit (.string bytes) => bytes.length + 1
  | .lit _ => 1
  | .nil => 1
  | .ptr d => uptoBulk d + 1
  | .slice elems spare => uptoBulkAll elems + uptoBulkAll spare + 1
  | .agg parts => uptoBulkAll parts + 1
  | .iface _ d => uptoBulk d + 1
  | .map entries => uptoBulkEntries entries + 1
  | .held _ => 1
def uptoBulkAll {H : Type} : List (DataW H) → Nat
  | [] => 0
  | d :: r => uptoBulk d + uptoBulkAll r
def uptoBulkEntries {H : Type} : List (Lit × DataW H) → Nat
  | [] => 0
  | x :: r => uptoBulkEntry x + uptoBulkEntries r
def uptoBulkEntry {H : Type} : Lit × DataW H → Nat
  | (.string bytes, d) => bytes.length + uptoBulk d + 1
  | (_, d) => uptoBulk d + 1
 end
def uptoSmall : (H : Type) → List (DataW H) → Bool := fun _ ds => decide (uptoBulkAll ds ≤ 1048576)
def OpenSpec.upto (s : _root_.Go.ChangeSpec) : _root_.Go.OpenSpec := { _root_.Go.OpenSpec.ofChange s with cond := some uptoSmall }

/-- 'sennitlaw07.PickUnion', WHERE WHAT IT READS IS OF BULK AT MOST 1048576: true; the input reads as it did. -/
def pickUnionUptoRow : OpenClaim := { program := "ytiaoppikdgoieaa", sum := "63c114ac18d3886774c4349378315f909d5f0b3aee05c917c6c7832571e22ed7", func := "sennit/sennitlaw07.PickUnion", spec := "pickUnion", unfollowed := true, recurses := true, apart := false, narrowed := true }
def PickUnionUptoSaid : Prop := pickUnionUptoRow.holds Try.pinned (OpenSpec.upto pickUnionSpec)

/-- 'sennitlaw06.ContentParts', WHERE WHAT IT READS IS OF BULK AT MOST 1048576: true; the input reads as it did. -/
def contentPartsUptoRow : OpenClaim := { program := "ytiaoppikdgoieaa", sum := "63c114ac18d3886774c4349378315f909d5f0b3aee05c917c6c7832571e22ed7", func := "sennit/sennitlaw06.ContentParts", spec := "contentParts", unfollowed := true, recurses := true, apart := false, narrowed := true }
def ContentPartsUptoSaid : Prop := contentPartsUptoRow.holds Try.pinned (OpenSpec.upto contentPartsSpec)

/-- 'sennitlaw06.ContentTells', WHERE WHAT IT READS IS OF BULK AT MOST 1048576: true; the input reads as it did. -/
def contentTellsUptoRow : OpenClaim := { program := "ytiaoppikdgoieaa", sum := "63c114ac18d3886774c4349378315f909d5f0b3aee05c917c6c7832571e22ed7", func := "sennit/sennitlaw06.ContentTells", spec := "contentTells", unfollowed := true, recurses := true, apart := false, narrowed := true }
def ContentTellsUptoSaid : Prop := contentTellsUptoRow.holds Try.pinned (OpenSpec.upto contentTellsSpec)

/-- 'sennitlaw06.ContentEach', WHERE WHAT IT READS IS OF BULK AT MOST 1048576: true; the input reads as it did. -/
def contentEachUptoRow : OpenClaim := { program := "ytiaoppikdgoieaa", sum := "63c114ac18d3886774c4349378315f909d5f0b3aee05c917c6c7832571e22ed7", func := "sennit/sennitlaw06.ContentEach", spec := "contentEach", unfollowed := true, recurses := true, apart := false, narrowed := true }
def ContentEachUptoSaid : Prop := contentEachUptoRow.holds Try.pinned (OpenSpec.upto contentEachSpec)

/-- 'sennitlaw06.ContentTurn', WHERE WHAT IT READS IS OF BULK AT MOST 1048576: true; the input reads as it did. -/
def contentTurnUptoRow : OpenClaim := { program := "ytiaoppikdgoieaa", sum := "63c114ac18d3886774c4349378315f909d5f0b3aee05c917c6c7832571e22ed7", func := "sennit/sennitlaw06.ContentTurn", spec := "contentTurn", unfollowed := true, recurses := true, apart := false, narrowed := true }
def ContentTurnUptoSaid : Prop := contentTurnUptoRow.holds Try.pinned (OpenSpec.upto contentTurnSpec)

/-- 'sennitlaw07.PickSame', WHERE WHAT IT READS IS OF BULK AT MOST 1048576: true; the input reads as it did. -/
def pickSameUptoRow : OpenClaim := { program := "ytiaoppikdgoieaa", sum := "63c114ac18d3886774c4349378315f909d5f0b3aee05c917c6c7832571e22ed7", func := "sennit/sennitlaw07.PickSame", spec := "pickSame", unfollowed := true, recurses := true, apart := false, narrowed := true }
def PickSameUptoSaid : Prop := pickSameUptoRow.holds Try.pinned (OpenSpec.upto pickSameSpec)

/-- 'sennitlaw06.ContentSame', WHERE WHAT IT READS IS OF BULK AT MOST 1048576: true; the input reads as it did. -/
def contentSameUptoRow : OpenClaim := { program := "ytiaoppikdgoieaa", sum := "63c114ac18d3886774c4349378315f909d5f0b3aee05c917c6c7832571e22ed7", func := "sennit/sennitlaw06.ContentSame", spec := "contentSame", unfollowed := true, recurses := true, apart := false, narrowed := true }
def ContentSameUptoSaid : Prop := contentSameUptoRow.holds Try.pinned (OpenSpec.upto contentSameSpec)

/-- 'sennitlaw10.ZealTells', WHERE WHAT IT READS IS OF BULK AT MOST 1048576: true; the input reads as it did. -/
def zealTellsUptoRow : OpenClaim := { program := "ytiaoppikdgoieaa", sum := "63c114ac18d3886774c4349378315f909d5f0b3aee05c917c6c7832571e22ed7", func := "sennit/sennitlaw10.ZealTells", spec := "zealTells", unfollowed := true, recurses := true, apart := false, narrowed := true }
def ZealTellsUptoSaid : Prop := zealTellsUptoRow.holds Try.pinned (OpenSpec.upto zealTellsSpec)

/-- 'sennitlaw10.ZealTwice', WHERE WHAT IT READS IS OF BULK AT MOST 1048576: true; the input reads as it did. -/
def zealTwiceUptoRow : OpenClaim := { program := "ytiaoppikdgoieaa", sum := "63c114ac18d3886774c4349378315f909d5f0b3aee05c917c6c7832571e22ed7", func := "sennit/sennitlaw10.ZealTwice", spec := "zealTwice", unfollowed := true, recurses := true, apart := false, narrowed := true }
def ZealTwiceUptoSaid : Prop := zealTwiceUptoRow.holds Try.pinned (OpenSpec.upto zealTwiceSpec)

/-- 'sennitlaw10.ZealEnds', WHERE WHAT IT READS IS OF BULK AT MOST 1048576: true; the input reads as it did. -/
def zealEndsUptoRow : OpenClaim := { program := "ytiaoppikdgoieaa", sum := "63c114ac18d3886774c4349378315f909d5f0b3aee05c917c6c7832571e22ed7", func := "sennit/sennitlaw10.ZealEnds", spec := "zealEnds", unfollowed := true, recurses := true, apart := false, narrowed := true }
def ZealEndsUptoSaid : Prop := zealEndsUptoRow.holds Try.pinned (OpenSpec.upto zealEndsSpec)

/-- 'sennitlaw10.ZealTurn', WHERE WHAT IT READS IS OF BULK AT MOST 1048576: true; the input reads as it did. -/
def zealTurnUptoRow : OpenClaim := { program := "ytiaoppikdgoieaa", sum := "63c114ac18d3886774c4349378315f909d5f0b3aee05c917c6c7832571e22ed7", func := "sennit/sennitlaw10.ZealTurn", spec := "zealTurn", unfollowed := true, recurses := true, apart := false, narrowed := true }
def ZealTurnUptoSaid : Prop := zealTurnUptoRow.holds Try.pinned (OpenSpec.upto zealTurnSpec)

/-- 'sennitlaw10.ZealChoose', WHERE WHAT IT READS IS OF BULK AT MOST 1048576: true; the input reads as it did. -/
def zealChooseUptoRow : OpenClaim := { program := "ytiaoppikdgoieaa", sum := "63c114ac18d3886774c4349378315f909d5f0b3aee05c917c6c7832571e22ed7", func := "sennit/sennitlaw10.ZealChoose", spec := "zealChoose", unfollowed := true, recurses := true, apart := false, narrowed := true }
def ZealChooseUptoSaid : Prop := zealChooseUptoRow.holds Try.pinned (OpenSpec.upto zealChooseSpec)

/-- 'sennitlaw07.PickTells', WHERE WHAT IT READS IS OF BULK AT MOST 1048576: true; the input reads as it did. -/
def pickTellsUptoRow : OpenClaim := { program := "ytiaoppikdgoieaa", sum := "63c114ac18d3886774c4349378315f909d5f0b3aee05c917c6c7832571e22ed7", func := "sennit/sennitlaw07.PickTells", spec := "pickTells", unfollowed := true, recurses := true, apart := false, narrowed := true }
def PickTellsUptoSaid : Prop := pickTellsUptoRow.holds Try.pinned (OpenSpec.upto pickTellsSpec)

/-- 'sennitlaw07.PickNormal', WHERE WHAT IT READS IS OF BULK AT MOST 1048576: true; the input reads as it did. -/
def pickNormalUptoRow : OpenClaim := { program := "ytiaoppikdgoieaa", sum := "63c114ac18d3886774c4349378315f909d5f0b3aee05c917c6c7832571e22ed7", func := "sennit/sennitlaw07.PickNormal", spec := "pickNormal", unfollowed := true, recurses := true, apart := false, narrowed := true }
def PickNormalUptoSaid : Prop := pickNormalUptoRow.holds Try.pinned (OpenSpec.upto pickNormalSpec)

/-- 'sennitlaw07.PickChooses', WHERE WHAT IT READS IS OF BULK AT MOST 1048576: true; the input reads as it did. -/
def pickChoosesUptoRow : OpenClaim := { program := "ytiaoppikdgoieaa", sum := "63c114ac18d3886774c4349378315f909d5f0b3aee05c917c6c7832571e22ed7", func := "sennit/sennitlaw07.PickChooses", spec := "pickChooses", unfollowed := true, recurses := true, apart := false, narrowed := true }
def PickChoosesUptoSaid : Prop := pickChoosesUptoRow.holds Try.pinned (OpenSpec.upto pickChoosesSpec)

/-- 'sennitlaw07.PickFavour', WHERE WHAT IT READS IS OF BULK AT MOST 1048576: true; the input reads as it did. -/
def pickFavourUptoRow : OpenClaim := { program := "ytiaoppikdgoieaa", sum := "63c114ac18d3886774c4349378315f909d5f0b3aee05c917c6c7832571e22ed7", func := "sennit/sennitlaw07.PickFavour", spec := "pickFavour", unfollowed := true, recurses := true, apart := false, narrowed := true }
def PickFavourUptoSaid : Prop := pickFavourUptoRow.holds Try.pinned (OpenSpec.upto pickFavourSpec)

end Rows
end Go.Proofs.Ytiaoppikdgoieaa
