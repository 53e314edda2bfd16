/-
  No cell of these rows narrows 'for every input' (looked for: loops, veiled, ifaces, maps, wideKeys, modest, calm, conditions, laid).
  DERIVED. THE GIVEN ROWS OF THIS SEAT. 10 by the template 'for every input the law returns true; each argument reads behind the call as it read before'; 0 by the template 'total and deterministic' (their statements: YtdiadmlgeojefaaTotals.lean).
  GIVEN WITH THE SEED: the statements are not yours to turn. If you find one false, say at which input.
  Laid BY PROGRAM, IN A SANDBOX (cutbox-rows.mjs): the forced cells as the released guide's own fill.sh prints them over the translation f7639a4c0864b51f… (all of the seat's roots in one cut). By AI agents, Wed Nov 11 2026. No macro, syntax, notation, axiom, sorry.
-/
import Derived.Test.YtdiadmlgeojefaaChecked
import GoSem.Claim
import GoSem.ClaimJoined
import GoSem.ClaimMapViews
import Derived.JoinedTies
import Derived.KernelRfl
namespace Go.Proofs.Ytdiadmlgeojefaa
/- THE CELL 'sum', in the pinned program and in every row, IS THE sha256 OF THE DUMP (.gsa) THAT YtdiadmlgeojefaaProg.lean LOADS. Nothing in Lean hashes anything: it is a label: what it is worth is what the hold of that sum in a sandbox is worth. -/
noncomputable def Try.pinned : Pinned := { name := "ytdiadmlgeojefaa", sum := "f7639a4c0864b51f474eb2aadf80682f83aea89b5fc1bc3486de4433c1cf5f91", checked := Try.checked }
namespace Rows
def none {H : Type} : Left H := { results := [], args := [] }

/-- 'podestalaw17.CheckNames': WHATEVER THE INPUT: true; the input reads as it did. -/
def checkNamesSpec : ChangeSpec := { name := "checkNames", fn := fun _ => fun
  | [d1, d2] => { results := [.lit (.bool true)], args := [d1, d2] }
  | _ => none }
def checkNamesRow : OpenClaim := { program := "ytdiadmlgeojefaa", sum := "f7639a4c0864b51f474eb2aadf80682f83aea89b5fc1bc3486de4433c1cf5f91", func := "podesta/podestalaw17.CheckNames", spec := "checkNames", unfollowed := true, recurses := true, apart := false }
def CheckNamesSaid : Prop := checkNamesRow.holds Try.pinned (OpenSpec.ofChange checkNamesSpec)

/-- ITS FALSE NEIGHBOUR: 'it returns false'. Refute it at one input. -/
def checkNamesWrong : ChangeSpec := { name := "checkNames", fn := fun _ => fun
  | [d1, d2] => { results := [.lit (.bool false)], args := [d1, d2] }
  | _ => none }
def CheckNamesWrongFalsely : Prop := checkNamesRow.holds Try.pinned (OpenSpec.ofChange checkNamesWrong)

/-- 'podestalaw17.CheckMany': WHATEVER THE INPUT: true; the input reads as it did. -/
def checkManySpec : ChangeSpec := { name := "checkMany", fn := fun _ => fun
  | [d1, d2] => { results := [.lit (.bool true)], args := [d1, d2] }
  | _ => none }
def checkManyRow : OpenClaim := { program := "ytdiadmlgeojefaa", sum := "f7639a4c0864b51f474eb2aadf80682f83aea89b5fc1bc3486de4433c1cf5f91", func := "podesta/podestalaw17.CheckMany", spec := "checkMany", unfollowed := true, recurses := true, apart := false }
def CheckManySaid : Prop := checkManyRow.holds Try.pinned (OpenSpec.ofChange checkManySpec)

/-- ITS FALSE NEIGHBOUR: 'it returns false'. Refute it at one input. -/
def checkManyWrong : ChangeSpec := { name := "checkMany", fn := fun _ => fun
  | [d1, d2] => { results := [.lit (.bool false)], args := [d1, d2] }
  | _ => none }
def CheckManyWrongFalsely : Prop := checkManyRow.holds Try.pinned (OpenSpec.ofChange checkManyWrong)

/-- 'podestalaw17.CheckScopes': WHATEVER THE INPUT: true; the input reads as it did. -/
def checkScopesSpec : ChangeSpec := { name := "checkScopes", fn := fun _ => fun
  | [d1, d2] => { results := [.lit (.bool true)], args := [d1, d2] }
  | _ => none }
def checkScopesRow : OpenClaim := { program := "ytdiadmlgeojefaa", sum := "f7639a4c0864b51f474eb2aadf80682f83aea89b5fc1bc3486de4433c1cf5f91", func := "podesta/podestalaw17.CheckScopes", spec := "checkScopes", unfollowed := true, recurses := true, apart := false }
def CheckScopesSaid : Prop := checkScopesRow.holds Try.pinned (OpenSpec.ofChange checkScopesSpec)

/-- ITS FALSE NEIGHBOUR: 'it returns false'. Refute it at one input. -/
def checkScopesWrong : ChangeSpec := { name := "checkScopes", fn := fun _ => fun
  | [d1, d2] => { results := [.lit (.bool false)], args := [d1, d2] }
  | _ => none }
def CheckScopesWrongFalsely : Prop := checkScopesRow.holds Try.pinned (OpenSpec.ofChange checkScopesWrong)

/-- 'podestalaw18.EvalRuns': WHATEVER THE INPUT: true; the input reads as it did. -/
def evalRunsSpec : ChangeSpec := { name := "evalRuns", fn := fun _ => fun
  | [d1, d2, d3, d4, d5] => { results := [.lit (.bool true)], args := [d1, d2, d3, d4, d5] }
  | _ => none }
def evalRunsRow : OpenClaim := { program := "ytdiadmlgeojefaa", sum := "f7639a4c0864b51f474eb2aadf80682f83aea89b5fc1bc3486de4433c1cf5f91", func := "podesta/podestalaw18.EvalRuns", spec := "evalRuns", unfollowed := true, recurses := true, apart := false }
def EvalRunsSaid : Prop := evalRunsRow.holds Try.pinned (OpenSpec.ofChange evalRunsSpec)

/-- ITS FALSE NEIGHBOUR: 'it returns false'. Refute it at one input. -/
def evalRunsWrong : ChangeSpec := { name := "evalRuns", fn := fun _ => fun
  | [d1, d2, d3, d4, d5] => { results := [.lit (.bool false)], args := [d1, d2, d3, d4, d5] }
  | _ => none }
def EvalRunsWrongFalsely : Prop := evalRunsRow.holds Try.pinned (OpenSpec.ofChange evalRunsWrong)

/-- 'podestalaw18.EvalFuel': WHATEVER THE INPUT: true; the input reads as it did. -/
def evalFuelSpec : ChangeSpec := { name := "evalFuel", fn := fun _ => fun
  | [d1, d2, d3, d4, d5] => { results := [.lit (.bool true)], args := [d1, d2, d3, d4, d5] }
  | _ => none }
def evalFuelRow : OpenClaim := { program := "ytdiadmlgeojefaa", sum := "f7639a4c0864b51f474eb2aadf80682f83aea89b5fc1bc3486de4433c1cf5f91", func := "podesta/podestalaw18.EvalFuel", spec := "evalFuel", unfollowed := true, recurses := true, apart := false }
def EvalFuelSaid : Prop := evalFuelRow.holds Try.pinned (OpenSpec.ofChange evalFuelSpec)

/-- ITS FALSE NEIGHBOUR: 'it returns false'. Refute it at one input. -/
def evalFuelWrong : ChangeSpec := { name := "evalFuel", fn := fun _ => fun
  | [d1, d2, d3, d4, d5] => { results := [.lit (.bool false)], args := [d1, d2, d3, d4, d5] }
  | _ => none }
def EvalFuelWrongFalsely : Prop := evalFuelRow.holds Try.pinned (OpenSpec.ofChange evalFuelWrong)

/-- 'podestalaw18.EvalSound': WHATEVER THE INPUT: true; the input reads as it did. -/
def evalSoundSpec : ChangeSpec := { name := "evalSound", fn := fun _ => fun
  | [d1, d2, d3, d4] => { results := [.lit (.bool true)], args := [d1, d2, d3, d4] }
  | _ => none }
def evalSoundRow : OpenClaim := { program := "ytdiadmlgeojefaa", sum := "f7639a4c0864b51f474eb2aadf80682f83aea89b5fc1bc3486de4433c1cf5f91", func := "podesta/podestalaw18.EvalSound", spec := "evalSound", unfollowed := true, recurses := true, apart := false }
def EvalSoundSaid : Prop := evalSoundRow.holds Try.pinned (OpenSpec.ofChange evalSoundSpec)

/-- ITS FALSE NEIGHBOUR: 'it returns false'. Refute it at one input. -/
def evalSoundWrong : ChangeSpec := { name := "evalSound", fn := fun _ => fun
  | [d1, d2, d3, d4] => { results := [.lit (.bool false)], args := [d1, d2, d3, d4] }
  | _ => none }
def EvalSoundWrongFalsely : Prop := evalSoundRow.holds Try.pinned (OpenSpec.ofChange evalSoundWrong)

/-- 'podestalaw18.EvalNumbers': WHATEVER THE INPUT: true; the input reads as it did. -/
def evalNumbersSpec : ChangeSpec := { name := "evalNumbers", fn := fun _ => fun
  | [d1, d2, d3] => { results := [.lit (.bool true)], args := [d1, d2, d3] }
  | _ => none }
def evalNumbersRow : OpenClaim := { program := "ytdiadmlgeojefaa", sum := "f7639a4c0864b51f474eb2aadf80682f83aea89b5fc1bc3486de4433c1cf5f91", func := "podesta/podestalaw18.EvalNumbers", spec := "evalNumbers", unfollowed := true, recurses := true, apart := false }
def EvalNumbersSaid : Prop := evalNumbersRow.holds Try.pinned (OpenSpec.ofChange evalNumbersSpec)

/-- ITS FALSE NEIGHBOUR: 'it returns false'. Refute it at one input. -/
def evalNumbersWrong : ChangeSpec := { name := "evalNumbers", fn := fun _ => fun
  | [d1, d2, d3] => { results := [.lit (.bool false)], args := [d1, d2, d3] }
  | _ => none }
def EvalNumbersWrongFalsely : Prop := evalNumbersRow.holds Try.pinned (OpenSpec.ofChange evalNumbersWrong)

/-- 'podestalaw18.EvalLoops': WHATEVER THE INPUT: true; the input reads as it did. -/
def evalLoopsSpec : ChangeSpec := { name := "evalLoops", fn := fun _ => fun
  | [d1, d2] => { results := [.lit (.bool true)], args := [d1, d2] }
  | _ => none }
def evalLoopsRow : OpenClaim := { program := "ytdiadmlgeojefaa", sum := "f7639a4c0864b51f474eb2aadf80682f83aea89b5fc1bc3486de4433c1cf5f91", func := "podesta/podestalaw18.EvalLoops", spec := "evalLoops", unfollowed := true, recurses := true, apart := false }
def EvalLoopsSaid : Prop := evalLoopsRow.holds Try.pinned (OpenSpec.ofChange evalLoopsSpec)

/-- ITS FALSE NEIGHBOUR: 'it returns false'. Refute it at one input. -/
def evalLoopsWrong : ChangeSpec := { name := "evalLoops", fn := fun _ => fun
  | [d1, d2] => { results := [.lit (.bool false)], args := [d1, d2] }
  | _ => none }
def EvalLoopsWrongFalsely : Prop := evalLoopsRow.holds Try.pinned (OpenSpec.ofChange evalLoopsWrong)

/-- 'podestalaw18.EvalMany': WHATEVER THE INPUT: true; the input reads as it did. -/
def evalManySpec : ChangeSpec := { name := "evalMany", fn := fun _ => fun
  | [d1, d2] => { results := [.lit (.bool true)], args := [d1, d2] }
  | _ => none }
def evalManyRow : OpenClaim := { program := "ytdiadmlgeojefaa", sum := "f7639a4c0864b51f474eb2aadf80682f83aea89b5fc1bc3486de4433c1cf5f91", func := "podesta/podestalaw18.EvalMany", spec := "evalMany", unfollowed := true, recurses := true, apart := false }
def EvalManySaid : Prop := evalManyRow.holds Try.pinned (OpenSpec.ofChange evalManySpec)

/-- ITS FALSE NEIGHBOUR: 'it returns false'. Refute it at one input. -/
def evalManyWrong : ChangeSpec := { name := "evalMany", fn := fun _ => fun
  | [d1, d2] => { results := [.lit (.bool false)], args := [d1, d2] }
  | _ => none }
def EvalManyWrongFalsely : Prop := evalManyRow.holds Try.pinned (OpenSpec.ofChange evalManyWrong)

/-- 'podestalaw18.EvalKeeps': WHATEVER THE INPUT: true; the input reads as it did. -/
def evalKeepsSpec : ChangeSpec := { name := "evalKeeps", fn := fun _ => fun
  | [d1, d2, d3] => { results := [.lit (.bool true)], args := [d1, d2, d3] }
  | _ => none }
def evalKeepsRow : OpenClaim := { program := "ytdiadmlgeojefaa", sum := "f7639a4c0864b51f474eb2aadf80682f83aea89b5fc1bc3486de4433c1cf5f91", func := "podesta/podestalaw18.EvalKeeps", spec := "evalKeeps", unfollowed := true, recurses := true, apart := false }
def EvalKeepsSaid : Prop := evalKeepsRow.holds Try.pinned (OpenSpec.ofChange evalKeepsSpec)

/-- ITS FALSE NEIGHBOUR: 'it returns false'. Refute it at one input. -/
def evalKeepsWrong : ChangeSpec := { name := "evalKeeps", fn := fun _ => fun
  | [d1, d2, d3] => { results := [.lit (.bool false)], args := [d1, d2, d3] }
  | _ => none }
def EvalKeepsWrongFalsely : Prop := evalKeepsRow.holds Try.pinned (OpenSpec.ofChange evalKeepsWrong)

/- THE SECOND FORM. 'bulk': how many values and letters a reading holds, each counted each time it is reached (what is shared counts as often as it is met; a slice's spare places count too). A statement '..UptoSaid' is the law's where the arguments, and the package variables that the reading takes, are together of bulk at most 1048576: NARROWER than '..Said'. Prove '..Said' where nothing that the law and all that it calls make is longer than what came in: it says more and counts as full. Else prove '..UptoSaid'. A law counts once. -/
mutual
def uptoBulk {H : Type} : DataW H → Nat
  | .lit (.string bytes) => bytes.length + 1
  | .lit _ => 1
  | .nil => 1
  | .ptr d => uptoBulk d + 1
  | .slice elems spare => uptoBulkAll elems + uptoBulkAll spare + 1
  | .agg parts => uptoBulkAll parts + 1
  | .iface _ d => uptoBulk d + 1
  | .map entries => uptoBulkEntries entries + 1
  | .held _ => 1
def uptoBulkAll {H : Type} : List (DataW H) → Nat
  | [] => 0
  | d :: r => uptoBulk d + uptoBulkAll r
def uptoBulkEntries {H : Type} : List (Lit × DataW H) → Nat
  | [] => 0
  | x :: r => uptoBulkEntry x + uptoBulkEntries r
def uptoBulkEntry {H : Type} : Lit × DataW H → Nat
  | (.string bytes, d) => bytes.length + uptoBulk d + 1
  | (_, d) => uptoBulk d + 1
 end
def uptoSmall : (H : Type) → List (DataW H) → Bool := fun _ ds => decide (uptoBulkAll ds ≤ 1048576)
def OpenSpec.upto (s : _root_.Go.ChangeSpec) : _root_.Go.OpenSpec := { _root_.Go.OpenSpec.ofChange s with cond := some uptoSmall }

/-- 'podestalaw17.CheckNames', WHERE WHAT IT READS IS OF BULK AT MOST 1048576: true; the input reads as it did. -/
def checkNamesUptoRow : OpenClaim := { program := "ytdiadmlgeojefaa", sum := "f7639a4c0864b51f474eb2aadf80682f83aea89b5fc1bc3486de4433c1cf5f91", func := "podesta/podestalaw17.CheckNames", spec := "checkNames", unfollowed := true, recurses := true, apart := false, narrowed := true }
def CheckNamesUptoSaid : Prop := checkNamesUptoRow.holds Try.pinned (OpenSpec.upto checkNamesSpec)

/-- 'podestalaw17.CheckMany', WHERE WHAT IT READS IS OF BULK AT MOST 1048576: true; the input reads as it did. -/
def checkManyUptoRow : OpenClaim := { program := "ytdiadmlgeojefaa", sum := "f7639a4c0864b51f474eb2aadf80682f83aea89b5fc1bc3486de4433c1cf5f91", func := "podesta/podestalaw17.CheckMany", spec := "checkMany", unfollowed := true, recurses := true, apart := false, narrowed := true }
def CheckManyUptoSaid : Prop := checkManyUptoRow.holds Try.pinned (OpenSpec.upto checkManySpec)

/-- 'podestalaw17.CheckScopes', WHERE WHAT IT READS IS OF BULK AT MOST 1048576: true; the input reads as it did. -/
def checkScopesUptoRow : OpenClaim := { program := "ytdiadmlgeojefaa", sum := "f7639a4c0864b51f474eb2aadf80682f83aea89b5fc1bc3486de4433c1cf5f91", func := "podesta/podestalaw17.CheckScopes", spec := "checkScopes", unfollowed := true, recurses := true, apart := false, narrowed := true }
def CheckScopesUptoSaid : Prop := checkScopesUptoRow.holds Try.pinned (OpenSpec.upto checkScopesSpec)

/-- 'podestalaw18.EvalRuns', WHERE WHAT IT READS IS OF BULK AT MOST 1048576: true; the input reads as it did. -/
def evalRunsUptoRow : OpenClaim := { program := "ytdiadmlgeojefaa", sum := "f7639a4c0864b51f474eb2aadf80682f83aea89b5fc1bc3486de4433c1cf5f91", func := "podesta/podestalaw18.EvalRuns", spec := "evalRuns", unfollowed := true, recurses := true, apart := false, narrowed := true }
def EvalRunsUptoSaid : Prop := evalRunsUptoRow.holds Try.pinned (OpenSpec.upto evalRunsSpec)

/-- 'podestalaw18.EvalFuel', WHERE WHAT IT READS IS OF BULK AT MOST 1048576: true; the input reads as it did. -/
def evalFuelUptoRow : OpenClaim := { program := "ytdiadmlgeojefaa", sum := "f7639a4c0864b51f474eb2aadf80682f83aea89b5fc1bc3486de4433c1cf5f91", func := "podesta/podestalaw18.EvalFuel", spec := "evalFuel", unfollowed := true, recurses := true, apart := false, narrowed := true }
def EvalFuelUptoSaid : Prop := evalFuelUptoRow.holds Try.pinned (OpenSpec.upto evalFuelSpec)

/-- 'podestalaw18.EvalSound', WHERE WHAT IT READS IS OF BULK AT MOST 1048576: true; the input reads as it did. -/
def evalSoundUptoRow : OpenClaim := { program := "ytdiadmlgeojefaa", sum := "f7639a4c0864b51f474eb2aadf80682f83aea89b5fc1bc3486de4433c1cf5f91", func := "podesta/podestalaw18.EvalSound", spec := "evalSound", unfollowed := true, recurses := true, apart := false, narrowed := true }
def EvalSoundUptoSaid : Prop := evalSoundUptoRow.holds Try.pinned (OpenSpec.upto evalSoundSpec)

/-- 'podestalaw18.EvalNumbers', WHERE WHAT IT READS IS OF BULK AT MOST 1048576: true; the input reads as it did. -/
def evalNumbersUptoRow : OpenClaim := { program := "ytdiadmlgeojefaa", sum := "f7639a4c0864b51f474eb2aadf80682f83aea89b5fc1bc3486de4433c1cf5f91", func := "podesta/podestalaw18.EvalNumbers", spec := "evalNumbers", unfollowed := true, recurses := true, apart := false, narrowed := true }
def EvalNumbersUptoSaid : Prop := evalNumbersUptoRow.holds Try.pinned (OpenSpec.upto evalNumbersSpec)

/-- 'podestalaw18.EvalLoops', WHERE WHAT IT READS IS OF BULK AT MOST 1048576: true; the input reads as it did. -/
def evalLoopsUptoRow : OpenClaim := { program := "ytdiadmlgeojefaa", sum := "f7639a4c0864b51f474eb2aadf80682f83aea89b5fc1bc3486de4433c1cf5f91", func := "podesta/podestalaw18.EvalLoops", spec := "evalLoops", unfollowed := true, recurses := true, apart := false, narrowed := true }
def EvalLoopsUptoSaid : Prop := evalLoopsUptoRow.holds Try.pinned (OpenSpec.upto evalLoopsSpec)

/-- 'podestalaw18.EvalMany', WHERE WHAT IT READS IS OF BULK AT MOST 1048576: true; the input reads as it did. -/
def evalManyUptoRow : OpenClaim := { program := "ytdiadmlgeojefaa", sum := "f7639a4c0864b51f474eb2aadf80682f83aea89b5fc1bc3486de4433c1cf5f91", func := "podesta/podestalaw18.EvalMany", spec := "evalMany", unfollowed := true, recurses := true, apart := false, narrowed := true }
def EvalManyUptoSaid : Prop := evalManyUptoRow.holds Try.pinned (OpenSpec.upto evalManySpec)

/-- 'podestalaw18.EvalKeeps', WHERE WHAT IT READS IS OF BULK AT MOST 1048576: true; the input reads as it did. -/
def evalKeepsUptoRow : OpenClaim := { program := "ytdiadmlgeojefaa", sum := "f7639a4c0864b51f474eb2aadf80682f83aea89b5fc1bc3486de4433c1cf5f91", func := "podesta/podestalaw18.EvalKeeps", spec := "evalKeeps", unfollowed := true, recurses := true, apart := false, narrowed := true }
def EvalKeepsUptoSaid : Prop := evalKeepsUptoRow.holds Try.pinned (OpenSpec.upto evalKeepsSpec)

end Rows
end Go.Proofs.Ytdiadmlgeojefaa
