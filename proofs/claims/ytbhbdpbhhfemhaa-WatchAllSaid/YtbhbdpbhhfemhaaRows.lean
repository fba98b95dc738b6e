/-
  No cell of these rows narrows 'for every input' (looked for: loops, veiled, ifaces, maps, wideKeys, modest, calm, conditions, laid).
  DERIVED. THE GIVEN ROWS OF THIS SEAT. 11 by the template 'for every input the law returns true; each argument reads behind the call as it read before'; 0 by the template 'total and deterministic' (their statements: YtbhbdpbhhfemhaaTotals.lean).
  GIVEN WITH THE SEED: the statements are not yours to turn. If you find one false, say at which input.
  Laid BY PROGRAM, IN A SANDBOX (cutbox-rows.mjs): the forced cells as the released guide's own fill.sh prints them over the translation bdd7df01443fed49… (all of the seat's roots in one cut). By AI agents, Wed Nov 11 2026. No macro, syntax, notation, axiom, sorry.
-/
import Derived.Test.YtbhbdpbhhfemhaaChecked
import GoSem.Claim
import GoSem.ClaimJoined
import GoSem.ClaimMapViews
import Derived.JoinedTies
import Derived.KernelRfl
namespace Go.Proofs.Ytbhbdpbhhfemhaa
/- THE CELL 'sum', in the pinned program and in every row, IS THE sha256 OF THE DUMP (.gsa) THAT YtbhbdpbhhfemhaaProg.lean LOADS. Nothing in Lean hashes anything: it is a label: what it is worth is what the hold of that sum in a sandbox is worth. -/
noncomputable def Try.pinned : Pinned := { name := "ytbhbdpbhhfemhaa", sum := "bdd7df01443fed49b4fce42fa60272697f07b1b307202dac34c1836e7106e428", checked := Try.checked }
namespace Rows
def none {H : Type} : Left H := { results := [], args := [] }

/-- 'mailbaglaw09.StoreSorts': WHATEVER THE INPUT: true; the input reads as it did. -/
def storeSortsSpec : ChangeSpec := { name := "storeSorts", fn := fun _ => fun
  | [d] => { results := [.lit (.bool true)], args := [d] }
  | _ => none }
def storeSortsRow : OpenClaim := { program := "ytbhbdpbhhfemhaa", sum := "bdd7df01443fed49b4fce42fa60272697f07b1b307202dac34c1836e7106e428", func := "mailbag/mailbaglaw09.StoreSorts", spec := "storeSorts", inPlace := ["internal/bytealg.abigen_runtime_cmpstring", "slices.overlaps[mailbag/tree.item[mailbag/chain.Chain]]", "slices.overlaps[[]mailbag/tree.item[mailbag/chain.Chain]]"], unfollowed := true, recurses := true, apart := false }
def StoreSortsSaid : Prop := storeSortsRow.holds Try.pinned (OpenSpec.ofChange storeSortsSpec)

/-- ITS FALSE NEIGHBOUR: 'it returns false'. Refute it at one input. -/
def storeSortsWrong : ChangeSpec := { name := "storeSorts", fn := fun _ => fun
  | [d] => { results := [.lit (.bool false)], args := [d] }
  | _ => none }
def StoreSortsWrongFalsely : Prop := storeSortsRow.holds Try.pinned (OpenSpec.ofChange storeSortsWrong)

/-- 'mailbaglaw09.StoreCommits': WHATEVER THE INPUT: true; the input reads as it did. -/
def storeCommitsSpec : ChangeSpec := { name := "storeCommits", fn := fun _ => fun
  | [d1, d2] => { results := [.lit (.bool true)], args := [d1, d2] }
  | _ => none }
def storeCommitsRow : OpenClaim := { program := "ytbhbdpbhhfemhaa", sum := "bdd7df01443fed49b4fce42fa60272697f07b1b307202dac34c1836e7106e428", func := "mailbag/mailbaglaw09.StoreCommits", spec := "storeCommits", inPlace := ["internal/bytealg.abigen_runtime_cmpstring", "slices.overlaps[mailbag/tree.item[mailbag/chain.Chain]]", "slices.overlaps[[]mailbag/tree.item[mailbag/chain.Chain]]"], unfollowed := true, recurses := true, apart := false }
def StoreCommitsSaid : Prop := storeCommitsRow.holds Try.pinned (OpenSpec.ofChange storeCommitsSpec)

/-- ITS FALSE NEIGHBOUR: 'it returns false'. Refute it at one input. -/
def storeCommitsWrong : ChangeSpec := { name := "storeCommits", fn := fun _ => fun
  | [d1, d2] => { results := [.lit (.bool false)], args := [d1, d2] }
  | _ => none }
def StoreCommitsWrongFalsely : Prop := storeCommitsRow.holds Try.pinned (OpenSpec.ofChange storeCommitsWrong)

/-- 'mailbaglaw09.StoreKeys': WHATEVER THE INPUT: true; the input reads as it did. -/
def storeKeysSpec : ChangeSpec := { name := "storeKeys", fn := fun _ => fun
  | [d1, d2] => { results := [.lit (.bool true)], args := [d1, d2] }
  | _ => none }
def storeKeysRow : OpenClaim := { program := "ytbhbdpbhhfemhaa", sum := "bdd7df01443fed49b4fce42fa60272697f07b1b307202dac34c1836e7106e428", func := "mailbag/mailbaglaw09.StoreKeys", spec := "storeKeys", inPlace := ["internal/bytealg.abigen_runtime_cmpstring", "slices.overlaps[mailbag/tree.item[mailbag/chain.Chain]]", "slices.overlaps[[]mailbag/tree.item[mailbag/chain.Chain]]"], unfollowed := true, recurses := true, apart := false }
def StoreKeysSaid : Prop := storeKeysRow.holds Try.pinned (OpenSpec.ofChange storeKeysSpec)

/-- ITS FALSE NEIGHBOUR: 'it returns false'. Refute it at one input. -/
def storeKeysWrong : ChangeSpec := { name := "storeKeys", fn := fun _ => fun
  | [d1, d2] => { results := [.lit (.bool false)], args := [d1, d2] }
  | _ => none }
def StoreKeysWrongFalsely : Prop := storeKeysRow.holds Try.pinned (OpenSpec.ofChange storeKeysWrong)

/-- 'mailbaglaw09.StoreSees': WHATEVER THE INPUT: true; the input reads as it did. -/
def storeSeesSpec : ChangeSpec := { name := "storeSees", fn := fun _ => fun
  | [d1, d2, d3, d4, d5, d6] => { results := [.lit (.bool true)], args := [d1, d2, d3, d4, d5, d6] }
  | _ => none }
def storeSeesRow : OpenClaim := { program := "ytbhbdpbhhfemhaa", sum := "bdd7df01443fed49b4fce42fa60272697f07b1b307202dac34c1836e7106e428", func := "mailbag/mailbaglaw09.StoreSees", spec := "storeSees", inPlace := ["internal/bytealg.abigen_runtime_cmpstring", "slices.overlaps[mailbag/tree.item[mailbag/chain.Chain]]", "slices.overlaps[[]mailbag/tree.item[mailbag/chain.Chain]]"], unfollowed := true, recurses := true, apart := false }
def StoreSeesSaid : Prop := storeSeesRow.holds Try.pinned (OpenSpec.ofChange storeSeesSpec)

/-- ITS FALSE NEIGHBOUR: 'it returns false'. Refute it at one input. -/
def storeSeesWrong : ChangeSpec := { name := "storeSees", fn := fun _ => fun
  | [d1, d2, d3, d4, d5, d6] => { results := [.lit (.bool false)], args := [d1, d2, d3, d4, d5, d6] }
  | _ => none }
def StoreSeesWrongFalsely : Prop := storeSeesRow.holds Try.pinned (OpenSpec.ofChange storeSeesWrong)

/-- 'mailbaglaw09.StoreAgain': WHATEVER THE INPUT: true; the input reads as it did. -/
def storeAgainSpec : ChangeSpec := { name := "storeAgain", fn := fun _ => fun
  | [d1, d2, d3] => { results := [.lit (.bool true)], args := [d1, d2, d3] }
  | _ => none }
def storeAgainRow : OpenClaim := { program := "ytbhbdpbhhfemhaa", sum := "bdd7df01443fed49b4fce42fa60272697f07b1b307202dac34c1836e7106e428", func := "mailbag/mailbaglaw09.StoreAgain", spec := "storeAgain", inPlace := ["internal/bytealg.abigen_runtime_cmpstring", "slices.overlaps[mailbag/tree.item[mailbag/chain.Chain]]", "slices.overlaps[[]mailbag/tree.item[mailbag/chain.Chain]]"], unfollowed := true, recurses := true, apart := false }
def StoreAgainSaid : Prop := storeAgainRow.holds Try.pinned (OpenSpec.ofChange storeAgainSpec)

/-- ITS FALSE NEIGHBOUR: 'it returns false'. Refute it at one input. -/
def storeAgainWrong : ChangeSpec := { name := "storeAgain", fn := fun _ => fun
  | [d1, d2, d3] => { results := [.lit (.bool false)], args := [d1, d2, d3] }
  | _ => none }
def StoreAgainWrongFalsely : Prop := storeAgainRow.holds Try.pinned (OpenSpec.ofChange storeAgainWrong)

/-- 'mailbaglaw17.WatchPolls': WHATEVER THE INPUT: true; the input reads as it did. -/
def watchPollsSpec : ChangeSpec := { name := "watchPolls", fn := fun _ => fun
  | [d1, d2, d3, d4, d5] => { results := [.lit (.bool true)], args := [d1, d2, d3, d4, d5] }
  | _ => none }
def watchPollsRow : OpenClaim := { program := "ytbhbdpbhhfemhaa", sum := "bdd7df01443fed49b4fce42fa60272697f07b1b307202dac34c1836e7106e428", func := "mailbag/mailbaglaw17.WatchPolls", spec := "watchPolls", inPlace := ["internal/bytealg.abigen_runtime_cmpstring", "slices.overlaps[mailbag/tree.item[mailbag/chain.Chain]]", "slices.overlaps[[]mailbag/tree.item[mailbag/chain.Chain]]"], unfollowed := true, recurses := true, apart := false }
def WatchPollsSaid : Prop := watchPollsRow.holds Try.pinned (OpenSpec.ofChange watchPollsSpec)

/-- ITS FALSE NEIGHBOUR: 'it returns false'. Refute it at one input. -/
def watchPollsWrong : ChangeSpec := { name := "watchPolls", fn := fun _ => fun
  | [d1, d2, d3, d4, d5] => { results := [.lit (.bool false)], args := [d1, d2, d3, d4, d5] }
  | _ => none }
def WatchPollsWrongFalsely : Prop := watchPollsRow.holds Try.pinned (OpenSpec.ofChange watchPollsWrong)

/-- 'mailbaglaw17.WatchAll': WHATEVER THE INPUT: true; the input reads as it did. -/
def watchAllSpec : ChangeSpec := { name := "watchAll", fn := fun _ => fun
  | [d1, d2, d3, d4] => { results := [.lit (.bool true)], args := [d1, d2, d3, d4] }
  | _ => none }
def watchAllRow : OpenClaim := { program := "ytbhbdpbhhfemhaa", sum := "bdd7df01443fed49b4fce42fa60272697f07b1b307202dac34c1836e7106e428", func := "mailbag/mailbaglaw17.WatchAll", spec := "watchAll", inPlace := ["internal/bytealg.abigen_runtime_cmpstring", "slices.overlaps[mailbag/tree.item[mailbag/chain.Chain]]", "slices.overlaps[[]mailbag/tree.item[mailbag/chain.Chain]]"], unfollowed := true, recurses := true, apart := false }
def WatchAllSaid : Prop := watchAllRow.holds Try.pinned (OpenSpec.ofChange watchAllSpec)

/-- ITS FALSE NEIGHBOUR: 'it returns false'. Refute it at one input. -/
def watchAllWrong : ChangeSpec := { name := "watchAll", fn := fun _ => fun
  | [d1, d2, d3, d4] => { results := [.lit (.bool false)], args := [d1, d2, d3, d4] }
  | _ => none }
def WatchAllWrongFalsely : Prop := watchAllRow.holds Try.pinned (OpenSpec.ofChange watchAllWrong)

/-- 'mailbaglaw17.WatchSteps': WHATEVER THE INPUT: true; the input reads as it did. -/
def watchStepsSpec : ChangeSpec := { name := "watchSteps", fn := fun _ => fun
  | [d1, d2, d3] => { results := [.lit (.bool true)], args := [d1, d2, d3] }
  | _ => none }
def watchStepsRow : OpenClaim := { program := "ytbhbdpbhhfemhaa", sum := "bdd7df01443fed49b4fce42fa60272697f07b1b307202dac34c1836e7106e428", func := "mailbag/mailbaglaw17.WatchSteps", spec := "watchSteps", inPlace := ["internal/bytealg.abigen_runtime_cmpstring", "slices.overlaps[mailbag/tree.item[mailbag/chain.Chain]]", "slices.overlaps[[]mailbag/tree.item[mailbag/chain.Chain]]"], unfollowed := true, recurses := true, apart := false }
def WatchStepsSaid : Prop := watchStepsRow.holds Try.pinned (OpenSpec.ofChange watchStepsSpec)

/-- ITS FALSE NEIGHBOUR: 'it returns false'. Refute it at one input. -/
def watchStepsWrong : ChangeSpec := { name := "watchSteps", fn := fun _ => fun
  | [d1, d2, d3] => { results := [.lit (.bool false)], args := [d1, d2, d3] }
  | _ => none }
def WatchStepsWrongFalsely : Prop := watchStepsRow.holds Try.pinned (OpenSpec.ofChange watchStepsWrong)

/-- 'mailbaglaw17.WatchParts': WHATEVER THE INPUT: true; the input reads as it did. -/
def watchPartsSpec : ChangeSpec := { name := "watchParts", fn := fun _ => fun
  | [d] => { results := [.lit (.bool true)], args := [d] }
  | _ => none }
def watchPartsRow : OpenClaim := { program := "ytbhbdpbhhfemhaa", sum := "bdd7df01443fed49b4fce42fa60272697f07b1b307202dac34c1836e7106e428", func := "mailbag/mailbaglaw17.WatchParts", spec := "watchParts", inPlace := ["internal/bytealg.abigen_runtime_cmpstring", "slices.overlaps[mailbag/tree.item[mailbag/chain.Chain]]", "slices.overlaps[[]mailbag/tree.item[mailbag/chain.Chain]]"], unfollowed := true, recurses := true, apart := false }
def WatchPartsSaid : Prop := watchPartsRow.holds Try.pinned (OpenSpec.ofChange watchPartsSpec)

/-- ITS FALSE NEIGHBOUR: 'it returns false'. Refute it at one input. -/
def watchPartsWrong : ChangeSpec := { name := "watchParts", fn := fun _ => fun
  | [d] => { results := [.lit (.bool false)], args := [d] }
  | _ => none }
def WatchPartsWrongFalsely : Prop := watchPartsRow.holds Try.pinned (OpenSpec.ofChange watchPartsWrong)

/-- 'mailbaglaw09.StoreFrees': WHATEVER THE INPUT: true; the input reads as it did. -/
def storeFreesSpec : ChangeSpec := { name := "storeFrees", fn := fun _ => fun
  | [d1, d2, d3] => { results := [.lit (.bool true)], args := [d1, d2, d3] }
  | _ => none }
def storeFreesRow : OpenClaim := { program := "ytbhbdpbhhfemhaa", sum := "bdd7df01443fed49b4fce42fa60272697f07b1b307202dac34c1836e7106e428", func := "mailbag/mailbaglaw09.StoreFrees", spec := "storeFrees", inPlace := ["internal/bytealg.abigen_runtime_cmpstring", "slices.overlaps[mailbag/tree.item[mailbag/chain.Chain]]", "slices.overlaps[[]mailbag/tree.item[mailbag/chain.Chain]]"], unfollowed := true, recurses := true, apart := false }
def StoreFreesSaid : Prop := storeFreesRow.holds Try.pinned (OpenSpec.ofChange storeFreesSpec)

/-- ITS FALSE NEIGHBOUR: 'it returns false'. Refute it at one input. -/
def storeFreesWrong : ChangeSpec := { name := "storeFrees", fn := fun _ => fun
  | [d1, d2, d3] => { results := [.lit (.bool false)], args := [d1, d2, d3] }
  | _ => none }
def StoreFreesWrongFalsely : Prop := storeFreesRow.holds Try.pinned (OpenSpec.ofChange storeFreesWrong)

/-- 'mailbaglaw09.StoreVacuums': WHATEVER THE INPUT: true; the input reads as it did. -/
def storeVacuumsSpec : ChangeSpec := { name := "storeVacuums", fn := fun _ => fun
  | [d1, d2, d3] => { results := [.lit (.bool true)], args := [d1, d2, d3] }
  | _ => none }
def storeVacuumsRow : OpenClaim := { program := "ytbhbdpbhhfemhaa", sum := "bdd7df01443fed49b4fce42fa60272697f07b1b307202dac34c1836e7106e428", func := "mailbag/mailbaglaw09.StoreVacuums", spec := "storeVacuums", inPlace := ["internal/bytealg.abigen_runtime_cmpstring", "slices.overlaps[mailbag/tree.item[mailbag/chain.Chain]]", "slices.overlaps[[]mailbag/tree.item[mailbag/chain.Chain]]"], unfollowed := true, recurses := true, apart := false }
def StoreVacuumsSaid : Prop := storeVacuumsRow.holds Try.pinned (OpenSpec.ofChange storeVacuumsSpec)

/-- ITS FALSE NEIGHBOUR: 'it returns false'. Refute it at one input. -/
def storeVacuumsWrong : ChangeSpec := { name := "storeVacuums", fn := fun _ => fun
  | [d1, d2, d3] => { results := [.lit (.bool false)], args := [d1, d2, d3] }
  | _ => none }
def StoreVacuumsWrongFalsely : Prop := storeVacuumsRow.holds Try.pinned (OpenSpec.ofChange storeVacuumsWrong)

/- THE SECOND FORM. 'bulk': how many values and letters a reading holds, each counted each time it is reached (what is shared counts as often as it is met; a slice's spare places count too). A statement '..UptoSaid' is the law's where the arguments, and the package variables that the reading takes, are together of bulk at most 1048576: NARROWER than '..Said'. Prove '..Said' where nothing that the law and all that it calls make is longer than what came in: it says more and counts as full. Else prove '..UptoSaid'. A law counts once. -/
mutual
def uptoBulk {H : Type} : DataW H → Nat
  | .lit (.string bytes) => bytes.length + 1
  | .lit _ => 1
  | .nil => 1
  | .ptr d => uptoBulk d + 1
  | .slice elems spare => uptoBulkAll elems + uptoBulkAll spare + 1
  | .agg parts => uptoBulkAll parts + 1
  | .iface _ d => uptoBulk d + 1
  | .map entries => uptoBulkEntries entries + 1
  | .held _ => 1
def uptoBulkAll {H : Type} : List (DataW H) → Nat
  | [] => 0
  | d :: r => uptoBulk d + uptoBulkAll r
def uptoBulkEntries {H : Type} : List (Lit × DataW H) → Nat
  | [] => 0
  | x :: r => uptoBulkEntry x + uptoBulkEntries r
def uptoBulkEntry {H : Type} : Lit × DataW H → Nat
  | (.string bytes, d) => bytes.length + uptoBulk d + 1
  | (_, d) => uptoBulk d + 1
 end
def uptoSmall : (H : Type) → List (DataW H) → Bool := fun _ ds => decide (uptoBulkAll ds ≤ 1048576)
def OpenSpec.upto (s : _root_.Go.ChangeSpec) : _root_.Go.OpenSpec := { _root_.Go.OpenSpec.ofChange s with cond := some uptoSmall }

/-- 'mailbaglaw09.StoreSorts', WHERE WHAT IT READS IS OF BULK AT MOST 1048576: true; the input reads as it did. -/
def storeSortsUptoRow : OpenClaim := { program := "ytbhbdpbhhfemhaa", sum := "bdd7df01443fed49b4fce42fa60272697f07b1b307202dac34c1836e7106e428", func := "mailbag/mailbaglaw09.StoreSorts", spec := "storeSorts", inPlace := ["internal/bytealg.abigen_runtime_cmpstring", "slices.overlaps[mailbag/tree.item[mailbag/chain.Chain]]", "slices.overlaps[[]mailbag/tree.item[mailbag/chain.Chain]]"], unfollowed := true, recurses := true, apart := false, narrowed := true }
def StoreSortsUptoSaid : Prop := storeSortsUptoRow.holds Try.pinned (OpenSpec.upto storeSortsSpec)

/-- 'mailbaglaw09.StoreCommits', WHERE WHAT IT READS IS OF BULK AT MOST 1048576: true; the input reads as it did. -/
def storeCommitsUptoRow : OpenClaim := { program := "ytbhbdpbhhfemhaa", sum := "bdd7df01443fed49b4fce42fa60272697f07b1b307202dac34c1836e7106e428", func := "mailbag/mailbaglaw09.StoreCommits", spec := "storeCommits", inPlace := ["internal/bytealg.abigen_runtime_cmpstring", "slices.overlaps[mailbag/tree.item[mailbag/chain.Chain]]", "slices.overlaps[[]mailbag/tree.item[mailbag/chain.Chain]]"], unfollowed := true, recurses := true, apart := false, narrowed := true }
def StoreCommitsUptoSaid : Prop := storeCommitsUptoRow.holds Try.pinned (OpenSpec.upto storeCommitsSpec)

/-- 'mailbaglaw09.StoreKeys', WHERE WHAT IT READS IS OF BULK AT MOST 1048576: true; the input reads as it did. -/
def storeKeysUptoRow : OpenClaim := { program := "ytbhbdpbhhfemhaa", sum := "bdd7df01443fed49b4fce42fa60272697f07b1b307202dac34c1836e7106e428", func := "mailbag/mailbaglaw09.StoreKeys", spec := "storeKeys", inPlace := ["internal/bytealg.abigen_runtime_cmpstring", "slices.overlaps[mailbag/tree.item[mailbag/chain.Chain]]", "slices.overlaps[[]mailbag/tree.item[mailbag/chain.Chain]]"], unfollowed := true, recurses := true, apart := false, narrowed := true }
def StoreKeysUptoSaid : Prop := storeKeysUptoRow.holds Try.pinned (OpenSpec.upto storeKeysSpec)

/-- 'mailbaglaw09.StoreSees', WHERE WHAT IT READS IS OF BULK AT MOST 1048576: true; the input reads as it did. -/
def storeSeesUptoRow : OpenClaim := { program := "ytbhbdpbhhfemhaa", sum := "bdd7df01443fed49b4fce42fa60272697f07b1b307202dac34c1836e7106e428", func := "mailbag/mailbaglaw09.StoreSees", spec := "storeSees", inPlace := ["internal/bytealg.abigen_runtime_cmpstring", "slices.overlaps[mailbag/tree.item[mailbag/chain.Chain]]", "slices.overlaps[[]mailbag/tree.item[mailbag/chain.Chain]]"], unfollowed := true, recurses := true, apart := false, narrowed := true }
def StoreSeesUptoSaid : Prop := storeSeesUptoRow.holds Try.pinned (OpenSpec.upto storeSeesSpec)

/-- 'mailbaglaw09.StoreAgain', WHERE WHAT IT READS IS OF BULK AT MOST 1048576: true; the input reads as it did. -/
def storeAgainUptoRow : OpenClaim := { program := "ytbhbdpbhhfemhaa", sum := "bdd7df01443fed49b4fce42fa60272697f07b1b307202dac34c1836e7106e428", func := "mailbag/mailbaglaw09.StoreAgain", spec := "storeAgain", inPlace := ["internal/bytealg.abigen_runtime_cmpstring", "slices.overlaps[mailbag/tree.item[mailbag/chain.Chain]]", "slices.overlaps[[]mailbag/tree.item[mailbag/chain.Chain]]"], unfollowed := true, recurses := true, apart := false, narrowed := true }
def StoreAgainUptoSaid : Prop := storeAgainUptoRow.holds Try.pinned (OpenSpec.upto storeAgainSpec)

/-- 'mailbaglaw17.WatchPolls', WHERE WHAT IT READS IS OF BULK AT MOST 1048576: true; the input reads as it did. -/
def watchPollsUptoRow : OpenClaim := { program := "ytbhbdpbhhfemhaa", sum := "bdd7df01443fed49b4fce42fa60272697f07b1b307202dac34c1836e7106e428", func := "mailbag/mailbaglaw17.WatchPolls", spec := "watchPolls", inPlace := ["internal/bytealg.abigen_runtime_cmpstring", "slices.overlaps[mailbag/tree.item[mailbag/chain.Chain]]", "slices.overlaps[[]mailbag/tree.item[mailbag/chain.Chain]]"], unfollowed := true, recurses := true, apart := false, narrowed := true }
def WatchPollsUptoSaid : Prop := watchPollsUptoRow.holds Try.pinned (OpenSpec.upto watchPollsSpec)

/-- 'mailbaglaw17.WatchAll', WHERE WHAT IT READS IS OF BULK AT MOST 1048576: true; the input reads as it did. -/
def watchAllUptoRow : OpenClaim := { program := "ytbhbdpbhhfemhaa", sum := "bdd7df01443fed49b4fce42fa60272697f07b1b307202dac34c1836e7106e428", func := "mailbag/mailbaglaw17.WatchAll", spec := "watchAll", inPlace := ["internal/bytealg.abigen_runtime_cmpstring", "slices.overlaps[mailbag/tree.item[mailbag/chain.Chain]]", "slices.overlaps[[]mailbag/tree.item[mailbag/chain.Chain]]"], unfollowed := true, recurses := true, apart := false, narrowed := true }
def WatchAllUptoSaid : Prop := watchAllUptoRow.holds Try.pinned (OpenSpec.upto watchAllSpec)

/-- 'mailbaglaw17.WatchSteps', WHERE WHAT IT READS IS OF BULK AT MOST 1048576: true; the input reads as it did. -/
def watchStepsUptoRow : OpenClaim := { program := "ytbhbdpbhhfemhaa", sum := "bdd7df01443fed49b4fce42fa60272697f07b1b307202dac34c1836e7106e428", func := "mailbag/mailbaglaw17.WatchSteps", spec := "watchSteps", inPlace := ["internal/bytealg.abigen_runtime_cmpstring", "slices.overlaps[mailbag/tree.item[mailbag/chain.Chain]]", "slices.overlaps[[]mailbag/tree.item[mailbag/chain.Chain]]"], unfollowed := true, recurses := true, apart := false, narrowed := true }
def WatchStepsUptoSaid : Prop := watchStepsUptoRow.holds Try.pinned (OpenSpec.upto watchStepsSpec)

/-- 'mailbaglaw17.WatchParts', WHERE WHAT IT READS IS OF BULK AT MOST 1048576: true; the input reads as it did. -/
def watchPartsUptoRow : OpenClaim := { program := "ytbhbdpbhhfemhaa", sum := "bdd7df01443fed49b4fce42fa60272697f07b1b307202dac34c1836e7106e428", func := "mailbag/mailbaglaw17.WatchParts", spec := "watchParts", inPlace := ["internal/bytealg.abigen_runtime_cmpstring", "slices.overlaps[mailbag/tree.item[mailbag/chain.Chain]]", "slices.overlaps[[]mailbag/tree.item[mailbag/chain.Chain]]"], unfollowed := true, recurses := true, apart := false, narrowed := true }
def WatchPartsUptoSaid : Prop := watchPartsUptoRow.holds Try.pinned (OpenSpec.upto watchPartsSpec)

/-- 'mailbaglaw09.StoreFrees', WHERE WHAT IT READS IS OF BULK AT MOST 1048576: true; the input reads as it did. -/
def storeFreesUptoRow : OpenClaim := { program := "ytbhbdpbhhfemhaa", sum := "bdd7df01443fed49b4fce42fa60272697f07b1b307202dac34c1836e7106e428", func := "mailbag/mailbaglaw09.StoreFrees", spec := "storeFrees", inPlace := ["internal/bytealg.abigen_runtime_cmpstring", "slices.overlaps[mailbag/tree.item[mailbag/chain.Chain]]", "slices.overlaps[[]mailbag/tree.item[mailbag/chain.Chain]]"], unfollowed := true, recurses := true, apart := false, narrowed := true }
def StoreFreesUptoSaid : Prop := storeFreesUptoRow.holds Try.pinned (OpenSpec.upto storeFreesSpec)

/-- 'mailbaglaw09.StoreVacuums', WHERE WHAT IT READS IS OF BULK AT MOST 1048576: true; the input reads as it did. -/
def storeVacuumsUptoRow : OpenClaim := { program := "ytbhbdpbhhfemhaa", sum := "bdd7df01443fed49b4fce42fa60272697f07b1b307202dac34c1836e7106e428", func := "mailbag/mailbaglaw09.StoreVacuums", spec := "storeVacuums", inPlace := ["internal/bytealg.abigen_runtime_cmpstring", "slices.overlaps[mailbag/tree.item[mailbag/chain.Chain]]", "slices.overlaps[[]mailbag/tree.item[mailbag/chain.Chain]]"], unfollowed := true, recurses := true, apart := false, narrowed := true }
def StoreVacuumsUptoSaid : Prop := storeVacuumsUptoRow.holds Try.pinned (OpenSpec.upto storeVacuumsSpec)

end Rows
end Go.Proofs.Ytbhbdpbhhfemhaa
