/-
  No cell of these rows narrows 'for every input' (looked for: loops, veiled, ifaces, maps, wideKeys, modest, calm, conditions, laid).
  DERIVED. THE GIVEN ROWS OF THIS SEAT. 11 by the template 'for every input the law returns true; each argument reads behind the call as it read before'; 0 by the template 'total and deterministic' (their statements: YtmcajldlcomegaaTotals.lean).
  GIVEN WITH THE SEED: the statements are not yours to turn. If you find one false, say at which input.
  Laid BY PROGRAM, IN A SANDBOX (cutbox-rows.mjs): the forced cells as the released guide's own fill.sh prints them over the translation 923c1c582921fcda… (all of the seat's roots in one cut). By AI agents, Wed Nov 11 2026. No macro, syntax, notation, axiom, sorry.
-/
import Derived.Test.YtmcajldlcomegaaChecked
import GoSem.Claim
import GoSem.ClaimJoined
import GoSem.ClaimMapViews
import Derived.JoinedTies
import Derived.KernelRfl
namespace Go.Proofs.Ytmcajldlcomegaa
/- THE CELL 'sum', in the pinned program and in every row, IS THE sha256 OF THE DUMP (.gsa) THAT YtmcajldlcomegaaProg.lean LOADS. Nothing in Lean hashes anything: it is a label: what it is worth is what the hold of that sum in a sandbox is worth. -/
noncomputable def Try.pinned : Pinned := { name := "ytmcajldlcomegaa", sum := "923c1c582921fcda4cd8f0c222624d0b735357a89a4d8fb867399fa72ee07e3c", checked := Try.checked }
namespace Rows
def none {H : Type} : Left H := { results := [], args := [] }

/-- 'coldpluglaw29.WorkerOrder': WHATEVER THE INPUT: true; the input reads as it did. -/
def workerOrderSpec : ChangeSpec := { name := "workerOrder", fn := fun _ => fun
  | [d] => { results := [.lit (.bool true)], args := [d] }
  | _ => none }
def workerOrderRow : OpenClaim := { program := "ytmcajldlcomegaa", sum := "923c1c582921fcda4cd8f0c222624d0b735357a89a4d8fb867399fa72ee07e3c", func := "coldplug/coldpluglaw29.WorkerOrder", spec := "workerOrder", unfollowed := true, recurses := true, apart := false }
def WorkerOrderSaid : Prop := workerOrderRow.holds Try.pinned (OpenSpec.ofChange workerOrderSpec)

/-- ITS FALSE NEIGHBOUR: 'it returns false'. Refute it at one input. -/
def workerOrderWrong : ChangeSpec := { name := "workerOrder", fn := fun _ => fun
  | [d] => { results := [.lit (.bool false)], args := [d] }
  | _ => none }
def WorkerOrderWrongFalsely : Prop := workerOrderRow.holds Try.pinned (OpenSpec.ofChange workerOrderWrong)

/-- 'coldpluglaw29.WorkerNews': WHATEVER THE INPUT: true; the input reads as it did. -/
def workerNewsSpec : ChangeSpec := { name := "workerNews", fn := fun _ => fun
  | [d] => { results := [.lit (.bool true)], args := [d] }
  | _ => none }
def workerNewsRow : OpenClaim := { program := "ytmcajldlcomegaa", sum := "923c1c582921fcda4cd8f0c222624d0b735357a89a4d8fb867399fa72ee07e3c", func := "coldplug/coldpluglaw29.WorkerNews", spec := "workerNews", unfollowed := true, recurses := true, apart := false }
def WorkerNewsSaid : Prop := workerNewsRow.holds Try.pinned (OpenSpec.ofChange workerNewsSpec)

/-- ITS FALSE NEIGHBOUR: 'it returns false'. Refute it at one input. -/
def workerNewsWrong : ChangeSpec := { name := "workerNews", fn := fun _ => fun
  | [d] => { results := [.lit (.bool false)], args := [d] }
  | _ => none }
def WorkerNewsWrongFalsely : Prop := workerNewsRow.holds Try.pinned (OpenSpec.ofChange workerNewsWrong)

/-- 'coldpluglaw29.WorkerPlays': WHATEVER THE INPUT: true; the input reads as it did. -/
def workerPlaysSpec : ChangeSpec := { name := "workerPlays", fn := fun _ => fun
  | [d1, d2] => { results := [.lit (.bool true)], args := [d1, d2] }
  | _ => none }
def workerPlaysRow : OpenClaim := { program := "ytmcajldlcomegaa", sum := "923c1c582921fcda4cd8f0c222624d0b735357a89a4d8fb867399fa72ee07e3c", func := "coldplug/coldpluglaw29.WorkerPlays", spec := "workerPlays", unfollowed := true, recurses := true, apart := false }
def WorkerPlaysSaid : Prop := workerPlaysRow.holds Try.pinned (OpenSpec.ofChange workerPlaysSpec)

/-- ITS FALSE NEIGHBOUR: 'it returns false'. Refute it at one input. -/
def workerPlaysWrong : ChangeSpec := { name := "workerPlays", fn := fun _ => fun
  | [d1, d2] => { results := [.lit (.bool false)], args := [d1, d2] }
  | _ => none }
def WorkerPlaysWrongFalsely : Prop := workerPlaysRow.holds Try.pinned (OpenSpec.ofChange workerPlaysWrong)

/-- 'coldpluglaw29.WorkerAlone': WHATEVER THE INPUT: true; the input reads as it did. -/
def workerAloneSpec : ChangeSpec := { name := "workerAlone", fn := fun _ => fun
  | [d1, d2] => { results := [.lit (.bool true)], args := [d1, d2] }
  | _ => none }
def workerAloneRow : OpenClaim := { program := "ytmcajldlcomegaa", sum := "923c1c582921fcda4cd8f0c222624d0b735357a89a4d8fb867399fa72ee07e3c", func := "coldplug/coldpluglaw29.WorkerAlone", spec := "workerAlone", unfollowed := true, recurses := true, apart := false }
def WorkerAloneSaid : Prop := workerAloneRow.holds Try.pinned (OpenSpec.ofChange workerAloneSpec)

/-- ITS FALSE NEIGHBOUR: 'it returns false'. Refute it at one input. -/
def workerAloneWrong : ChangeSpec := { name := "workerAlone", fn := fun _ => fun
  | [d1, d2] => { results := [.lit (.bool false)], args := [d1, d2] }
  | _ => none }
def WorkerAloneWrongFalsely : Prop := workerAloneRow.holds Try.pinned (OpenSpec.ofChange workerAloneWrong)

/-- 'coldpluglaw29.WorkerKeeps': WHATEVER THE INPUT: true; the input reads as it did. -/
def workerKeepsSpec : ChangeSpec := { name := "workerKeeps", fn := fun _ => fun
  | [d] => { results := [.lit (.bool true)], args := [d] }
  | _ => none }
def workerKeepsRow : OpenClaim := { program := "ytmcajldlcomegaa", sum := "923c1c582921fcda4cd8f0c222624d0b735357a89a4d8fb867399fa72ee07e3c", func := "coldplug/coldpluglaw29.WorkerKeeps", spec := "workerKeeps", unfollowed := true, recurses := true, apart := false }
def WorkerKeepsSaid : Prop := workerKeepsRow.holds Try.pinned (OpenSpec.ofChange workerKeepsSpec)

/-- ITS FALSE NEIGHBOUR: 'it returns false'. Refute it at one input. -/
def workerKeepsWrong : ChangeSpec := { name := "workerKeeps", fn := fun _ => fun
  | [d] => { results := [.lit (.bool false)], args := [d] }
  | _ => none }
def WorkerKeepsWrongFalsely : Prop := workerKeepsRow.holds Try.pinned (OpenSpec.ofChange workerKeepsWrong)

/-- 'coldpluglaw29.WorkerTicks': WHATEVER THE INPUT: true; the input reads as it did. -/
def workerTicksSpec : ChangeSpec := { name := "workerTicks", fn := fun _ => fun
  | [d1, d2, d3] => { results := [.lit (.bool true)], args := [d1, d2, d3] }
  | _ => none }
def workerTicksRow : OpenClaim := { program := "ytmcajldlcomegaa", sum := "923c1c582921fcda4cd8f0c222624d0b735357a89a4d8fb867399fa72ee07e3c", func := "coldplug/coldpluglaw29.WorkerTicks", spec := "workerTicks", unfollowed := true, recurses := true, apart := false }
def WorkerTicksSaid : Prop := workerTicksRow.holds Try.pinned (OpenSpec.ofChange workerTicksSpec)

/-- ITS FALSE NEIGHBOUR: 'it returns false'. Refute it at one input. -/
def workerTicksWrong : ChangeSpec := { name := "workerTicks", fn := fun _ => fun
  | [d1, d2, d3] => { results := [.lit (.bool false)], args := [d1, d2, d3] }
  | _ => none }
def WorkerTicksWrongFalsely : Prop := workerTicksRow.holds Try.pinned (OpenSpec.ofChange workerTicksWrong)

/-- 'coldpluglaw29.WorkerCopies': WHATEVER THE INPUT: true; the input reads as it did. -/
def workerCopiesSpec : ChangeSpec := { name := "workerCopies", fn := fun _ => fun
  | [d] => { results := [.lit (.bool true)], args := [d] }
  | _ => none }
def workerCopiesRow : OpenClaim := { program := "ytmcajldlcomegaa", sum := "923c1c582921fcda4cd8f0c222624d0b735357a89a4d8fb867399fa72ee07e3c", func := "coldplug/coldpluglaw29.WorkerCopies", spec := "workerCopies", unfollowed := true, recurses := true, apart := false }
def WorkerCopiesSaid : Prop := workerCopiesRow.holds Try.pinned (OpenSpec.ofChange workerCopiesSpec)

/-- ITS FALSE NEIGHBOUR: 'it returns false'. Refute it at one input. -/
def workerCopiesWrong : ChangeSpec := { name := "workerCopies", fn := fun _ => fun
  | [d] => { results := [.lit (.bool false)], args := [d] }
  | _ => none }
def WorkerCopiesWrongFalsely : Prop := workerCopiesRow.holds Try.pinned (OpenSpec.ofChange workerCopiesWrong)

/-- 'coldpluglaw29.WorkerCompares': WHATEVER THE INPUT: true; the input reads as it did. -/
def workerComparesSpec : ChangeSpec := { name := "workerCompares", fn := fun _ => fun
  | [d1, d2, d3, d4] => { results := [.lit (.bool true)], args := [d1, d2, d3, d4] }
  | _ => none }
def workerComparesRow : OpenClaim := { program := "ytmcajldlcomegaa", sum := "923c1c582921fcda4cd8f0c222624d0b735357a89a4d8fb867399fa72ee07e3c", func := "coldplug/coldpluglaw29.WorkerCompares", spec := "workerCompares", unfollowed := true, recurses := true, apart := false }
def WorkerComparesSaid : Prop := workerComparesRow.holds Try.pinned (OpenSpec.ofChange workerComparesSpec)

/-- ITS FALSE NEIGHBOUR: 'it returns false'. Refute it at one input. -/
def workerComparesWrong : ChangeSpec := { name := "workerCompares", fn := fun _ => fun
  | [d1, d2, d3, d4] => { results := [.lit (.bool false)], args := [d1, d2, d3, d4] }
  | _ => none }
def WorkerComparesWrongFalsely : Prop := workerComparesRow.holds Try.pinned (OpenSpec.ofChange workerComparesWrong)

/-- 'coldpluglaw29.WorkerEffects': WHATEVER THE INPUT: true; the input reads as it did. -/
def workerEffectsSpec : ChangeSpec := { name := "workerEffects", fn := fun _ => fun
  | [d] => { results := [.lit (.bool true)], args := [d] }
  | _ => none }
def workerEffectsRow : OpenClaim := { program := "ytmcajldlcomegaa", sum := "923c1c582921fcda4cd8f0c222624d0b735357a89a4d8fb867399fa72ee07e3c", func := "coldplug/coldpluglaw29.WorkerEffects", spec := "workerEffects", unfollowed := true, recurses := true, apart := false }
def WorkerEffectsSaid : Prop := workerEffectsRow.holds Try.pinned (OpenSpec.ofChange workerEffectsSpec)

/-- ITS FALSE NEIGHBOUR: 'it returns false'. Refute it at one input. -/
def workerEffectsWrong : ChangeSpec := { name := "workerEffects", fn := fun _ => fun
  | [d] => { results := [.lit (.bool false)], args := [d] }
  | _ => none }
def WorkerEffectsWrongFalsely : Prop := workerEffectsRow.holds Try.pinned (OpenSpec.ofChange workerEffectsWrong)

/-- 'coldpluglaw41.RescanCompares': WHATEVER THE INPUT: true; the input reads as it did. -/
def rescanComparesSpec : ChangeSpec := { name := "rescanCompares", fn := fun _ => fun
  | [d1, d2] => { results := [.lit (.bool true)], args := [d1, d2] }
  | _ => none }
def rescanComparesRow : OpenClaim := { program := "ytmcajldlcomegaa", sum := "923c1c582921fcda4cd8f0c222624d0b735357a89a4d8fb867399fa72ee07e3c", func := "coldplug/coldpluglaw41.RescanCompares", spec := "rescanCompares", unfollowed := true, recurses := true, apart := false }
def RescanComparesSaid : Prop := rescanComparesRow.holds Try.pinned (OpenSpec.ofChange rescanComparesSpec)

/-- ITS FALSE NEIGHBOUR: 'it returns false'. Refute it at one input. -/
def rescanComparesWrong : ChangeSpec := { name := "rescanCompares", fn := fun _ => fun
  | [d1, d2] => { results := [.lit (.bool false)], args := [d1, d2] }
  | _ => none }
def RescanComparesWrongFalsely : Prop := rescanComparesRow.holds Try.pinned (OpenSpec.ofChange rescanComparesWrong)

/-- 'coldpluglaw41.RescanTurns': WHATEVER THE INPUT: true; the input reads as it did. -/
def rescanTurnsSpec : ChangeSpec := { name := "rescanTurns", fn := fun _ => fun
  | [d1, d2, d3] => { results := [.lit (.bool true)], args := [d1, d2, d3] }
  | _ => none }
def rescanTurnsRow : OpenClaim := { program := "ytmcajldlcomegaa", sum := "923c1c582921fcda4cd8f0c222624d0b735357a89a4d8fb867399fa72ee07e3c", func := "coldplug/coldpluglaw41.RescanTurns", spec := "rescanTurns", unfollowed := true, recurses := true, apart := false }
def RescanTurnsSaid : Prop := rescanTurnsRow.holds Try.pinned (OpenSpec.ofChange rescanTurnsSpec)

/-- ITS FALSE NEIGHBOUR: 'it returns false'. Refute it at one input. -/
def rescanTurnsWrong : ChangeSpec := { name := "rescanTurns", fn := fun _ => fun
  | [d1, d2, d3] => { results := [.lit (.bool false)], args := [d1, d2, d3] }
  | _ => none }
def RescanTurnsWrongFalsely : Prop := rescanTurnsRow.holds Try.pinned (OpenSpec.ofChange rescanTurnsWrong)

/- THE SECOND FORM. 'bulk': how many values and letters a reading holds, each counted each time it is reached (what is shared counts as often as it is met; a slice's spare places count too). A statement '..UptoSaid' is the law's where the arguments, and the package variables that the reading takes, are together of bulk at most 1048576: NARROWER than '..Said'. Prove '..Said' where nothing that the law and all that it calls make is longer than what came in: it says more and counts as full. Else prove '..UptoSaid'. A law counts once. -/
mutual
def uptoBulk {H : Type} : DataW H → Nat
  | .lit (.string bytes) => bytes.length + 1
  | .lit _ => 1
  | .nil => 1
  | .ptr d => uptoBulk d + 1
  | .slice elems spare => uptoBulkAll elems + uptoBulkAll spare + 1
  | .agg parts => uptoBulkAll parts + 1
  | .iface _ d => uptoBulk d + 1
  | .map entries => uptoBulkEntries entries + 1
  | .held _ => 1
def uptoBulkAll {H : Type} : List (DataW H) → Nat
  | [] => 0
  | d :: r => uptoBulk d + uptoBulkAll r
def uptoBulkEntries {H : Type} : List (Lit × DataW H) → Nat
  | [] => 0
  | x :: r => uptoBulkEntry x + uptoBulkEntries r
def uptoBulkEntry {H : Type} : Lit × DataW H → Nat
  | (.string bytes, d) => bytes.length + uptoBulk d + 1
  | (_, d) => uptoBulk d + 1
 end
def uptoSmall : (H : Type) → List (DataW H) → Bool := fun _ ds => decide (uptoBulkAll ds ≤ 1048576)
def OpenSpec.upto (s : _root_.Go.ChangeSpec) : _root_.Go.OpenSpec := { _root_.Go.OpenSpec.ofChange s with cond := some uptoSmall }

/-- 'coldpluglaw29.WorkerOrder', WHERE WHAT IT READS IS OF BULK AT MOST 1048576: true; the input reads as it did. -/
def workerOrderUptoRow : OpenClaim := { program := "ytmcajldlcomegaa", sum := "923c1c582921fcda4cd8f0c222624d0b735357a89a4d8fb867399fa72ee07e3c", func := "coldplug/coldpluglaw29.WorkerOrder", spec := "workerOrder", unfollowed := true, recurses := true, apart := false, narrowed := true }
def WorkerOrderUptoSaid : Prop := workerOrderUptoRow.holds Try.pinned (OpenSpec.upto workerOrderSpec)

/-- 'coldpluglaw29.WorkerNews', WHERE WHAT IT READS IS OF BULK AT MOST 1048576: true; the input reads as it did. -/
def workerNewsUptoRow : OpenClaim := { program := "ytmcajldlcomegaa", sum := "923c1c582921fcda4cd8f0c222624d0b735357a89a4d8fb867399fa72ee07e3c", func := "coldplug/coldpluglaw29.WorkerNews", spec := "workerNews", unfollowed := true, recurses := true, apart := false, narrowed := true }
def WorkerNewsUptoSaid : Prop := workerNewsUptoRow.holds Try.pinned (OpenSpec.upto workerNewsSpec)

/-- 'coldpluglaw29.WorkerPlays', WHERE WHAT IT READS IS OF BULK AT MOST 1048576: true; the input reads as it did. -/
def workerPlaysUptoRow : OpenClaim := { program := "ytmcajldlcomegaa", sum := "923c1c582921fcda4cd8f0c222624d0b735357a89a4d8fb867399fa72ee07e3c", func := "coldplug/coldpluglaw29.WorkerPlays", spec := "workerPlays", unfollowed := true, recurses := true, apart := false, narrowed := true }
def WorkerPlaysUptoSaid : Prop := workerPlaysUptoRow.holds Try.pinned (OpenSpec.upto workerPlaysSpec)

/-- 'coldpluglaw29.WorkerAlone', WHERE WHAT IT READS IS OF BULK AT MOST 1048576: true; the input reads as it did. -/
def workerAloneUptoRow : OpenClaim := { program := "ytmcajldlcomegaa", sum := "923c1c582921fcda4cd8f0c222624d0b735357a89a4d8fb867399fa72ee07e3c", func := "coldplug/coldpluglaw29.WorkerAlone", spec := "workerAlone", unfollowed := true, recurses := true, apart := false, narrowed := true }
def WorkerAloneUptoSaid : Prop := workerAloneUptoRow.holds Try.pinned (OpenSpec.upto workerAloneSpec)

/-- 'coldpluglaw29.WorkerKeeps', WHERE WHAT IT READS IS OF BULK AT MOST 1048576: true; the input reads as it did. -/
def workerKeepsUptoRow : OpenClaim := { program := "ytmcajldlcomegaa", sum := "923c1c582921fcda4cd8f0c222624d0b735357a89a4d8fb867399fa72ee07e3c", func := "coldplug/coldpluglaw29.WorkerKeeps", spec := "workerKeeps", unfollowed := true, recurses := true, apart := false, narrowed := true }
def WorkerKeepsUptoSaid : Prop := workerKeepsUptoRow.holds Try.pinned (OpenSpec.upto workerKeepsSpec)

/-- 'coldpluglaw29.WorkerTicks', WHERE WHAT IT READS IS OF BULK AT MOST 1048576: true; the input reads as it did. -/
def workerTicksUptoRow : OpenClaim := { program := "ytmcajldlcomegaa", sum := "923c1c582921fcda4cd8f0c222624d0b735357a89a4d8fb867399fa72ee07e3c", func := "coldplug/coldpluglaw29.WorkerTicks", spec := "workerTicks", unfollowed := true, recurses := true, apart := false, narrowed := true }
def WorkerTicksUptoSaid : Prop := workerTicksUptoRow.holds Try.pinned (OpenSpec.upto workerTicksSpec)

/-- 'coldpluglaw29.WorkerCopies', WHERE WHAT IT READS IS OF BULK AT MOST 1048576: true; the input reads as it did. -/
def workerCopiesUptoRow : OpenClaim := { program := "ytmcajldlcomegaa", sum := "923c1c582921fcda4cd8f0c222624d0b735357a89a4d8fb867399fa72ee07e3c", func := "coldplug/coldpluglaw29.WorkerCopies", spec := "workerCopies", unfollowed := true, recurses := true, apart := false, narrowed := true }
def WorkerCopiesUptoSaid : Prop := workerCopiesUptoRow.holds Try.pinned (OpenSpec.upto workerCopiesSpec)

/-- 'coldpluglaw29.WorkerCompares', WHERE WHAT IT READS IS OF BULK AT MOST 1048576: true; the input reads as it did. -/
def workerComparesUptoRow : OpenClaim := { program := "ytmcajldlcomegaa", sum := "923c1c582921fcda4cd8f0c222624d0b735357a89a4d8fb867399fa72ee07e3c", func := "coldplug/coldpluglaw29.WorkerCompares", spec := "workerCompares", unfollowed := true, recurses := true, apart := false, narrowed := true }
def WorkerComparesUptoSaid : Prop := workerComparesUptoRow.holds Try.pinned (OpenSpec.upto workerComparesSpec)

/-- 'coldpluglaw29.WorkerEffects', WHERE WHAT IT READS IS OF BULK AT MOST 1048576: true; the input reads as it did. -/
def workerEffectsUptoRow : OpenClaim := { program := "ytmcajldlcomegaa", sum := "923c1c582921fcda4cd8f0c222624d0b735357a89a4d8fb867399fa72ee07e3c", func := "coldplug/coldpluglaw29.WorkerEffects", spec := "workerEffects", unfollowed := true, recurses := true, apart := false, narrowed := true }
def WorkerEffectsUptoSaid : Prop := workerEffectsUptoRow.holds Try.pinned (OpenSpec.upto workerEffectsSpec)

/-- 'coldpluglaw41.RescanCompares', WHERE WHAT IT READS IS OF BULK AT MOST 1048576: true; the input reads as it did. -/
def rescanComparesUptoRow : OpenClaim := { program := "ytmcajldlcomegaa", sum := "923c1c582921fcda4cd8f0c222624d0b735357a89a4d8fb867399fa72ee07e3c", func := "coldplug/coldpluglaw41.RescanCompares", spec := "rescanCompares", unfollowed := true, recurses := true, apart := false, narrowed := true }
def RescanComparesUptoSaid : Prop := rescanComparesUptoRow.holds Try.pinned (OpenSpec.upto rescanComparesSpec)

/-- 'coldpluglaw41.RescanTurns', WHERE WHAT IT READS IS OF BULK AT MOST 1048576: true; the input reads as it did. -/
def rescanTurnsUptoRow : OpenClaim := { program := "ytmcajldlcomegaa", sum := "923c1c582921fcda4cd8f0c222624d0b735357a89a4d8fb867399fa72ee07e3c", func := "coldplug/coldpluglaw41.RescanTurns", spec := "rescanTurns", unfollowed := true, recurses := true, apart := false, narrowed := true }
def RescanTurnsUptoSaid : Prop := rescanTurnsUptoRow.holds Try.pinned (OpenSpec.upto rescanTurnsSpec)

end Rows
end Go.Proofs.Ytmcajldlcomegaa
