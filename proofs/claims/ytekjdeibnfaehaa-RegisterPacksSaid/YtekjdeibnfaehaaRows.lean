/-
  No cell of these rows narrows 'for every input' (looked for: loops, veiled, ifaces, maps, wideKeys, modest, calm, conditions, laid).
  DERIVED. THE GIVEN ROWS OF THIS SEAT. 7 by the template 'for every input the law returns true; each argument reads behind the call as it read before'; 0 by the template 'total and deterministic' (their statements: YtekjdeibnfaehaaTotals.lean).
  GIVEN WITH THE SEED: the statements are not yours to turn. If you find one false, say at which input.
  Laid BY PROGRAM, IN A SANDBOX (cutbox-rows.mjs): the forced cells as the released guide's own fill.sh prints them over the translation a68edbe823c13a3d… (all of the seat's roots in one cut). By AI agents, Wed Nov 11 2026. No macro, syntax, notation, axiom, sorry.
-/
import Derived.Test.YtekjdeibnfaehaaChecked
import GoSem.Claim
import GoSem.ClaimJoined
import GoSem.ClaimMapViews
import Derived.JoinedTies
import Derived.KernelRfl
namespace Go.Proofs.Ytekjdeibnfaehaa
/- THE CELL 'sum', in the pinned program and in every row, IS THE sha256 OF THE DUMP (.gsa) THAT YtekjdeibnfaehaaProg.lean LOADS. Nothing in Lean hashes anything: it is a label: what it is worth is what the hold of that sum in a sandbox is worth. -/
noncomputable def Try.pinned : Pinned := { name := "ytekjdeibnfaehaa", sum := "a68edbe823c13a3db61661ee9ebcdc8d4e4742feec4793fcaecad317ba10fe3a", checked := Try.checked }
namespace Rows
def none {H : Type} : Left H := { results := [], args := [] }

/-- 'moorsomlaw07.RegisterRecords': WHATEVER THE INPUT: true; the input reads as it did. -/
def registerRecordsSpec : ChangeSpec := { name := "registerRecords", fn := fun _ => fun
  | [d1, d2] => { results := [.lit (.bool true)], args := [d1, d2] }
  | _ => none }
def registerRecordsRow : OpenClaim := { program := "ytekjdeibnfaehaa", sum := "a68edbe823c13a3db61661ee9ebcdc8d4e4742feec4793fcaecad317ba10fe3a", func := "moorsom/moorsomlaw07.RegisterRecords", spec := "registerRecords", inPlace := ["slices.overlaps[moorsom/api.Record]"], unfollowed := true, recurses := true, plainKeys := false, apart := false }
def RegisterRecordsSaid : Prop := registerRecordsRow.holds Try.pinned (OpenSpec.ofChange registerRecordsSpec)

/-- ITS FALSE NEIGHBOUR: 'it returns false'. Refute it at one input. -/
def registerRecordsWrong : ChangeSpec := { name := "registerRecords", fn := fun _ => fun
  | [d1, d2] => { results := [.lit (.bool false)], args := [d1, d2] }
  | _ => none }
def RegisterRecordsWrongFalsely : Prop := registerRecordsRow.holds Try.pinned (OpenSpec.ofChange registerRecordsWrong)

/-- 'moorsomlaw07.RegisterJoins': WHATEVER THE INPUT: true; the input reads as it did. -/
def registerJoinsSpec : ChangeSpec := { name := "registerJoins", fn := fun _ => fun
  | [d1, d2] => { results := [.lit (.bool true)], args := [d1, d2] }
  | _ => none }
def registerJoinsRow : OpenClaim := { program := "ytekjdeibnfaehaa", sum := "a68edbe823c13a3db61661ee9ebcdc8d4e4742feec4793fcaecad317ba10fe3a", func := "moorsom/moorsomlaw07.RegisterJoins", spec := "registerJoins", inPlace := ["slices.overlaps[moorsom/api.Record]"], unfollowed := true, recurses := true, plainKeys := false, apart := false }
def RegisterJoinsSaid : Prop := registerJoinsRow.holds Try.pinned (OpenSpec.ofChange registerJoinsSpec)

/-- ITS FALSE NEIGHBOUR: 'it returns false'. Refute it at one input. -/
def registerJoinsWrong : ChangeSpec := { name := "registerJoins", fn := fun _ => fun
  | [d1, d2] => { results := [.lit (.bool false)], args := [d1, d2] }
  | _ => none }
def RegisterJoinsWrongFalsely : Prop := registerJoinsRow.holds Try.pinned (OpenSpec.ofChange registerJoinsWrong)

/-- 'moorsomlaw07.RegisterAdds': WHATEVER THE INPUT: true; the input reads as it did. -/
def registerAddsSpec : ChangeSpec := { name := "registerAdds", fn := fun _ => fun
  | [d1, d2, d3] => { results := [.lit (.bool true)], args := [d1, d2, d3] }
  | _ => none }
def registerAddsRow : OpenClaim := { program := "ytekjdeibnfaehaa", sum := "a68edbe823c13a3db61661ee9ebcdc8d4e4742feec4793fcaecad317ba10fe3a", func := "moorsom/moorsomlaw07.RegisterAdds", spec := "registerAdds", inPlace := ["slices.overlaps[moorsom/api.Record]"], unfollowed := true, recurses := true, plainKeys := false, apart := false }
def RegisterAddsSaid : Prop := registerAddsRow.holds Try.pinned (OpenSpec.ofChange registerAddsSpec)

/-- ITS FALSE NEIGHBOUR: 'it returns false'. Refute it at one input. -/
def registerAddsWrong : ChangeSpec := { name := "registerAdds", fn := fun _ => fun
  | [d1, d2, d3] => { results := [.lit (.bool false)], args := [d1, d2, d3] }
  | _ => none }
def RegisterAddsWrongFalsely : Prop := registerAddsRow.holds Try.pinned (OpenSpec.ofChange registerAddsWrong)

/-- 'moorsomlaw07.RegisterWithdrawn': WHATEVER THE INPUT: true; the input reads as it did. -/
def registerWithdrawnSpec : ChangeSpec := { name := "registerWithdrawn", fn := fun _ => fun
  | [d1, d2, d3] => { results := [.lit (.bool true)], args := [d1, d2, d3] }
  | _ => none }
def registerWithdrawnRow : OpenClaim := { program := "ytekjdeibnfaehaa", sum := "a68edbe823c13a3db61661ee9ebcdc8d4e4742feec4793fcaecad317ba10fe3a", func := "moorsom/moorsomlaw07.RegisterWithdrawn", spec := "registerWithdrawn", inPlace := ["slices.overlaps[moorsom/api.Record]"], unfollowed := true, recurses := true, plainKeys := false, apart := false }
def RegisterWithdrawnSaid : Prop := registerWithdrawnRow.holds Try.pinned (OpenSpec.ofChange registerWithdrawnSpec)

/-- ITS FALSE NEIGHBOUR: 'it returns false'. Refute it at one input. -/
def registerWithdrawnWrong : ChangeSpec := { name := "registerWithdrawn", fn := fun _ => fun
  | [d1, d2, d3] => { results := [.lit (.bool false)], args := [d1, d2, d3] }
  | _ => none }
def RegisterWithdrawnWrongFalsely : Prop := registerWithdrawnRow.holds Try.pinned (OpenSpec.ofChange registerWithdrawnWrong)

/-- 'moorsomlaw07.RegisterPower': WHATEVER THE INPUT: true; the input reads as it did. -/
def registerPowerSpec : ChangeSpec := { name := "registerPower", fn := fun _ => fun
  | [d1, d2, d3] => { results := [.lit (.bool true)], args := [d1, d2, d3] }
  | _ => none }
def registerPowerRow : OpenClaim := { program := "ytekjdeibnfaehaa", sum := "a68edbe823c13a3db61661ee9ebcdc8d4e4742feec4793fcaecad317ba10fe3a", func := "moorsom/moorsomlaw07.RegisterPower", spec := "registerPower", inPlace := ["slices.overlaps[moorsom/api.Record]"], unfollowed := true, recurses := true, plainKeys := false, apart := false }
def RegisterPowerSaid : Prop := registerPowerRow.holds Try.pinned (OpenSpec.ofChange registerPowerSpec)

/-- ITS FALSE NEIGHBOUR: 'it returns false'. Refute it at one input. -/
def registerPowerWrong : ChangeSpec := { name := "registerPower", fn := fun _ => fun
  | [d1, d2, d3] => { results := [.lit (.bool false)], args := [d1, d2, d3] }
  | _ => none }
def RegisterPowerWrongFalsely : Prop := registerPowerRow.holds Try.pinned (OpenSpec.ofChange registerPowerWrong)

/-- 'moorsomlaw07.RegisterPacks': WHATEVER THE INPUT: true; the input reads as it did. -/
def registerPacksSpec : ChangeSpec := { name := "registerPacks", fn := fun _ => fun
  | [d1, d2] => { results := [.lit (.bool true)], args := [d1, d2] }
  | _ => none }
def registerPacksRow : OpenClaim := { program := "ytekjdeibnfaehaa", sum := "a68edbe823c13a3db61661ee9ebcdc8d4e4742feec4793fcaecad317ba10fe3a", func := "moorsom/moorsomlaw07.RegisterPacks", spec := "registerPacks", inPlace := ["slices.overlaps[moorsom/api.Record]"], unfollowed := true, recurses := true, plainKeys := false, apart := false }
def RegisterPacksSaid : Prop := registerPacksRow.holds Try.pinned (OpenSpec.ofChange registerPacksSpec)

/-- ITS FALSE NEIGHBOUR: 'it returns false'. Refute it at one input. -/
def registerPacksWrong : ChangeSpec := { name := "registerPacks", fn := fun _ => fun
  | [d1, d2] => { results := [.lit (.bool false)], args := [d1, d2] }
  | _ => none }
def RegisterPacksWrongFalsely : Prop := registerPacksRow.holds Try.pinned (OpenSpec.ofChange registerPacksWrong)

/-- 'moorsomlaw07.RegisterJoined': WHATEVER THE INPUT: true; the input reads as it did. -/
def registerJoinedSpec : ChangeSpec := { name := "registerJoined", fn := fun _ => fun
  | [d1, d2, d3] => { results := [.lit (.bool true)], args := [d1, d2, d3] }
  | _ => none }
def registerJoinedRow : OpenClaim := { program := "ytekjdeibnfaehaa", sum := "a68edbe823c13a3db61661ee9ebcdc8d4e4742feec4793fcaecad317ba10fe3a", func := "moorsom/moorsomlaw07.RegisterJoined", spec := "registerJoined", inPlace := ["slices.overlaps[moorsom/api.Record]"], unfollowed := true, recurses := true, plainKeys := false, apart := false }
def RegisterJoinedSaid : Prop := registerJoinedRow.holds Try.pinned (OpenSpec.ofChange registerJoinedSpec)

/-- ITS FALSE NEIGHBOUR: 'it returns false'. Refute it at one input. -/
def registerJoinedWrong : ChangeSpec := { name := "registerJoined", fn := fun _ => fun
  | [d1, d2, d3] => { results := [.lit (.bool false)], args := [d1, d2, d3] }
  | _ => none }
def RegisterJoinedWrongFalsely : Prop := registerJoinedRow.holds Try.pinned (OpenSpec.ofChange registerJoinedWrong)

/- THE SECOND FORM. 'bulk': how many values and letters a reading holds, each counted each time it is reached (what is shared counts as often as it is met; a slice's spare places count too). A statement '..UptoSaid' is the law's where the arguments, and the package variables that the reading takes, are together of bulk at most 1048576: NARROWER than '..Said'. Prove '..Said' where nothing that the law and all that it calls make is longer than what came in: it says more and counts as full. Else prove '..UptoSaid'. A law counts once. -/
mutual
def uptoBulk {H : Type} : DataW H → Nat
  | .lit (.string bytes) => bytes.length + 1
  | .lit _ => 1
  | .nil => 1
  | .ptr d => uptoBulk d + 1
  | .slice elems spare => uptoBulkAll elems + uptoBulkAll spare + 1
  | .agg parts => uptoBulkAll parts + 1
  | .iface _ d => uptoBulk d + 1
  | .map entries => uptoBulkEntries entries + 1
  | .held _ => 1
def uptoBulkAll {H : Type} : List (DataW H) → Nat
  | [] => 0
  | d :: r => uptoBulk d + uptoBulkAll r
def uptoBulkEntries {H : Type} : List (Lit × DataW H) → Nat
  | [] => 0
  | x :: r => uptoBulkEntry x + uptoBulkEntries r
def uptoBulkEntry {H : Type} : Lit × DataW H → Nat
  | (.string bytes, d) => bytes.length + uptoBulk d + 1
  | (_, d) => uptoBulk d + 1
 end
def uptoSmall : (H : Type) → List (DataW H) → Bool := fun _ ds => decide (uptoBulkAll ds ≤ 1048576)
def OpenSpec.upto (s : _root_.Go.ChangeSpec) : _root_.Go.OpenSpec := { _root_.Go.OpenSpec.ofChange s with cond := some uptoSmall }

/-- 'moorsomlaw07.RegisterRecords', WHERE WHAT IT READS IS OF BULK AT MOST 1048576: true; the input reads as it did. -/
def registerRecordsUptoRow : OpenClaim := { program := "ytekjdeibnfaehaa", sum := "a68edbe823c13a3db61661ee9ebcdc8d4e4742feec4793fcaecad317ba10fe3a", func := "moorsom/moorsomlaw07.RegisterRecords", spec := "registerRecords", inPlace := ["slices.overlaps[moorsom/api.Record]"], unfollowed := true, recurses := true, plainKeys := false, apart := false, narrowed := true }
def RegisterRecordsUptoSaid : Prop := registerRecordsUptoRow.holds Try.pinned (OpenSpec.upto registerRecordsSpec)

/-- 'moorsomlaw07.RegisterJoins', WHERE WHAT IT READS IS OF BULK AT MOST 1048576: true; the input reads as it did. -/
def registerJoinsUptoRow : OpenClaim := { program := "ytekjdeibnfaehaa", sum := "a68edbe823c13a3db61661ee9ebcdc8d4e4742feec4793fcaecad317ba10fe3a", func := "moorsom/moorsomlaw07.RegisterJoins", spec := "registerJoins", inPlace := ["slices.overlaps[moorsom/api.Record]"], unfollowed := true, recurses := true, plainKeys := false, apart := false, narrowed := true }
def RegisterJoinsUptoSaid : Prop := registerJoinsUptoRow.holds Try.pinned (OpenSpec.upto registerJoinsSpec)

/-- 'moorsomlaw07.RegisterAdds', WHERE WHAT IT READS IS OF BULK AT MOST 1048576: true; the input reads as it did. -/
def registerAddsUptoRow : OpenClaim := { program := "ytekjdeibnfaehaa", sum := "a68edbe823c13a3db61661ee9ebcdc8d4e4742feec4793fcaecad317ba10fe3a", func := "moorsom/moorsomlaw07.RegisterAdds", spec := "registerAdds", inPlace := ["slices.overlaps[moorsom/api.Record]"], unfollowed := true, recurses := true, plainKeys := false, apart := false, narrowed := true }
def RegisterAddsUptoSaid : Prop := registerAddsUptoRow.holds Try.pinned (OpenSpec.upto registerAddsSpec)

/-- 'moorsomlaw07.RegisterWithdrawn', WHERE WHAT IT READS IS OF BULK AT MOST 1048576: true; the input reads as it did. -/
def registerWithdrawnUptoRow : OpenClaim := { program := "ytekjdeibnfaehaa", sum := "a68edbe823c13a3db61661ee9ebcdc8d4e4742feec4793fcaecad317ba10fe3a", func := "moorsom/moorsomlaw07.RegisterWithdrawn", spec := "registerWithdrawn", inPlace := ["slices.overlaps[moorsom/api.Record]"], unfollowed := true, recurses := true, plainKeys := false, apart := false, narrowed := true }
def RegisterWithdrawnUptoSaid : Prop := registerWithdrawnUptoRow.holds Try.pinned (OpenSpec.upto registerWithdrawnSpec)

/-- 'moorsomlaw07.RegisterPower', WHERE WHAT IT READS IS OF BULK AT MOST 1048576: true; the input reads as it did. -/
def registerPowerUptoRow : OpenClaim := { program := "ytekjdeibnfaehaa", sum := "a68edbe823c13a3db61661ee9ebcdc8d4e4742feec4793fcaecad317ba10fe3a", func := "moorsom/moorsomlaw07.RegisterPower", spec := "registerPower", inPlace := ["slices.overlaps[moorsom/api.Record]"], unfollowed := true, recurses := true, plainKeys := false, apart := false, narrowed := true }
def RegisterPowerUptoSaid : Prop := registerPowerUptoRow.holds Try.pinned (OpenSpec.upto registerPowerSpec)

/-- 'moorsomlaw07.RegisterPacks', WHERE WHAT IT READS IS OF BULK AT MOST 1048576: true; the input reads as it did. -/
def registerPacksUptoRow : OpenClaim := { program := "ytekjdeibnfaehaa", sum := "a68edbe823c13a3db61661ee9ebcdc8d4e4742feec4793fcaecad317ba10fe3a", func := "moorsom/moorsomlaw07.RegisterPacks", spec := "registerPacks", inPlace := ["slices.overlaps[moorsom/api.Record]"], unfollowed := true, recurses := true, plainKeys := false, apart := false, narrowed := true }
def RegisterPacksUptoSaid : Prop := registerPacksUptoRow.holds Try.pinned (OpenSpec.upto registerPacksSpec)

/-- 'moorsomlaw07.RegisterJoined', WHERE WHAT IT READS IS OF BULK AT MOST 1048576: true; the input reads as it did. -/
def registerJoinedUptoRow : OpenClaim := { program := "ytekjdeibnfaehaa", sum := "a68edbe823c13a3db61661ee9ebcdc8d4e4742feec4793fcaecad317ba10fe3a", func := "moorsom/moorsomlaw07.RegisterJoined", spec := "registerJoined", inPlace := ["slices.overlaps[moorsom/api.Record]"], unfollowed := true, recurses := true, plainKeys := false, apart := false, narrowed := true }
def RegisterJoinedUptoSaid : Prop := registerJoinedUptoRow.holds Try.pinned (OpenSpec.upto registerJoinedSpec)

end Rows
end Go.Proofs.Ytekjdeibnfaehaa
