/-
  No cell of these rows narrows 'for every input' (looked for: loops, veiled, ifaces, maps, wideKeys, modest, calm, conditions, laid).
  DERIVED. THE GIVEN ROWS OF THIS SEAT. 7 by the template 'for every input the law returns true; each argument reads behind the call as it read before'; 0 by the template 'total and deterministic' (their statements: YtekjdeibnfaehaaGreatTotals.lean).
  GIVEN WITH THE SEED: the statements are not yours to turn. If you find one false, say at which input.
  Laid BY PROGRAM, IN A SANDBOX (cutbox-rows.mjs): the forced cells as the released guide's own fill.sh prints them over the translation 20241e298b91d006… (all of the seat's roots in one cut). By AI agents, Wed Nov 11 2026. No macro, syntax, notation, axiom, sorry.
-/
import Derived.Test.YtekjdeibnfaehaaGreatChecked
import GoSem.Claim
import GoSem.ClaimJoined
import GoSem.ClaimMapViews
import Derived.JoinedTies
import Derived.KernelRfl
namespace Go.Proofs.YtekjdeibnfaehaaGreat
/- THE CELL 'sum', in the pinned program and in every row, IS THE sha256 OF THE DUMP (.gsa) THAT YtekjdeibnfaehaaGreatProg.lean LOADS. Nothing in Lean hashes anything: it is a label: what it is worth is what the hold of that sum in a sandbox is worth. -/
noncomputable def Tryz.pinned : Pinned := { name := "ytekjdeibnfaehaagreat", sum := "20241e298b91d00620856e5d2104257bfc10be9880dcd272172c594dc9867f0c", checked := Tryz.checked }
namespace Rows
def none {H : Type} : Left H := { results := [], args := [] }

/-- 'moorsomlaw07.RegisterDrives': WHATEVER THE INPUT: true; the input reads as it did. -/
def registerDrivesSpec : ChangeSpec := { name := "registerDrives", fn := fun _ => fun
  | [d1, d2] => { results := [.lit (.bool true)], args := [d1, d2] }
  | _ => none }
def registerDrivesRow : OpenClaim := { program := "ytekjdeibnfaehaagreat", sum := "20241e298b91d00620856e5d2104257bfc10be9880dcd272172c594dc9867f0c", func := "moorsom/moorsomlaw07.RegisterDrives", spec := "registerDrives", inPlace := ["slices.overlaps[moorsom/api.Record]"], unfollowed := true, recurses := true, plainKeys := false, apart := false }
def RegisterDrivesSaid : Prop := registerDrivesRow.holds Tryz.pinned (OpenSpec.ofChange registerDrivesSpec)

/-- ITS FALSE NEIGHBOUR: 'it returns false'. Refute it at one input. -/
def registerDrivesWrong : ChangeSpec := { name := "registerDrives", fn := fun _ => fun
  | [d1, d2] => { results := [.lit (.bool false)], args := [d1, d2] }
  | _ => none }
def RegisterDrivesWrongFalsely : Prop := registerDrivesRow.holds Tryz.pinned (OpenSpec.ofChange registerDrivesWrong)

/-- 'moorsomlaw07.RegisterAppends': WHATEVER THE INPUT: true; the input reads as it did. -/
def registerAppendsSpec : ChangeSpec := { name := "registerAppends", fn := fun _ => fun
  | [d1, d2, d3] => { results := [.lit (.bool true)], args := [d1, d2, d3] }
  | _ => none }
def registerAppendsRow : OpenClaim := { program := "ytekjdeibnfaehaagreat", sum := "20241e298b91d00620856e5d2104257bfc10be9880dcd272172c594dc9867f0c", func := "moorsom/moorsomlaw07.RegisterAppends", spec := "registerAppends", inPlace := ["slices.overlaps[moorsom/api.Record]"], unfollowed := true, recurses := true, plainKeys := false, apart := false }
def RegisterAppendsSaid : Prop := registerAppendsRow.holds Tryz.pinned (OpenSpec.ofChange registerAppendsSpec)

/-- ITS FALSE NEIGHBOUR: 'it returns false'. Refute it at one input. -/
def registerAppendsWrong : ChangeSpec := { name := "registerAppends", fn := fun _ => fun
  | [d1, d2, d3] => { results := [.lit (.bool false)], args := [d1, d2, d3] }
  | _ => none }
def RegisterAppendsWrongFalsely : Prop := registerAppendsRow.holds Tryz.pinned (OpenSpec.ofChange registerAppendsWrong)

/-- 'moorsomlaw07.RegisterTells': WHATEVER THE INPUT: true; the input reads as it did. -/
def registerTellsSpec : ChangeSpec := { name := "registerTells", fn := fun _ => fun
  | [d1, d2] => { results := [.lit (.bool true)], args := [d1, d2] }
  | _ => none }
def registerTellsRow : OpenClaim := { program := "ytekjdeibnfaehaagreat", sum := "20241e298b91d00620856e5d2104257bfc10be9880dcd272172c594dc9867f0c", func := "moorsom/moorsomlaw07.RegisterTells", spec := "registerTells", inPlace := ["slices.overlaps[moorsom/api.Record]"], unfollowed := true, recurses := true, plainKeys := false, apart := false }
def RegisterTellsSaid : Prop := registerTellsRow.holds Tryz.pinned (OpenSpec.ofChange registerTellsSpec)

/-- ITS FALSE NEIGHBOUR: 'it returns false'. Refute it at one input. -/
def registerTellsWrong : ChangeSpec := { name := "registerTells", fn := fun _ => fun
  | [d1, d2] => { results := [.lit (.bool false)], args := [d1, d2] }
  | _ => none }
def RegisterTellsWrongFalsely : Prop := registerTellsRow.holds Tryz.pinned (OpenSpec.ofChange registerTellsWrong)

/-- 'moorsomlaw07.RegisterOffices': WHATEVER THE INPUT: true; the input reads as it did. -/
def registerOfficesSpec : ChangeSpec := { name := "registerOffices", fn := fun _ => fun
  | [d1, d2] => { results := [.lit (.bool true)], args := [d1, d2] }
  | _ => none }
def registerOfficesRow : OpenClaim := { program := "ytekjdeibnfaehaagreat", sum := "20241e298b91d00620856e5d2104257bfc10be9880dcd272172c594dc9867f0c", func := "moorsom/moorsomlaw07.RegisterOffices", spec := "registerOffices", inPlace := ["slices.overlaps[moorsom/api.Place]", "slices.overlaps[moorsom/api.Record]"], unfollowed := true, recurses := true, plainKeys := false, apart := false }
def RegisterOfficesSaid : Prop := registerOfficesRow.holds Tryz.pinned (OpenSpec.ofChange registerOfficesSpec)

/-- ITS FALSE NEIGHBOUR: 'it returns false'. Refute it at one input. -/
def registerOfficesWrong : ChangeSpec := { name := "registerOffices", fn := fun _ => fun
  | [d1, d2] => { results := [.lit (.bool false)], args := [d1, d2] }
  | _ => none }
def RegisterOfficesWrongFalsely : Prop := registerOfficesRow.holds Tryz.pinned (OpenSpec.ofChange registerOfficesWrong)

/-- 'moorsomlaw07.RegisterAcknowledged': WHATEVER THE INPUT: true; the input reads as it did. -/
def registerAcknowledgedSpec : ChangeSpec := { name := "registerAcknowledged", fn := fun _ => fun
  | [d] => { results := [.lit (.bool true)], args := [d] }
  | _ => none }
def registerAcknowledgedRow : OpenClaim := { program := "ytekjdeibnfaehaagreat", sum := "20241e298b91d00620856e5d2104257bfc10be9880dcd272172c594dc9867f0c", func := "moorsom/moorsomlaw07.RegisterAcknowledged", spec := "registerAcknowledged", inPlace := ["slices.overlaps[moorsom/api.Place]", "slices.overlaps[moorsom/api.Record]"], unfollowed := true, recurses := true, plainKeys := false, apart := false }
def RegisterAcknowledgedSaid : Prop := registerAcknowledgedRow.holds Tryz.pinned (OpenSpec.ofChange registerAcknowledgedSpec)

/-- ITS FALSE NEIGHBOUR: 'it returns false'. Refute it at one input. -/
def registerAcknowledgedWrong : ChangeSpec := { name := "registerAcknowledged", fn := fun _ => fun
  | [d] => { results := [.lit (.bool false)], args := [d] }
  | _ => none }
def RegisterAcknowledgedWrongFalsely : Prop := registerAcknowledgedRow.holds Tryz.pinned (OpenSpec.ofChange registerAcknowledgedWrong)

/-- 'moorsomlaw07.RegisterEqual': WHATEVER THE INPUT: true; the input reads as it did. -/
def registerEqualSpec : ChangeSpec := { name := "registerEqual", fn := fun _ => fun
  | [d] => { results := [.lit (.bool true)], args := [d] }
  | _ => none }
def registerEqualRow : OpenClaim := { program := "ytekjdeibnfaehaagreat", sum := "20241e298b91d00620856e5d2104257bfc10be9880dcd272172c594dc9867f0c", func := "moorsom/moorsomlaw07.RegisterEqual", spec := "registerEqual", inPlace := ["slices.overlaps[moorsom/api.Place]", "slices.overlaps[moorsom/api.Record]"], unfollowed := true, recurses := true, plainKeys := false, apart := false }
def RegisterEqualSaid : Prop := registerEqualRow.holds Tryz.pinned (OpenSpec.ofChange registerEqualSpec)

/-- ITS FALSE NEIGHBOUR: 'it returns false'. Refute it at one input. -/
def registerEqualWrong : ChangeSpec := { name := "registerEqual", fn := fun _ => fun
  | [d] => { results := [.lit (.bool false)], args := [d] }
  | _ => none }
def RegisterEqualWrongFalsely : Prop := registerEqualRow.holds Tryz.pinned (OpenSpec.ofChange registerEqualWrong)

/-- 'moorsomlaw07.RegisterLeases': WHATEVER THE INPUT: true; the input reads as it did. -/
def registerLeasesSpec : ChangeSpec := { name := "registerLeases", fn := fun _ => fun
  | [d1, d2, d3] => { results := [.lit (.bool true)], args := [d1, d2, d3] }
  | _ => none }
def registerLeasesRow : OpenClaim := { program := "ytekjdeibnfaehaagreat", sum := "20241e298b91d00620856e5d2104257bfc10be9880dcd272172c594dc9867f0c", func := "moorsom/moorsomlaw07.RegisterLeases", spec := "registerLeases", inPlace := ["slices.overlaps[moorsom/api.Place]", "slices.overlaps[moorsom/api.Record]"], unfollowed := true, recurses := true, plainKeys := false, apart := false }
def RegisterLeasesSaid : Prop := registerLeasesRow.holds Tryz.pinned (OpenSpec.ofChange registerLeasesSpec)

/-- ITS FALSE NEIGHBOUR: 'it returns false'. Refute it at one input. -/
def registerLeasesWrong : ChangeSpec := { name := "registerLeases", fn := fun _ => fun
  | [d1, d2, d3] => { results := [.lit (.bool false)], args := [d1, d2, d3] }
  | _ => none }
def RegisterLeasesWrongFalsely : Prop := registerLeasesRow.holds Tryz.pinned (OpenSpec.ofChange registerLeasesWrong)

/- THE SECOND FORM. 'bulk': how many values and letters a reading holds, each counted each time it is reached (what is shared counts as often as it is met; a slice's spare places count too). A statement '..UptoSaid' is the law's where the arguments, and the package variables that the reading takes, are together of bulk at most 1048576: NARROWER than '..Said'. Prove '..Said' where nothing that the law and all that it calls make is longer than what came in: it says more and counts as full. Else prove '..UptoSaid'. A law counts once. -/
mutual
def uptoBulk {H : Type} : DataW H → Nat
  | .lit (.string bytes) => bytes.length + 1
  | .lit _ => 1
  | .nil => 1
  | .ptr d => uptoBulk d + 1
  | .slice elems spare => uptoBulkAll elems + uptoBulkAll spare + 1
  | .agg parts => uptoBulkAll parts + 1
  | .iface _ d => uptoBulk d + 1
  | .map entries => uptoBulkEntries entries + 1
  | .held _ => 1
def uptoBulkAll {H : Type} : List (DataW H) → Nat
  | [] => 0
  | d :: r => uptoBulk d + uptoBulkAll r
def uptoBulkEntries {H : Type} : List (Lit × DataW H) → Nat
  | [] => 0
  | x :: r => uptoBulkEntry x + uptoBulkEntries r
def uptoBulkEntry {H : Type} : Lit × DataW H → Nat
  | (.string bytes, d) => bytes.length + uptoBulk d + 1
  | (_, d) => uptoBulk d + 1
 end
def uptoSmall : (H : Type) → List (DataW H) → Bool := fun _ ds => decide (uptoBulkAll ds ≤ 1048576)
def OpenSpec.upto (s : _root_.Go.ChangeSpec) : _root_.Go.OpenSpec := { _root_.Go.OpenSpec.ofChange s with cond := some uptoSmall }

/-- 'moorsomlaw07.RegisterDrives', WHERE WHAT IT READS IS OF BULK AT MOST 1048576: true; the input reads as it did. -/
def registerDrivesUptoRow : OpenClaim := { program := "ytekjdeibnfaehaagreat", sum := "20241e298b91d00620856e5d2104257bfc10be9880dcd272172c594dc9867f0c", func := "moorsom/moorsomlaw07.RegisterDrives", spec := "registerDrives", inPlace := ["slices.overlaps[moorsom/api.Record]"], unfollowed := true, recurses := true, plainKeys := false, apart := false, narrowed := true }
def RegisterDrivesUptoSaid : Prop := registerDrivesUptoRow.holds Tryz.pinned (OpenSpec.upto registerDrivesSpec)

/-- 'moorsomlaw07.RegisterAppends', WHERE WHAT IT READS IS OF BULK AT MOST 1048576: true; the input reads as it did. -/
def registerAppendsUptoRow : OpenClaim := { program := "ytekjdeibnfaehaagreat", sum := "20241e298b91d00620856e5d2104257bfc10be9880dcd272172c594dc9867f0c", func := "moorsom/moorsomlaw07.RegisterAppends", spec := "registerAppends", inPlace := ["slices.overlaps[moorsom/api.Record]"], unfollowed := true, recurses := true, plainKeys := false, apart := false, narrowed := true }
def RegisterAppendsUptoSaid : Prop := registerAppendsUptoRow.holds Tryz.pinned (OpenSpec.upto registerAppendsSpec)

/-- 'moorsomlaw07.RegisterTells', WHERE WHAT IT READS IS OF BULK AT MOST 1048576: true; the input reads as it did. -/
def registerTellsUptoRow : OpenClaim := { program := "ytekjdeibnfaehaagreat", sum := "20241e298b91d00620856e5d2104257bfc10be9880dcd272172c594dc9867f0c", func := "moorsom/moorsomlaw07.RegisterTells", spec := "registerTells", inPlace := ["slices.overlaps[moorsom/api.Record]"], unfollowed := true, recurses := true, plainKeys := false, apart := false, narrowed := true }
def RegisterTellsUptoSaid : Prop := registerTellsUptoRow.holds Tryz.pinned (OpenSpec.upto registerTellsSpec)

/-- 'moorsomlaw07.RegisterOffices', WHERE WHAT IT READS IS OF BULK AT MOST 1048576: true; the input reads as it did. -/
def registerOfficesUptoRow : OpenClaim := { program := "ytekjdeibnfaehaagreat", sum := "20241e298b91d00620856e5d2104257bfc10be9880dcd272172c594dc9867f0c", func := "moorsom/moorsomlaw07.RegisterOffices", spec := "registerOffices", inPlace := ["slices.overlaps[moorsom/api.Place]", "slices.overlaps[moorsom/api.Record]"], unfollowed := true, recurses := true, plainKeys := false, apart := false, narrowed := true }
def RegisterOfficesUptoSaid : Prop := registerOfficesUptoRow.holds Tryz.pinned (OpenSpec.upto registerOfficesSpec)

/-- 'moorsomlaw07.RegisterAcknowledged', WHERE WHAT IT READS IS OF BULK AT MOST 1048576: true; the input reads as it did. -/
def registerAcknowledgedUptoRow : OpenClaim := { program := "ytekjdeibnfaehaagreat", sum := "20241e298b91d00620856e5d2104257bfc10be9880dcd272172c594dc9867f0c", func := "moorsom/moorsomlaw07.RegisterAcknowledged", spec := "registerAcknowledged", inPlace := ["slices.overlaps[moorsom/api.Place]", "slices.overlaps[moorsom/api.Record]"], unfollowed := true, recurses := true, plainKeys := false, apart := false, narrowed := true }
def RegisterAcknowledgedUptoSaid : Prop := registerAcknowledgedUptoRow.holds Tryz.pinned (OpenSpec.upto registerAcknowledgedSpec)

/-- 'moorsomlaw07.RegisterEqual', WHERE WHAT IT READS IS OF BULK AT MOST 1048576: true; the input reads as it did. -/
def registerEqualUptoRow : OpenClaim := { program := "ytekjdeibnfaehaagreat", sum := "20241e298b91d00620856e5d2104257bfc10be9880dcd272172c594dc9867f0c", func := "moorsom/moorsomlaw07.RegisterEqual", spec := "registerEqual", inPlace := ["slices.overlaps[moorsom/api.Place]", "slices.overlaps[moorsom/api.Record]"], unfollowed := true, recurses := true, plainKeys := false, apart := false, narrowed := true }
def RegisterEqualUptoSaid : Prop := registerEqualUptoRow.holds Tryz.pinned (OpenSpec.upto registerEqualSpec)

/-- 'moorsomlaw07.RegisterLeases', WHERE WHAT IT READS IS OF BULK AT MOST 1048576: true; the input reads as it did. -/
def registerLeasesUptoRow : OpenClaim := { program := "ytekjdeibnfaehaagreat", sum := "20241e298b91d00620856e5d2104257bfc10be9880dcd272172c594dc9867f0c", func := "moorsom/moorsomlaw07.RegisterLeases", spec := "registerLeases", inPlace := ["slices.overlaps[moorsom/api.Place]", "slices.overlaps[moorsom/api.Record]"], unfollowed := true, recurses := true, plainKeys := false, apart := false, narrowed := true }
def RegisterLeasesUptoSaid : Prop := registerLeasesUptoRow.holds Tryz.pinned (OpenSpec.upto registerLeasesSpec)

end Rows
end Go.Proofs.YtekjdeibnfaehaaGreat
