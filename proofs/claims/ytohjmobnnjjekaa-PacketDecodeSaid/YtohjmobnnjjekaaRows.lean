/-
  No cell of these rows narrows 'for every input' (looked for: loops, veiled, ifaces, maps, wideKeys, modest, calm, conditions, laid).
  DERIVED. THE GIVEN ROWS OF THIS SEAT. 6 by the template 'for every input the law returns true; each argument reads behind the call as it read before'; 0 by the template 'total and deterministic' (their statements: YtohjmobnnjjekaaTotals.lean).
  GIVEN WITH THE SEED: the statements are not yours to turn. If you find one false, say at which input.
  Laid BY PROGRAM, IN A SANDBOX (cutbox-rows.mjs): the forced cells as the released guide's own fill.sh prints them over the translation c84fc1c9ecc3d938… (all of the seat's roots in one cut). By AI agents, Wed Nov 11 2026. No macro, syntax, notation, axiom, sorry.
-/
import Derived.Test.YtohjmobnnjjekaaChecked
import GoSem.Claim
import GoSem.ClaimJoined
import GoSem.ClaimMapViews
import Derived.JoinedTies
import Derived.KernelRfl
namespace Go.Proofs.Ytohjmobnnjjekaa
/- THE CELL 'sum', in the pinned program and in every row, IS THE sha256 OF THE DUMP (.gsa) THAT YtohjmobnnjjekaaProg.lean LOADS. Nothing in Lean hashes anything: it is a label: what it is worth is what the hold of that sum in a sandbox is worth. -/
noncomputable def Try.pinned : Pinned := { name := "ytohjmobnnjjekaa", sum := "c84fc1c9ecc3d938a8cce8c631c8ad8ab106287114aa3b2125f9ce6a88ab05c1", checked := Try.checked }
namespace Rows
def none {H : Type} : Left H := { results := [], args := [] }

/-- 'farandolelaw46.PacketEncode': WHATEVER THE INPUT: true; the input reads as it did. -/
def packetEncodeSpec : ChangeSpec := { name := "packetEncode", fn := fun _ => fun
  | [d1, d2] => { results := [.lit (.bool true)], args := [d1, d2] }
  | _ => none }
def packetEncodeRow : OpenClaim := { program := "ytohjmobnnjjekaa", sum := "c84fc1c9ecc3d938a8cce8c631c8ad8ab106287114aa3b2125f9ce6a88ab05c1", func := "farandole/farandolelaw46.PacketEncode", spec := "packetEncode", unfollowed := true, recurses := true, apart := false }
def PacketEncodeSaid : Prop := packetEncodeRow.holds Try.pinned (OpenSpec.ofChange packetEncodeSpec)

/-- ITS FALSE NEIGHBOUR: 'it returns false'. Refute it at one input. -/
def packetEncodeWrong : ChangeSpec := { name := "packetEncode", fn := fun _ => fun
  | [d1, d2] => { results := [.lit (.bool false)], args := [d1, d2] }
  | _ => none }
def PacketEncodeWrongFalsely : Prop := packetEncodeRow.holds Try.pinned (OpenSpec.ofChange packetEncodeWrong)

/-- 'farandolelaw46.PacketDecode': WHATEVER THE INPUT: true; the input reads as it did. -/
def packetDecodeSpec : ChangeSpec := { name := "packetDecode", fn := fun _ => fun
  | [d] => { results := [.lit (.bool true)], args := [d] }
  | _ => none }
def packetDecodeRow : OpenClaim := { program := "ytohjmobnnjjekaa", sum := "c84fc1c9ecc3d938a8cce8c631c8ad8ab106287114aa3b2125f9ce6a88ab05c1", func := "farandole/farandolelaw46.PacketDecode", spec := "packetDecode", unfollowed := true, recurses := true, apart := false }
def PacketDecodeSaid : Prop := packetDecodeRow.holds Try.pinned (OpenSpec.ofChange packetDecodeSpec)

/-- ITS FALSE NEIGHBOUR: 'it returns false'. Refute it at one input. -/
def packetDecodeWrong : ChangeSpec := { name := "packetDecode", fn := fun _ => fun
  | [d] => { results := [.lit (.bool false)], args := [d] }
  | _ => none }
def PacketDecodeWrongFalsely : Prop := packetDecodeRow.holds Try.pinned (OpenSpec.ofChange packetDecodeWrong)

/-- 'farandolelaw46.PacketRoundTrip': WHATEVER THE INPUT: true; the input reads as it did. -/
def packetRoundTripSpec : ChangeSpec := { name := "packetRoundTrip", fn := fun _ => fun
  | [d1, d2] => { results := [.lit (.bool true)], args := [d1, d2] }
  | _ => none }
def packetRoundTripRow : OpenClaim := { program := "ytohjmobnnjjekaa", sum := "c84fc1c9ecc3d938a8cce8c631c8ad8ab106287114aa3b2125f9ce6a88ab05c1", func := "farandole/farandolelaw46.PacketRoundTrip", spec := "packetRoundTrip", unfollowed := true, recurses := true, apart := false }
def PacketRoundTripSaid : Prop := packetRoundTripRow.holds Try.pinned (OpenSpec.ofChange packetRoundTripSpec)

/-- ITS FALSE NEIGHBOUR: 'it returns false'. Refute it at one input. -/
def packetRoundTripWrong : ChangeSpec := { name := "packetRoundTrip", fn := fun _ => fun
  | [d1, d2] => { results := [.lit (.bool false)], args := [d1, d2] }
  | _ => none }
def PacketRoundTripWrongFalsely : Prop := packetRoundTripRow.holds Try.pinned (OpenSpec.ofChange packetRoundTripWrong)

/-- 'farandolelaw46.PacketDamage': WHATEVER THE INPUT: true; the input reads as it did. -/
def packetDamageSpec : ChangeSpec := { name := "packetDamage", fn := fun _ => fun
  | [d1, d2] => { results := [.lit (.bool true)], args := [d1, d2] }
  | _ => none }
def packetDamageRow : OpenClaim := { program := "ytohjmobnnjjekaa", sum := "c84fc1c9ecc3d938a8cce8c631c8ad8ab106287114aa3b2125f9ce6a88ab05c1", func := "farandole/farandolelaw46.PacketDamage", spec := "packetDamage", unfollowed := true, recurses := true, apart := false }
def PacketDamageSaid : Prop := packetDamageRow.holds Try.pinned (OpenSpec.ofChange packetDamageSpec)

/-- ITS FALSE NEIGHBOUR: 'it returns false'. Refute it at one input. -/
def packetDamageWrong : ChangeSpec := { name := "packetDamage", fn := fun _ => fun
  | [d1, d2] => { results := [.lit (.bool false)], args := [d1, d2] }
  | _ => none }
def PacketDamageWrongFalsely : Prop := packetDamageRow.holds Try.pinned (OpenSpec.ofChange packetDamageWrong)

/-- 'farandolelaw46.PacketAck': WHATEVER THE INPUT: true; the input reads as it did. -/
def packetAckSpec : ChangeSpec := { name := "packetAck", fn := fun _ => fun
  | [d1, d2] => { results := [.lit (.bool true)], args := [d1, d2] }
  | _ => none }
def packetAckRow : OpenClaim := { program := "ytohjmobnnjjekaa", sum := "c84fc1c9ecc3d938a8cce8c631c8ad8ab106287114aa3b2125f9ce6a88ab05c1", func := "farandole/farandolelaw46.PacketAck", spec := "packetAck", unfollowed := true, recurses := true, apart := false }
def PacketAckSaid : Prop := packetAckRow.holds Try.pinned (OpenSpec.ofChange packetAckSpec)

/-- ITS FALSE NEIGHBOUR: 'it returns false'. Refute it at one input. -/
def packetAckWrong : ChangeSpec := { name := "packetAck", fn := fun _ => fun
  | [d1, d2] => { results := [.lit (.bool false)], args := [d1, d2] }
  | _ => none }
def PacketAckWrongFalsely : Prop := packetAckRow.holds Try.pinned (OpenSpec.ofChange packetAckWrong)

/-- 'farandolelaw46.PacketValues': WHATEVER THE INPUT: true; the input reads as it did. -/
def packetValuesSpec : ChangeSpec := { name := "packetValues", fn := fun _ => fun
  | [d] => { results := [.lit (.bool true)], args := [d] }
  | _ => none }
def packetValuesRow : OpenClaim := { program := "ytohjmobnnjjekaa", sum := "c84fc1c9ecc3d938a8cce8c631c8ad8ab106287114aa3b2125f9ce6a88ab05c1", func := "farandole/farandolelaw46.PacketValues", spec := "packetValues", unfollowed := true, recurses := true, apart := false }
def PacketValuesSaid : Prop := packetValuesRow.holds Try.pinned (OpenSpec.ofChange packetValuesSpec)

/-- ITS FALSE NEIGHBOUR: 'it returns false'. Refute it at one input. -/
def packetValuesWrong : ChangeSpec := { name := "packetValues", fn := fun _ => fun
  | [d] => { results := [.lit (.bool false)], args := [d] }
  | _ => none }
def PacketValuesWrongFalsely : Prop := packetValuesRow.holds Try.pinned (OpenSpec.ofChange packetValuesWrong)

/- THE SECOND FORM. 'bulk': how many values and letters a reading holds, each counted each time it is reached (what is shared counts as often as it is met; a slice's spare places count too). A statement '..UptoSaid' is the law's where the arguments, and the package variables that the reading takes, are together of bulk at most 1048576: NARROWER than '..Said'. Prove '..Said' where nothing that the law and all that it calls make is longer than what came in: it says more and counts as full. Else prove '..UptoSaid'. A law counts once. -/
mutual
def uptoBulk {H : Type} : DataW H → Nat
  | .lit (.string bytes) => bytes.length + 1
  | .lit _ => 1
  | .nil => 1
  | .ptr d => uptoBulk d + 1
  | .slice elems spare => uptoBulkAll elems + uptoBulkAll spare + 1
  | .agg parts => uptoBulkAll parts + 1
  | .iface _ d => uptoBulk d + 1
  | .map entries => uptoBulkEntries entries + 1
  | .held _ => 1
def uptoBulkAll {H : Type} : List (DataW H) → Nat
  | [] => 0
  | d :: r => uptoBulk d + uptoBulkAll r
def uptoBulkEntries {H : Type} : List (Lit × DataW H) → Nat
  | [] => 0
  | x :: r => uptoBulkEntry x + uptoBulkEntries r
def uptoBulkEntry {H : Type} : Lit × DataW H → Nat
  | (.string bytes, d) => bytes.length + uptoBulk d + 1
  | (_, d) => uptoBulk d + 1
 end
def uptoSmall : (H : Type) → List (DataW H) → Bool := fun _ ds => decide (uptoBulkAll ds ≤ 1048576)
def OpenSpec.upto (s : _root_.Go.ChangeSpec) : _root_.Go.OpenSpec := { _root_.Go.OpenSpec.ofChange s with cond := some uptoSmall }

/-- 'farandolelaw46.PacketEncode', WHERE WHAT IT READS IS OF BULK AT MOST 1048576: true; the input reads as it did. -/
def packetEncodeUptoRow : OpenClaim := { program := "ytohjmobnnjjekaa", sum := "c84fc1c9ecc3d938a8cce8c631c8ad8ab106287114aa3b2125f9ce6a88ab05c1", func := "farandole/farandolelaw46.PacketEncode", spec := "packetEncode", unfollowed := true, recurses := true, apart := false, narrowed := true }
def PacketEncodeUptoSaid : Prop := packetEncodeUptoRow.holds Try.pinned (OpenSpec.upto packetEncodeSpec)

/-- 'farandolelaw46.PacketDecode', WHERE WHAT IT READS IS OF BULK AT MOST 1048576: true; the input reads as it did. -/
def packetDecodeUptoRow : OpenClaim := { program := "ytohjmobnnjjekaa", sum := "c84fc1c9ecc3d938a8cce8c631c8ad8ab106287114aa3b2125f9ce6a88ab05c1", func := "farandole/farandolelaw46.PacketDecode", spec := "packetDecode", unfollowed := true, recurses := true, apart := false, narrowed := true }
def PacketDecodeUptoSaid : Prop := packetDecodeUptoRow.holds Try.pinned (OpenSpec.upto packetDecodeSpec)

/-- 'farandolelaw46.PacketRoundTrip', WHERE WHAT IT READS IS OF BULK AT MOST 1048576: true; the input reads as it did. -/
def packetRoundTripUptoRow : OpenClaim := { program := "ytohjmobnnjjekaa", sum := "c84fc1c9ecc3d938a8cce8c631c8ad8ab106287114aa3b2125f9ce6a88ab05c1", func := "farandole/farandolelaw46.PacketRoundTrip", spec := "packetRoundTrip", unfollowed := true, recurses := true, apart := false, narrowed := true }
def PacketRoundTripUptoSaid : Prop := packetRoundTripUptoRow.holds Try.pinned (OpenSpec.upto packetRoundTripSpec)

/-- 'farandolelaw46.PacketDamage', WHERE WHAT IT READS IS OF BULK AT MOST 1048576: true; the input reads as it did. -/
def packetDamageUptoRow : OpenClaim := { program := "ytohjmobnnjjekaa", sum := "c84fc1c9ecc3d938a8cce8c631c8ad8ab106287114aa3b2125f9ce6a88ab05c1", func := "farandole/farandolelaw46.PacketDamage", spec := "packetDamage", unfollowed := true, recurses := true, apart := false, narrowed := true }
def PacketDamageUptoSaid : Prop := packetDamageUptoRow.holds Try.pinned (OpenSpec.upto packetDamageSpec)

/-- 'farandolelaw46.PacketAck', WHERE WHAT IT READS IS OF BULK AT MOST 1048576: true; the input reads as it did. -/
def packetAckUptoRow : OpenClaim := { program := "ytohjmobnnjjekaa", sum := "c84fc1c9ecc3d938a8cce8c631c8ad8ab106287114aa3b2125f9ce6a88ab05c1", func := "farandole/farandolelaw46.PacketAck", spec := "packetAck", unfollowed := true, recurses := true, apart := false, narrowed := true }
def PacketAckUptoSaid : Prop := packetAckUptoRow.holds Try.pinned (OpenSpec.upto packetAckSpec)

/-- 'farandolelaw46.PacketValues', WHERE WHAT IT READS IS OF BULK AT MOST 1048576: true; the input reads as it did. -/
def packetValuesUptoRow : OpenClaim := { program := "ytohjmobnnjjekaa", sum := "c84fc1c9ecc3d938a8cce8c631c8ad8ab106287114aa3b2125f9ce6a88ab05c1", func := "farandole/farandolelaw46.PacketValues", spec := "packetValues", unfollowed := true, recurses := true, apart := false, narrowed := true }
def PacketValuesUptoSaid : Prop := packetValuesUptoRow.holds Try.pinned (OpenSpec.upto packetValuesSpec)

end Rows
end Go.Proofs.Ytohjmobnnjjekaa
