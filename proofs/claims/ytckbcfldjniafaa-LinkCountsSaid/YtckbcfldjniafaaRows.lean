/-
  No cell of these rows narrows 'for every input' (looked for: loops, veiled, ifaces, maps, wideKeys, modest, calm, conditions, laid).
  DERIVED. THE GIVEN ROWS OF THIS SEAT. 6 by the template 'for every input the law returns true; each argument reads behind the call as it read before'; 0 by the template 'total and deterministic' (their statements: YtckbcfldjniafaaTotals.lean).
  GIVEN WITH THE SEED: the statements are not yours to turn. If you find one false, say at which input.
  Laid BY PROGRAM, IN A SANDBOX (cutbox-rows.mjs): the forced cells as the released guide's own fill.sh prints them over the translation d03dd65690792270… (all of the seat's roots in one cut). By AI agents, Wed Nov 11 2026. No macro, syntax, notation, axiom, sorry.
-/
import Derived.Test.YtckbcfldjniafaaChecked
import GoSem.Claim
import GoSem.ClaimJoined
import GoSem.ClaimMapViews
import Derived.JoinedTies
import Derived.KernelRfl
namespace Go.Proofs.Ytckbcfldjniafaa
/- THE CELL 'sum', in the pinned program and in every row, IS THE sha256 OF THE DUMP (.gsa) THAT YtckbcfldjniafaaProg.lean LOADS. Nothing in Lean hashes anything: it is a label: what it is worth is what the hold of that sum in a sandbox is worth. -/
noncomputable def Try.pinned : Pinned := { name := "ytckbcfldjniafaa", sum := "d03dd656907922700bba200a1c9991a8e49663229a8a5308da452f50b45464aa", checked := Try.checked }
namespace Rows
def none {H : Type} : Left H := { results := [], args := [] }

/-- 'farandolelaw45.LinkTick': WHATEVER THE INPUT: true; the input reads as it did. -/
def linkTickSpec : ChangeSpec := { name := "linkTick", fn := fun _ => fun
  | [d1, d2] => { results := [.lit (.bool true)], args := [d1, d2] }
  | _ => none }
def linkTickRow : OpenClaim := { program := "ytckbcfldjniafaa", sum := "d03dd656907922700bba200a1c9991a8e49663229a8a5308da452f50b45464aa", func := "farandole/farandolelaw45.LinkTick", spec := "linkTick", inPlace := ["slices.overlaps[farandole/link.Flight]"], unfollowed := true, recurses := true, apart := false }
def LinkTickSaid : Prop := linkTickRow.holds Try.pinned (OpenSpec.ofChange linkTickSpec)

/-- ITS FALSE NEIGHBOUR: 'it returns false'. Refute it at one input. -/
def linkTickWrong : ChangeSpec := { name := "linkTick", fn := fun _ => fun
  | [d1, d2] => { results := [.lit (.bool false)], args := [d1, d2] }
  | _ => none }
def LinkTickWrongFalsely : Prop := linkTickRow.holds Try.pinned (OpenSpec.ofChange linkTickWrong)

/-- 'farandolelaw45.LinkOrigin': WHATEVER THE INPUT: true; the input reads as it did. -/
def linkOriginSpec : ChangeSpec := { name := "linkOrigin", fn := fun _ => fun
  | [d1, d2] => { results := [.lit (.bool true)], args := [d1, d2] }
  | _ => none }
def linkOriginRow : OpenClaim := { program := "ytckbcfldjniafaa", sum := "d03dd656907922700bba200a1c9991a8e49663229a8a5308da452f50b45464aa", func := "farandole/farandolelaw45.LinkOrigin", spec := "linkOrigin", inPlace := ["slices.overlaps[farandole/link.Flight]"], unfollowed := true, recurses := true, apart := false }
def LinkOriginSaid : Prop := linkOriginRow.holds Try.pinned (OpenSpec.ofChange linkOriginSpec)

/-- ITS FALSE NEIGHBOUR: 'it returns false'. Refute it at one input. -/
def linkOriginWrong : ChangeSpec := { name := "linkOrigin", fn := fun _ => fun
  | [d1, d2] => { results := [.lit (.bool false)], args := [d1, d2] }
  | _ => none }
def LinkOriginWrongFalsely : Prop := linkOriginRow.holds Try.pinned (OpenSpec.ofChange linkOriginWrong)

/-- 'farandolelaw45.LinkCounts': WHATEVER THE INPUT: true; the input reads as it did. -/
def linkCountsSpec : ChangeSpec := { name := "linkCounts", fn := fun _ => fun
  | [d1, d2] => { results := [.lit (.bool true)], args := [d1, d2] }
  | _ => none }
def linkCountsRow : OpenClaim := { program := "ytckbcfldjniafaa", sum := "d03dd656907922700bba200a1c9991a8e49663229a8a5308da452f50b45464aa", func := "farandole/farandolelaw45.LinkCounts", spec := "linkCounts", inPlace := ["slices.overlaps[farandole/link.Flight]"], unfollowed := true, recurses := true, apart := false }
def LinkCountsSaid : Prop := linkCountsRow.holds Try.pinned (OpenSpec.ofChange linkCountsSpec)

/-- ITS FALSE NEIGHBOUR: 'it returns false'. Refute it at one input. -/
def linkCountsWrong : ChangeSpec := { name := "linkCounts", fn := fun _ => fun
  | [d1, d2] => { results := [.lit (.bool false)], args := [d1, d2] }
  | _ => none }
def LinkCountsWrongFalsely : Prop := linkCountsRow.holds Try.pinned (OpenSpec.ofChange linkCountsWrong)

/-- 'farandolelaw45.LinkPlain': WHATEVER THE INPUT: true; the input reads as it did. -/
def linkPlainSpec : ChangeSpec := { name := "linkPlain", fn := fun _ => fun
  | [d] => { results := [.lit (.bool true)], args := [d] }
  | _ => none }
def linkPlainRow : OpenClaim := { program := "ytckbcfldjniafaa", sum := "d03dd656907922700bba200a1c9991a8e49663229a8a5308da452f50b45464aa", func := "farandole/farandolelaw45.LinkPlain", spec := "linkPlain", inPlace := ["slices.overlaps[farandole/link.Flight]"], unfollowed := true, recurses := true, apart := false }
def LinkPlainSaid : Prop := linkPlainRow.holds Try.pinned (OpenSpec.ofChange linkPlainSpec)

/-- ITS FALSE NEIGHBOUR: 'it returns false'. Refute it at one input. -/
def linkPlainWrong : ChangeSpec := { name := "linkPlain", fn := fun _ => fun
  | [d] => { results := [.lit (.bool false)], args := [d] }
  | _ => none }
def LinkPlainWrongFalsely : Prop := linkPlainRow.holds Try.pinned (OpenSpec.ofChange linkPlainWrong)

/-- 'farandolelaw45.LinkDrain': WHATEVER THE INPUT: true; the input reads as it did. -/
def linkDrainSpec : ChangeSpec := { name := "linkDrain", fn := fun _ => fun
  | [d] => { results := [.lit (.bool true)], args := [d] }
  | _ => none }
def linkDrainRow : OpenClaim := { program := "ytckbcfldjniafaa", sum := "d03dd656907922700bba200a1c9991a8e49663229a8a5308da452f50b45464aa", func := "farandole/farandolelaw45.LinkDrain", spec := "linkDrain", inPlace := ["slices.overlaps[farandole/link.Flight]"], unfollowed := true, recurses := true, apart := false }
def LinkDrainSaid : Prop := linkDrainRow.holds Try.pinned (OpenSpec.ofChange linkDrainSpec)

/-- ITS FALSE NEIGHBOUR: 'it returns false'. Refute it at one input. -/
def linkDrainWrong : ChangeSpec := { name := "linkDrain", fn := fun _ => fun
  | [d] => { results := [.lit (.bool false)], args := [d] }
  | _ => none }
def LinkDrainWrongFalsely : Prop := linkDrainRow.holds Try.pinned (OpenSpec.ofChange linkDrainWrong)

/-- 'farandolelaw45.LinkSend': WHATEVER THE INPUT: true; the input reads as it did. -/
def linkSendSpec : ChangeSpec := { name := "linkSend", fn := fun _ => fun
  | [d1, d2, d3] => { results := [.lit (.bool true)], args := [d1, d2, d3] }
  | _ => none }
def linkSendRow : OpenClaim := { program := "ytckbcfldjniafaa", sum := "d03dd656907922700bba200a1c9991a8e49663229a8a5308da452f50b45464aa", func := "farandole/farandolelaw45.LinkSend", spec := "linkSend", inPlace := ["slices.overlaps[farandole/link.Flight]"], unfollowed := true, recurses := true, apart := false }
def LinkSendSaid : Prop := linkSendRow.holds Try.pinned (OpenSpec.ofChange linkSendSpec)

/-- ITS FALSE NEIGHBOUR: 'it returns false'. Refute it at one input. -/
def linkSendWrong : ChangeSpec := { name := "linkSend", fn := fun _ => fun
  | [d1, d2, d3] => { results := [.lit (.bool false)], args := [d1, d2, d3] }
  | _ => none }
def LinkSendWrongFalsely : Prop := linkSendRow.holds Try.pinned (OpenSpec.ofChange linkSendWrong)

/- THE SECOND FORM. 'bulk': how many values and letters a reading holds, each counted each time it is reached (what is shared counts as often as it is met; a slice's spare places count too). A statement '..UptoSaid' is the law's where the arguments, and the package variables that the reading takes, are together of bulk at most 1048576: NARROWER than '..Said'. Prove '..Said' where nothing that the law and all that it calls make is longer than what came in: it says more and counts as full. Else prove '..UptoSaid'. A law counts once. -/
mutual
def uptoBulk {H : Type} : DataW H → Nat
  | .lit (.string bytes) => bytes.length + 1
  | .lit _ => 1
  | .nil => 1
  | .ptr d => uptoBulk d + 1
  | .slice elems spare => uptoBulkAll elems + uptoBulkAll spare + 1
  | .agg parts => uptoBulkAll parts + 1
  | .iface _ d => uptoBulk d + 1
  | .map entries => uptoBulkEntries entries + 1
  | .held _ => 1
def uptoBulkAll {H : Type} : List (DataW H) → Nat
  | [] => 0
  | d :: r => uptoBulk d + uptoBulkAll r
def uptoBulkEntries {H : Type} : List (Lit × DataW H) → Nat
  | [] => 0
  | x :: r => uptoBulkEntry x + uptoBulkEntries r
def uptoBulkEntry {H : Type} : Lit × DataW H → Nat
  | (.string bytes, d) => bytes.length + uptoBulk d + 1
  | (_, d) => uptoBulk d + 1
 end
def uptoSmall : (H : Type) → List (DataW H) → Bool := fun _ ds => decide (uptoBulkAll ds ≤ 1048576)
def OpenSpec.upto (s : _root_.Go.ChangeSpec) : _root_.Go.OpenSpec := { _root_.Go.OpenSpec.ofChange s with cond := some uptoSmall }

/-- 'farandolelaw45.LinkTick', WHERE WHAT IT READS IS OF BULK AT MOST 1048576: true; the input reads as it did. -/
def linkTickUptoRow : OpenClaim := { program := "ytckbcfldjniafaa", sum := "d03dd656907922700bba200a1c9991a8e49663229a8a5308da452f50b45464aa", func := "farandole/farandolelaw45.LinkTick", spec := "linkTick", inPlace := ["slices.overlaps[farandole/link.Flight]"], unfollowed := true, recurses := true, apart := false, narrowed := true }
def LinkTickUptoSaid : Prop := linkTickUptoRow.holds Try.pinned (OpenSpec.upto linkTickSpec)

/-- 'farandolelaw45.LinkOrigin', WHERE WHAT IT READS IS OF BULK AT MOST 1048576: true; the input reads as it did. -/
def linkOriginUptoRow : OpenClaim := { program := "ytckbcfldjniafaa", sum := "d03dd656907922700bba200a1c9991a8e49663229a8a5308da452f50b45464aa", func := "farandole/farandolelaw45.LinkOrigin", spec := "linkOrigin", inPlace := ["slices.overlaps[farandole/link.Flight]"], unfollowed := true, recurses := true, apart := false, narrowed := true }
def LinkOriginUptoSaid : Prop := linkOriginUptoRow.holds Try.pinned (OpenSpec.upto linkOriginSpec)

/-- 'farandolelaw45.LinkCounts', WHERE WHAT IT READS IS OF BULK AT MOST 1048576: true; the input reads as it did. -/
def linkCountsUptoRow : OpenClaim := { program := "ytckbcfldjniafaa", sum := "d03dd656907922700bba200a1c9991a8e49663229a8a5308da452f50b45464aa", func := "farandole/farandolelaw45.LinkCounts", spec := "linkCounts", inPlace := ["slices.overlaps[farandole/link.Flight]"], unfollowed := true, recurses := true, apart := false, narrowed := true }
def LinkCountsUptoSaid : Prop := linkCountsUptoRow.holds Try.pinned (OpenSpec.upto linkCountsSpec)

/-- 'farandolelaw45.LinkPlain', WHERE WHAT IT READS IS OF BULK AT MOST 1048576: true; the input reads as it did. -/
def linkPlainUptoRow : OpenClaim := { program := "ytckbcfldjniafaa", sum := "d03dd656907922700bba200a1c9991a8e49663229a8a5308da452f50b45464aa", func := "farandole/farandolelaw45.LinkPlain", spec := "linkPlain", inPlace := ["slices.overlaps[farandole/link.Flight]"], unfollowed := true, recurses := true, apart := false, narrowed := true }
def LinkPlainUptoSaid : Prop := linkPlainUptoRow.holds Try.pinned (OpenSpec.upto linkPlainSpec)

/-- 'farandolelaw45.LinkDrain', WHERE WHAT IT READS IS OF BULK AT MOST 1048576: true; the input reads as it did. -/
def linkDrainUptoRow : OpenClaim := { program := "ytckbcfldjniafaa", sum := "d03dd656907922700bba200a1c9991a8e49663229a8a5308da452f50b45464aa", func := "farandole/farandolelaw45.LinkDrain", spec := "linkDrain", inPlace := ["slices.overlaps[farandole/link.Flight]"], unfollowed := true, recurses := true, apart := false, narrowed := true }
def LinkDrainUptoSaid : Prop := linkDrainUptoRow.holds Try.pinned (OpenSpec.upto linkDrainSpec)

/-- 'farandolelaw45.LinkSend', WHERE WHAT IT READS IS OF BULK AT MOST 1048576: true; the input reads as it did. -/
def linkSendUptoRow : OpenClaim := { program := "ytckbcfldjniafaa", sum := "d03dd656907922700bba200a1c9991a8e49663229a8a5308da452f50b45464aa", func := "farandole/farandolelaw45.LinkSend", spec := "linkSend", inPlace := ["slices.overlaps[farandole/link.Flight]"], unfollowed := true, recurses := true, apart := false, narrowed := true }
def LinkSendUptoSaid : Prop := linkSendUptoRow.holds Try.pinned (OpenSpec.upto linkSendSpec)

end Rows
end Go.Proofs.Ytckbcfldjniafaa
