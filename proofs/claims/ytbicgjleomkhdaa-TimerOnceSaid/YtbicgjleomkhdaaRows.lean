/-
  No cell of these rows narrows 'for every input' (looked for: loops, veiled, ifaces, maps, wideKeys, modest, calm, conditions, laid).
  DERIVED. THE GIVEN ROWS OF THIS SEAT. 5 by the template 'for every input the law returns true; each argument reads behind the call as it read before'; 0 by the template 'total and deterministic' (their statements: YtbicgjleomkhdaaTotals.lean).
  GIVEN WITH THE SEED: the statements are not yours to turn. If you find one false, say at which input.
  Laid BY PROGRAM, IN A SANDBOX (cutbox-rows.mjs): the forced cells as the released guide's own fill.sh prints them over the translation 37a31bd49251e754… (all of the seat's roots in one cut). By AI agents, Wed Nov 11 2026. No macro, syntax, notation, axiom, sorry.
-/
import Derived.Test.YtbicgjleomkhdaaChecked
import GoSem.Claim
import GoSem.ClaimJoined
import GoSem.ClaimMapViews
import Derived.JoinedTies
import Derived.KernelRfl
namespace Go.Proofs.Ytbicgjleomkhdaa
/- THE CELL 'sum', in the pinned program and in every row, IS THE sha256 OF THE DUMP (.gsa) THAT YtbicgjleomkhdaaProg.lean LOADS. Nothing in Lean hashes anything: it is a label: what it is worth is what the hold of that sum in a sandbox is worth. -/
noncomputable def Try.pinned : Pinned := { name := "ytbicgjleomkhdaa", sum := "37a31bd49251e754ffd91bf647a646b6bbed1f6bc8bd0adfb622c244a7fc05de", checked := Try.checked }
namespace Rows
def none {H : Type} : Left H := { results := [], args := [] }

/-- 'farandolelaw49.TimerOrder': WHATEVER THE INPUT: true; the input reads as it did. -/
def timerOrderSpec : ChangeSpec := { name := "timerOrder", fn := fun _ => fun
  | [d1, d2, d3] => { results := [.lit (.bool true)], args := [d1, d2, d3] }
  | _ => none }
def timerOrderRow : OpenClaim := { program := "ytbicgjleomkhdaa", sum := "37a31bd49251e754ffd91bf647a646b6bbed1f6bc8bd0adfb622c244a7fc05de", func := "farandole/farandolelaw49.TimerOrder", spec := "timerOrder", inPlace := ["slices.overlaps[farandole/timer.Timer]"], unfollowed := true, recurses := true, apart := false }
def TimerOrderSaid : Prop := timerOrderRow.holds Try.pinned (OpenSpec.ofChange timerOrderSpec)

/-- ITS FALSE NEIGHBOUR: 'it returns false'. Refute it at one input. -/
def timerOrderWrong : ChangeSpec := { name := "timerOrder", fn := fun _ => fun
  | [d1, d2, d3] => { results := [.lit (.bool false)], args := [d1, d2, d3] }
  | _ => none }
def TimerOrderWrongFalsely : Prop := timerOrderRow.holds Try.pinned (OpenSpec.ofChange timerOrderWrong)

/-- 'farandolelaw49.TimerExpire': WHATEVER THE INPUT: true; the input reads as it did. -/
def timerExpireSpec : ChangeSpec := { name := "timerExpire", fn := fun _ => fun
  | [d1, d2] => { results := [.lit (.bool true)], args := [d1, d2] }
  | _ => none }
def timerExpireRow : OpenClaim := { program := "ytbicgjleomkhdaa", sum := "37a31bd49251e754ffd91bf647a646b6bbed1f6bc8bd0adfb622c244a7fc05de", func := "farandole/farandolelaw49.TimerExpire", spec := "timerExpire", inPlace := ["slices.overlaps[farandole/timer.Timer]"], unfollowed := true, recurses := true, apart := false }
def TimerExpireSaid : Prop := timerExpireRow.holds Try.pinned (OpenSpec.ofChange timerExpireSpec)

/-- ITS FALSE NEIGHBOUR: 'it returns false'. Refute it at one input. -/
def timerExpireWrong : ChangeSpec := { name := "timerExpire", fn := fun _ => fun
  | [d1, d2] => { results := [.lit (.bool false)], args := [d1, d2] }
  | _ => none }
def TimerExpireWrongFalsely : Prop := timerExpireRow.holds Try.pinned (OpenSpec.ofChange timerExpireWrong)

/-- 'farandolelaw49.TimerSet': WHATEVER THE INPUT: true; the input reads as it did. -/
def timerSetSpec : ChangeSpec := { name := "timerSet", fn := fun _ => fun
  | [d1, d2, d3] => { results := [.lit (.bool true)], args := [d1, d2, d3] }
  | _ => none }
def timerSetRow : OpenClaim := { program := "ytbicgjleomkhdaa", sum := "37a31bd49251e754ffd91bf647a646b6bbed1f6bc8bd0adfb622c244a7fc05de", func := "farandole/farandolelaw49.TimerSet", spec := "timerSet", inPlace := ["slices.overlaps[farandole/timer.Timer]"], unfollowed := true, recurses := true, apart := false }
def TimerSetSaid : Prop := timerSetRow.holds Try.pinned (OpenSpec.ofChange timerSetSpec)

/-- ITS FALSE NEIGHBOUR: 'it returns false'. Refute it at one input. -/
def timerSetWrong : ChangeSpec := { name := "timerSet", fn := fun _ => fun
  | [d1, d2, d3] => { results := [.lit (.bool false)], args := [d1, d2, d3] }
  | _ => none }
def TimerSetWrongFalsely : Prop := timerSetRow.holds Try.pinned (OpenSpec.ofChange timerSetWrong)

/-- 'farandolelaw49.TimerOnce': WHATEVER THE INPUT: true; the input reads as it did. -/
def timerOnceSpec : ChangeSpec := { name := "timerOnce", fn := fun _ => fun
  | [d] => { results := [.lit (.bool true)], args := [d] }
  | _ => none }
def timerOnceRow : OpenClaim := { program := "ytbicgjleomkhdaa", sum := "37a31bd49251e754ffd91bf647a646b6bbed1f6bc8bd0adfb622c244a7fc05de", func := "farandole/farandolelaw49.TimerOnce", spec := "timerOnce", inPlace := ["slices.overlaps[farandole/timer.Timer]"], unfollowed := true, recurses := true, apart := false }
def TimerOnceSaid : Prop := timerOnceRow.holds Try.pinned (OpenSpec.ofChange timerOnceSpec)

/-- ITS FALSE NEIGHBOUR: 'it returns false'. Refute it at one input. -/
def timerOnceWrong : ChangeSpec := { name := "timerOnce", fn := fun _ => fun
  | [d] => { results := [.lit (.bool false)], args := [d] }
  | _ => none }
def TimerOnceWrongFalsely : Prop := timerOnceRow.holds Try.pinned (OpenSpec.ofChange timerOnceWrong)

/-- 'farandolelaw49.TimerOthers': WHATEVER THE INPUT: true; the input reads as it did. -/
def timerOthersSpec : ChangeSpec := { name := "timerOthers", fn := fun _ => fun
  | [d1, d2, d3] => { results := [.lit (.bool true)], args := [d1, d2, d3] }
  | _ => none }
def timerOthersRow : OpenClaim := { program := "ytbicgjleomkhdaa", sum := "37a31bd49251e754ffd91bf647a646b6bbed1f6bc8bd0adfb622c244a7fc05de", func := "farandole/farandolelaw49.TimerOthers", spec := "timerOthers", inPlace := ["slices.overlaps[farandole/timer.Timer]"], unfollowed := true, recurses := true, apart := false }
def TimerOthersSaid : Prop := timerOthersRow.holds Try.pinned (OpenSpec.ofChange timerOthersSpec)

/-- ITS FALSE NEIGHBOUR: 'it returns false'. Refute it at one input. -/
def timerOthersWrong : ChangeSpec := { name := "timerOthers", fn := fun _ => fun
  | [d1, d2, d3] => { results := [.lit (.bool false)], args := [d1, d2, d3] }
  | _ => none }
def TimerOthersWrongFalsely : Prop := timerOthersRow.holds Try.pinned (OpenSpec.ofChange timerOthersWrong)

/- THE SECOND FORM. 'bulk': how many values and letters a reading holds, each counted each time it is reached (what is shared counts as often as it is met; a slice's spare places count too). A statement '..UptoSaid' is the law's where the arguments, and the package variables that the reading takes, are together of bulk at most 1048576: NARROWER than '..Said'. Prove '..Said' where nothing that the law and all that it calls make is longer than what came in: it says more and counts as full. Else prove '..UptoSaid'. A law counts once. -/
mutual
def uptoBulk {H : Type} : DataW H → Nat
  | .lit (.string bytes) => bytes.length + 1
  | .lit _ => 1
  | .nil => 1
  | .ptr d => uptoBulk d + 1
  | .slice elems spare => uptoBulkAll elems + uptoBulkAll spare + 1
  | .agg parts => uptoBulkAll parts + 1
  | .iface _ d => uptoBulk d + 1
  | .map entries => uptoBulkEntries entries + 1
  | .held _ => 1
def uptoBulkAll {H : Type} : List (DataW H) → Nat
  | [] => 0
  | d :: r => uptoBulk d + uptoBulkAll r
def uptoBulkEntries {H : Type} : List (Lit × DataW H) → Nat
  | [] => 0
  | x :: r => uptoBulkEntry x + uptoBulkEntries r
def uptoBulkEntry {H : Type} : Lit × DataW H → Nat
  | (.string bytes, d) => bytes.length + uptoBulk d + 1
  | (_, d) => uptoBulk d + 1
 end
def uptoSmall : (H : Type) → List (DataW H) → Bool := fun _ ds => decide (uptoBulkAll ds ≤ 1048576)
def OpenSpec.upto (s : _root_.Go.ChangeSpec) : _root_.Go.OpenSpec := { _root_.Go.OpenSpec.ofChange s with cond := some uptoSmall }

/-- 'farandolelaw49.TimerOrder', WHERE WHAT IT READS IS OF BULK AT MOST 1048576: true; the input reads as it did. -/
def timerOrderUptoRow : OpenClaim := { program := "ytbicgjleomkhdaa", sum := "37a31bd49251e754ffd91bf647a646b6bbed1f6bc8bd0adfb622c244a7fc05de", func := "farandole/farandolelaw49.TimerOrder", spec := "timerOrder", inPlace := ["slices.overlaps[farandole/timer.Timer]"], unfollowed := true, recurses := true, apart := false, narrowed := true }
def TimerOrderUptoSaid : Prop := timerOrderUptoRow.holds Try.pinned (OpenSpec.upto timerOrderSpec)

/-- 'farandolelaw49.TimerExpire', WHERE WHAT IT READS IS OF BULK AT MOST 1048576: true; the input reads as it did. -/
def timerExpireUptoRow : OpenClaim := { program := "ytbicgjleomkhdaa", sum := "37a31bd49251e754ffd91bf647a646b6bbed1f6bc8bd0adfb622c244a7fc05de", func := "farandole/farandolelaw49.TimerExpire", spec := "timerExpire", inPlace := ["slices.overlaps[farandole/timer.Timer]"], unfollowed := true, recurses := true, apart := false, narrowed := true }
def TimerExpireUptoSaid : Prop := timerExpireUptoRow.holds Try.pinned (OpenSpec.upto timerExpireSpec)

/-- 'farandolelaw49.TimerSet', WHERE WHAT IT READS IS OF BULK AT MOST 1048576: true; the input reads as it did. -/
def timerSetUptoRow : OpenClaim := { program := "ytbicgjleomkhdaa", sum := "37a31bd49251e754ffd91bf647a646b6bbed1f6bc8bd0adfb622c244a7fc05de", func := "farandole/farandolelaw49.TimerSet", spec := "timerSet", inPlace := ["slices.overlaps[farandole/timer.Timer]"], unfollowed := true, recurses := true, apart := false, narrowed := true }
def TimerSetUptoSaid : Prop := timerSetUptoRow.holds Try.pinned (OpenSpec.upto timerSetSpec)

/-- 'farandolelaw49.TimerOnce', WHERE WHAT IT READS IS OF BULK AT MOST 1048576: true; the input reads as it did. -/
def timerOnceUptoRow : OpenClaim := { program := "ytbicgjleomkhdaa", sum := "37a31bd49251e754ffd91bf647a646b6bbed1f6bc8bd0adfb622c244a7fc05de", func := "farandole/farandolelaw49.TimerOnce", spec := "timerOnce", inPlace := ["slices.overlaps[farandole/timer.Timer]"], unfollowed := true, recurses := true, apart := false, narrowed := true }
def TimerOnceUptoSaid : Prop := timerOnceUptoRow.holds Try.pinned (OpenSpec.upto timerOnceSpec)

/-- 'farandolelaw49.TimerOthers', WHERE WHAT IT READS IS OF BULK AT MOST 1048576: true; the input reads as it did. -/
def timerOthersUptoRow : OpenClaim := { program := "ytbicgjleomkhdaa", sum := "37a31bd49251e754ffd91bf647a646b6bbed1f6bc8bd0adfb622c244a7fc05de", func := "farandole/farandolelaw49.TimerOthers", spec := "timerOthers", inPlace := ["slices.overlaps[farandole/timer.Timer]"], unfollowed := true, recurses := true, apart := false, narrowed := true }
def TimerOthersUptoSaid : Prop := timerOthersUptoRow.holds Try.pinned (OpenSpec.upto timerOthersSpec)

end Rows
end Go.Proofs.Ytbicgjleomkhdaa
