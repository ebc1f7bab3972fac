/-
  No cell of these rows narrows 'for every input' (looked for: loops, veiled, ifaces, maps, wideKeys, modest, calm, conditions, laid).
  DERIVED. THE GIVEN ROWS OF THIS SEAT. 4 by the template 'for every input the law returns true; each argument reads behind the call as it read before'; 0 by the template 'total and deterministic' (their statements: YtcfnmklbkhibgaaTotals.lean).
  GIVEN WITH THE SEED: the statements are not yours to turn. If you find one false, say at which input.
  Laid BY PROGRAM, IN A SANDBOX (cutbox-rows.mjs): the forced cells as the released guide's own fill.sh prints them over the translation 90c8a1a87aaaeab7… (all of the seat's roots in one cut). By AI agents, Wed Nov 11 2026. No macro, syntax, notation, axiom, sorry.
-/
import Derived.Test.YtcfnmklbkhibgaaChecked
import GoSem.Claim
import GoSem.ClaimJoined
import GoSem.ClaimMapViews
import Derived.JoinedTies
import Derived.KernelRfl
namespace Go.Proofs.Ytcfnmklbkhibgaa
/- THE CELL 'sum', in the pinned program and in every row, IS THE sha256 OF THE DUMP (.gsa) THAT YtcfnmklbkhibgaaProg.lean LOADS. Nothing in Lean hashes anything: it is a label: what it is worth is what the hold of that sum in a sandbox is worth. -/
noncomputable def Try.pinned : Pinned := { name := "ytcfnmklbkhibgaa", sum := "90c8a1a87aaaeab7037182fc1af8ee149aaf2870ea0e366c9fd4e8e9a89f3c46", checked := Try.checked }
namespace Rows
def none {H : Type} : Left H := { results := [], args := [] }

/-- 'farandolelaw50.TransportBackoff': WHATEVER THE INPUT: true; the input reads as it did. -/
def transportBackoffSpec : ChangeSpec := { name := "transportBackoff", fn := fun _ => fun
  | [d1, d2] => { results := [.lit (.bool true)], args := [d1, d2] }
  | _ => none }
def transportBackoffRow : OpenClaim := { program := "ytcfnmklbkhibgaa", sum := "90c8a1a87aaaeab7037182fc1af8ee149aaf2870ea0e366c9fd4e8e9a89f3c46", func := "farandole/farandolelaw50.TransportBackoff", spec := "transportBackoff", unfollowed := true, recurses := true, apart := false }
def TransportBackoffSaid : Prop := transportBackoffRow.holds Try.pinned (OpenSpec.ofChange transportBackoffSpec)

/-- ITS FALSE NEIGHBOUR: 'it returns false'. Refute it at one input. -/
def transportBackoffWrong : ChangeSpec := { name := "transportBackoff", fn := fun _ => fun
  | [d1, d2] => { results := [.lit (.bool false)], args := [d1, d2] }
  | _ => none }
def TransportBackoffWrongFalsely : Prop := transportBackoffRow.holds Try.pinned (OpenSpec.ofChange transportBackoffWrong)

/-- 'farandolelaw50.TransportOffer': WHATEVER THE INPUT: true; the input reads as it did. -/
def transportOfferSpec : ChangeSpec := { name := "transportOffer", fn := fun _ => fun
  | [d1, d2, d3] => { results := [.lit (.bool true)], args := [d1, d2, d3] }
  | _ => none }
def transportOfferRow : OpenClaim := { program := "ytcfnmklbkhibgaa", sum := "90c8a1a87aaaeab7037182fc1af8ee149aaf2870ea0e366c9fd4e8e9a89f3c46", func := "farandole/farandolelaw50.TransportOffer", spec := "transportOffer", unfollowed := true, recurses := true, apart := false }
def TransportOfferSaid : Prop := transportOfferRow.holds Try.pinned (OpenSpec.ofChange transportOfferSpec)

/-- ITS FALSE NEIGHBOUR: 'it returns false'. Refute it at one input. -/
def transportOfferWrong : ChangeSpec := { name := "transportOffer", fn := fun _ => fun
  | [d1, d2, d3] => { results := [.lit (.bool false)], args := [d1, d2, d3] }
  | _ => none }
def TransportOfferWrongFalsely : Prop := transportOfferRow.holds Try.pinned (OpenSpec.ofChange transportOfferWrong)

/-- 'farandolelaw50.TransportOnce': WHATEVER THE INPUT: true; the input reads as it did. -/
def transportOnceSpec : ChangeSpec := { name := "transportOnce", fn := fun _ => fun
  | [d1, d2, d3] => { results := [.lit (.bool true)], args := [d1, d2, d3] }
  | _ => none }
def transportOnceRow : OpenClaim := { program := "ytcfnmklbkhibgaa", sum := "90c8a1a87aaaeab7037182fc1af8ee149aaf2870ea0e366c9fd4e8e9a89f3c46", func := "farandole/farandolelaw50.TransportOnce", spec := "transportOnce", inPlace := ["slices.overlaps[farandole/link.Flight]"], unfollowed := true, recurses := true, apart := false }
def TransportOnceSaid : Prop := transportOnceRow.holds Try.pinned (OpenSpec.ofChange transportOnceSpec)

/-- ITS FALSE NEIGHBOUR: 'it returns false'. Refute it at one input. -/
def transportOnceWrong : ChangeSpec := { name := "transportOnce", fn := fun _ => fun
  | [d1, d2, d3] => { results := [.lit (.bool false)], args := [d1, d2, d3] }
  | _ => none }
def TransportOnceWrongFalsely : Prop := transportOnceRow.holds Try.pinned (OpenSpec.ofChange transportOnceWrong)

/-- 'farandolelaw50.TransportDelivery': WHATEVER THE INPUT: true; the input reads as it did. -/
def transportDeliverySpec : ChangeSpec := { name := "transportDelivery", fn := fun _ => fun
  | [d1, d2, d3] => { results := [.lit (.bool true)], args := [d1, d2, d3] }
  | _ => none }
def transportDeliveryRow : OpenClaim := { program := "ytcfnmklbkhibgaa", sum := "90c8a1a87aaaeab7037182fc1af8ee149aaf2870ea0e366c9fd4e8e9a89f3c46", func := "farandole/farandolelaw50.TransportDelivery", spec := "transportDelivery", inPlace := ["slices.overlaps[farandole/link.Flight]"], unfollowed := true, recurses := true, apart := false }
def TransportDeliverySaid : Prop := transportDeliveryRow.holds Try.pinned (OpenSpec.ofChange transportDeliverySpec)

/-- ITS FALSE NEIGHBOUR: 'it returns false'. Refute it at one input. -/
def transportDeliveryWrong : ChangeSpec := { name := "transportDelivery", fn := fun _ => fun
  | [d1, d2, d3] => { results := [.lit (.bool false)], args := [d1, d2, d3] }
  | _ => none }
def TransportDeliveryWrongFalsely : Prop := transportDeliveryRow.holds Try.pinned (OpenSpec.ofChange transportDeliveryWrong)

/- THE SECOND FORM. 'bulk': how many values and letters a reading holds, each counted each time it is reached (what is shared counts as often as it is met; a slice's spare places count too). A statement '..UptoSaid' is the law's where the arguments, and the package variables that the reading takes, are together of bulk at most 1048576: NARROWER than '..Said'. Prove '..Said' where nothing that the law and all that it calls make is longer than what came in: it says more and counts as full. Else prove '..UptoSaid'. A law counts once. -/
mutual
def uptoBulk {H : Type} : DataW H → Nat
  | .lit (.string bytes) => bytes.length + 1
  | .lit _ => 1
  | .nil => 1
  | .ptr d => uptoBulk d + 1
  | .slice elems spare => uptoBulkAll elems + uptoBulkAll spare + 1
  | .agg parts => uptoBulkAll parts + 1
  | .iface _ d => uptoBulk d + 1
  | .map entries => uptoBulkEntries entries + 1
  | .held _ => 1
def uptoBulkAll {H : Type} : List (DataW H) → Nat
  | [] => 0
  | d :: r => uptoBulk d + uptoBulkAll r
def uptoBulkEntries {H : Type} : List (Lit × DataW H) → Nat
  | [] => 0
  | x :: r => uptoBulkEntry x + uptoBulkEntries r
def uptoBulkEntry {H : Type} : Lit × DataW H → Nat
  | (.string bytes, d) => bytes.length + uptoBulk d + 1
  | (_, d) => uptoBulk d + 1
 end
def uptoSmall : (H : Type) → List (DataW H) → Bool := fun _ ds => decide (uptoBulkAll ds ≤ 1048576)
def OpenSpec.upto (s : _root_.Go.ChangeSpec) : _root_.Go.OpenSpec := { _root_.Go.OpenSpec.ofChange s with cond := some uptoSmall }

/-- 'farandolelaw50.TransportBackoff', WHERE WHAT IT READS IS OF BULK AT MOST 1048576: true; the input reads as it did. -/
def transportBackoffUptoRow : OpenClaim := { program := "ytcfnmklbkhibgaa", sum := "90c8a1a87aaaeab7037182fc1af8ee149aaf2870ea0e366c9fd4e8e9a89f3c46", func := "farandole/farandolelaw50.TransportBackoff", spec := "transportBackoff", unfollowed := true, recurses := true, apart := false, narrowed := true }
def TransportBackoffUptoSaid : Prop := transportBackoffUptoRow.holds Try.pinned (OpenSpec.upto transportBackoffSpec)

/-- 'farandolelaw50.TransportOffer', WHERE WHAT IT READS IS OF BULK AT MOST 1048576: true; the input reads as it did. -/
def transportOfferUptoRow : OpenClaim := { program := "ytcfnmklbkhibgaa", sum := "90c8a1a87aaaeab7037182fc1af8ee149aaf2870ea0e366c9fd4e8e9a89f3c46", func := "farandole/farandolelaw50.TransportOffer", spec := "transportOffer", unfollowed := true, recurses := true, apart := false, narrowed := true }
def TransportOfferUptoSaid : Prop := transportOfferUptoRow.holds Try.pinned (OpenSpec.upto transportOfferSpec)

/-- 'farandolelaw50.TransportOnce', WHERE WHAT IT READS IS OF BULK AT MOST 1048576: true; the input reads as it did. -/
def transportOnceUptoRow : OpenClaim := { program := "ytcfnmklbkhibgaa", sum := "90c8a1a87aaaeab7037182fc1af8ee149aaf2870ea0e366c9fd4e8e9a89f3c46", func := "farandole/farandolelaw50.TransportOnce", spec := "transportOnce", inPlace := ["slices.overlaps[farandole/link.Flight]"], unfollowed := true, recurses := true, apart := false, narrowed := true }
def TransportOnceUptoSaid : Prop := transportOnceUptoRow.holds Try.pinned (OpenSpec.upto transportOnceSpec)

/-- 'farandolelaw50.TransportDelivery', WHERE WHAT IT READS IS OF BULK AT MOST 1048576: true; the input reads as it did. -/
def transportDeliveryUptoRow : OpenClaim := { program := "ytcfnmklbkhibgaa", sum := "90c8a1a87aaaeab7037182fc1af8ee149aaf2870ea0e366c9fd4e8e9a89f3c46", func := "farandole/farandolelaw50.TransportDelivery", spec := "transportDelivery", inPlace := ["slices.overlaps[farandole/link.Flight]"], unfollowed := true, recurses := true, apart := false, narrowed := true }
def TransportDeliveryUptoSaid : Prop := transportDeliveryUptoRow.holds Try.pinned (OpenSpec.upto transportDeliverySpec)

end Rows
end Go.Proofs.Ytcfnmklbkhibgaa
