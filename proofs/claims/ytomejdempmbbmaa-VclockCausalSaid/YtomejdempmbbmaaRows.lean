/-
  No cell of these rows narrows 'for every input' (looked for: loops, veiled, ifaces, maps, wideKeys, modest, calm, conditions, laid).
  DERIVED. THE GIVEN ROWS OF THIS SEAT. 6 by the template 'for every input the law returns true; each argument reads behind the call as it read before'; 0 by the template 'total and deterministic' (their statements: YtomejdempmbbmaaTotals.lean).
  GIVEN WITH THE SEED: the statements are not yours to turn. If you find one false, say at which input.
  Laid BY PROGRAM, IN A SANDBOX (cutbox-rows.mjs): the forced cells as the released guide's own fill.sh prints them over the translation cd7e53b7f705255a… (all of the seat's roots in one cut). By AI agents, Wed Nov 11 2026. No macro, syntax, notation, axiom, sorry.
-/
import Derived.Test.YtomejdempmbbmaaChecked
import GoSem.Claim
import GoSem.ClaimJoined
import GoSem.ClaimMapViews
import Derived.JoinedTies
import Derived.KernelRfl
namespace Go.Proofs.Ytomejdempmbbmaa
/- THE CELL 'sum', in the pinned program and in every row, IS THE sha256 OF THE DUMP (.gsa) THAT YtomejdempmbbmaaProg.lean LOADS. Nothing in Lean hashes anything: it is a label: what it is worth is what the hold of that sum in a sandbox is worth. -/
noncomputable def Try.pinned : Pinned := { name := "ytomejdempmbbmaa", sum := "cd7e53b7f705255ab589506e21a1f392a2d4f04e356cb7b01dea5f3d53d86ef8", checked := Try.checked }
namespace Rows
def none {H : Type} : Left H := { results := [], args := [] }

/-- 'farandolelaw07.VclockCompare': WHATEVER THE INPUT: true; the input reads as it did. -/
def vclockCompareSpec : ChangeSpec := { name := "vclockCompare", fn := fun _ => fun
  | [d1, d2] => { results := [.lit (.bool true)], args := [d1, d2] }
  | _ => none }
def vclockCompareRow : OpenClaim := { program := "ytomejdempmbbmaa", sum := "cd7e53b7f705255ab589506e21a1f392a2d4f04e356cb7b01dea5f3d53d86ef8", func := "farandole/farandolelaw07.VclockCompare", spec := "vclockCompare", apart := false }
def VclockCompareSaid : Prop := vclockCompareRow.holds Try.pinned (OpenSpec.ofChange vclockCompareSpec)

/-- ITS FALSE NEIGHBOUR: 'it returns false'. Refute it at one input. -/
def vclockCompareWrong : ChangeSpec := { name := "vclockCompare", fn := fun _ => fun
  | [d1, d2] => { results := [.lit (.bool false)], args := [d1, d2] }
  | _ => none }
def VclockCompareWrongFalsely : Prop := vclockCompareRow.holds Try.pinned (OpenSpec.ofChange vclockCompareWrong)

/-- 'farandolelaw07.VclockOrder': WHATEVER THE INPUT: true; the input reads as it did. -/
def vclockOrderSpec : ChangeSpec := { name := "vclockOrder", fn := fun _ => fun
  | [d1, d2, d3] => { results := [.lit (.bool true)], args := [d1, d2, d3] }
  | _ => none }
def vclockOrderRow : OpenClaim := { program := "ytomejdempmbbmaa", sum := "cd7e53b7f705255ab589506e21a1f392a2d4f04e356cb7b01dea5f3d53d86ef8", func := "farandole/farandolelaw07.VclockOrder", spec := "vclockOrder", apart := false }
def VclockOrderSaid : Prop := vclockOrderRow.holds Try.pinned (OpenSpec.ofChange vclockOrderSpec)

/-- ITS FALSE NEIGHBOUR: 'it returns false'. Refute it at one input. -/
def vclockOrderWrong : ChangeSpec := { name := "vclockOrder", fn := fun _ => fun
  | [d1, d2, d3] => { results := [.lit (.bool false)], args := [d1, d2, d3] }
  | _ => none }
def VclockOrderWrongFalsely : Prop := vclockOrderRow.holds Try.pinned (OpenSpec.ofChange vclockOrderWrong)

/-- 'farandolelaw07.VclockLeast': WHATEVER THE INPUT: true; the input reads as it did. -/
def vclockLeastSpec : ChangeSpec := { name := "vclockLeast", fn := fun _ => fun
  | [d1, d2, d3] => { results := [.lit (.bool true)], args := [d1, d2, d3] }
  | _ => none }
def vclockLeastRow : OpenClaim := { program := "ytomejdempmbbmaa", sum := "cd7e53b7f705255ab589506e21a1f392a2d4f04e356cb7b01dea5f3d53d86ef8", func := "farandole/farandolelaw07.VclockLeast", spec := "vclockLeast", apart := false }
def VclockLeastSaid : Prop := vclockLeastRow.holds Try.pinned (OpenSpec.ofChange vclockLeastSpec)

/-- ITS FALSE NEIGHBOUR: 'it returns false'. Refute it at one input. -/
def vclockLeastWrong : ChangeSpec := { name := "vclockLeast", fn := fun _ => fun
  | [d1, d2, d3] => { results := [.lit (.bool false)], args := [d1, d2, d3] }
  | _ => none }
def VclockLeastWrongFalsely : Prop := vclockLeastRow.holds Try.pinned (OpenSpec.ofChange vclockLeastWrong)

/-- 'farandolelaw07.VclockTick': WHATEVER THE INPUT: true; the input reads as it did. -/
def vclockTickSpec : ChangeSpec := { name := "vclockTick", fn := fun _ => fun
  | [d1, d2, d3] => { results := [.lit (.bool true)], args := [d1, d2, d3] }
  | _ => none }
def vclockTickRow : OpenClaim := { program := "ytomejdempmbbmaa", sum := "cd7e53b7f705255ab589506e21a1f392a2d4f04e356cb7b01dea5f3d53d86ef8", func := "farandole/farandolelaw07.VclockTick", spec := "vclockTick", apart := false }
def VclockTickSaid : Prop := vclockTickRow.holds Try.pinned (OpenSpec.ofChange vclockTickSpec)

/-- ITS FALSE NEIGHBOUR: 'it returns false'. Refute it at one input. -/
def vclockTickWrong : ChangeSpec := { name := "vclockTick", fn := fun _ => fun
  | [d1, d2, d3] => { results := [.lit (.bool false)], args := [d1, d2, d3] }
  | _ => none }
def VclockTickWrongFalsely : Prop := vclockTickRow.holds Try.pinned (OpenSpec.ofChange vclockTickWrong)

/-- 'farandolelaw07.VclockJoin': WHATEVER THE INPUT: true; the input reads as it did. -/
def vclockJoinSpec : ChangeSpec := { name := "vclockJoin", fn := fun _ => fun
  | [d1, d2, d3] => { results := [.lit (.bool true)], args := [d1, d2, d3] }
  | _ => none }
def vclockJoinRow : OpenClaim := { program := "ytomejdempmbbmaa", sum := "cd7e53b7f705255ab589506e21a1f392a2d4f04e356cb7b01dea5f3d53d86ef8", func := "farandole/farandolelaw07.VclockJoin", spec := "vclockJoin", apart := false }
def VclockJoinSaid : Prop := vclockJoinRow.holds Try.pinned (OpenSpec.ofChange vclockJoinSpec)

/-- ITS FALSE NEIGHBOUR: 'it returns false'. Refute it at one input. -/
def vclockJoinWrong : ChangeSpec := { name := "vclockJoin", fn := fun _ => fun
  | [d1, d2, d3] => { results := [.lit (.bool false)], args := [d1, d2, d3] }
  | _ => none }
def VclockJoinWrongFalsely : Prop := vclockJoinRow.holds Try.pinned (OpenSpec.ofChange vclockJoinWrong)

/-- 'farandolelaw07.VclockCausal': WHATEVER THE INPUT: true; the input reads as it did. -/
def vclockCausalSpec : ChangeSpec := { name := "vclockCausal", fn := fun _ => fun
  | [d] => { results := [.lit (.bool true)], args := [d] }
  | _ => none }
def vclockCausalRow : OpenClaim := { program := "ytomejdempmbbmaa", sum := "cd7e53b7f705255ab589506e21a1f392a2d4f04e356cb7b01dea5f3d53d86ef8", func := "farandole/farandolelaw07.VclockCausal", spec := "vclockCausal", apart := false }
def VclockCausalSaid : Prop := vclockCausalRow.holds Try.pinned (OpenSpec.ofChange vclockCausalSpec)

/-- ITS FALSE NEIGHBOUR: 'it returns false'. Refute it at one input. -/
def vclockCausalWrong : ChangeSpec := { name := "vclockCausal", fn := fun _ => fun
  | [d] => { results := [.lit (.bool false)], args := [d] }
  | _ => none }
def VclockCausalWrongFalsely : Prop := vclockCausalRow.holds Try.pinned (OpenSpec.ofChange vclockCausalWrong)

/- THE SECOND FORM. 'bulk': how many values and letters a reading holds, each counted each time it is reached (what is shared counts as often as it is met; a slice's spare places count too). A statement '..UptoSaid' is the law's where the arguments, and the package variables that the reading takes, are together of bulk at most 1048576: NARROWER than '..Said'. Prove '..Said' where nothing that the law and all that it calls make is longer than what came in: it says more and counts as full. Else prove '..UptoSaid'. A law counts once. -/
mutual
def uptoBulk {H : Type} : DataW H → Nat
  | .lit (.string bytes) => bytes.length + 1
  | .lit _ => 1
  | .nil => 1
  | .ptr d => uptoBulk d + 1
  | .slice elems spare => uptoBulkAll elems + uptoBulkAll spare + 1
  | .agg parts => uptoBulkAll parts + 1
  | .iface _ d => uptoBulk d + 1
  | .map entries => uptoBulkEntries entries + 1
  | .held _ => 1
def uptoBulkAll {H : Type} : List (DataW H) → Nat
  | [] => 0
  | d :: r => uptoBulk d + uptoBulkAll r
def uptoBulkEntries {H : Type} : List (Lit × DataW H) → Nat
  | [] => 0
  | x :: r => uptoBulkEntry x + uptoBulkEntries r
def uptoBulkEntry {H : Type} : Lit × DataW H → Nat
  | (.string bytes, d) => bytes.length + uptoBulk d + 1
  | (_, d) => uptoBulk d + 1
 end
def uptoSmall : (H : Type) → List (DataW H) → Bool := fun _ ds => decide (uptoBulkAll ds ≤ 1048576)
def OpenSpec.upto (s : _root_.Go.ChangeSpec) : _root_.Go.OpenSpec := { _root_.Go.OpenSpec.ofChange s with cond := some uptoSmall }

/-- 'farandolelaw07.VclockCompare', WHERE WHAT IT READS IS OF BULK AT MOST 1048576: true; the input reads as it did. -/
def vclockCompareUptoRow : OpenClaim := { program := "ytomejdempmbbmaa", sum := "cd7e53b7f705255ab589506e21a1f392a2d4f04e356cb7b01dea5f3d53d86ef8", func := "farandole/farandolelaw07.VclockCompare", spec := "vclockCompare", apart := false, narrowed := true }
def VclockCompareUptoSaid : Prop := vclockCompareUptoRow.holds Try.pinned (OpenSpec.upto vclockCompareSpec)

/-- 'farandolelaw07.VclockOrder', WHERE WHAT IT READS IS OF BULK AT MOST 1048576: true; the input reads as it did. -/
def vclockOrderUptoRow : OpenClaim := { program := "ytomejdempmbbmaa", sum := "cd7e53b7f705255ab589506e21a1f392a2d4f04e356cb7b01dea5f3d53d86ef8", func := "farandole/farandolelaw07.VclockOrder", spec := "vclockOrder", apart := false, narrowed := true }
def VclockOrderUptoSaid : Prop := vclockOrderUptoRow.holds Try.pinned (OpenSpec.upto vclockOrderSpec)

/-- 'farandolelaw07.VclockLeast', WHERE WHAT IT READS IS OF BULK AT MOST 1048576: true; the input reads as it did. -/
def vclockLeastUptoRow : OpenClaim := { program := "ytomejdempmbbmaa", sum := "cd7e53b7f705255ab589506e21a1f392a2d4f04e356cb7b01dea5f3d53d86ef8", func := "farandole/farandolelaw07.VclockLeast", spec := "vclockLeast", apart := false, narrowed := true }
def VclockLeastUptoSaid : Prop := vclockLeastUptoRow.holds Try.pinned (OpenSpec.upto vclockLeastSpec)

/-- 'farandolelaw07.VclockTick', WHERE WHAT IT READS IS OF BULK AT MOST 1048576: true; the input reads as it did. -/
def vclockTickUptoRow : OpenClaim := { program := "ytomejdempmbbmaa", sum := "cd7e53b7f705255ab589506e21a1f392a2d4f04e356cb7b01dea5f3d53d86ef8", func := "farandole/farandolelaw07.VclockTick", spec := "vclockTick", apart := false, narrowed := true }
def VclockTickUptoSaid : Prop := vclockTickUptoRow.holds Try.pinned (OpenSpec.upto vclockTickSpec)

/-- 'farandolelaw07.VclockJoin', WHERE WHAT IT READS IS OF BULK AT MOST 1048576: true; the input reads as it did. -/
def vclockJoinUptoRow : OpenClaim := { program := "ytomejdempmbbmaa", sum := "cd7e53b7f705255ab589506e21a1f392a2d4f04e356cb7b01dea5f3d53d86ef8", func := "farandole/farandolelaw07.VclockJoin", spec := "vclockJoin", apart := false, narrowed := true }
def VclockJoinUptoSaid : Prop := vclockJoinUptoRow.holds Try.pinned (OpenSpec.upto vclockJoinSpec)

/-- 'farandolelaw07.VclockCausal', WHERE WHAT IT READS IS OF BULK AT MOST 1048576: true; the input reads as it did. -/
def vclockCausalUptoRow : OpenClaim := { program := "ytomejdempmbbmaa", sum := "cd7e53b7f705255ab589506e21a1f392a2d4f04e356cb7b01dea5f3d53d86ef8", func := "farandole/farandolelaw07.VclockCausal", spec := "vclockCausal", apart := false, narrowed := true }
def VclockCausalUptoSaid : Prop := vclockCausalUptoRow.holds Try.pinned (OpenSpec.upto vclockCausalSpec)

end Rows
end Go.Proofs.Ytomejdempmbbmaa
