/-
  No cell of these rows narrows 'for every input' (looked for: loops, veiled, ifaces, maps, wideKeys, modest, calm, conditions, laid).
  DERIVED. THE GIVEN ROWS OF THIS SEAT. 9 by the template 'for every input the law returns true; each argument reads behind the call as it read before'; 0 by the template 'total and deterministic' (their statements: YtjkbkmbblidipaaTotals.lean).
  GIVEN WITH THE SEED: the statements are not yours to turn. If you find one false, say at which input.
  Laid BY PROGRAM, IN A SANDBOX (cutbox-rows.mjs): the forced cells as the released guide's own fill.sh prints them over the translation d8efff98c986ccb3… (all of the seat's roots in one cut). By AI agents, Wed Nov 11 2026. No macro, syntax, notation, axiom, sorry.
-/
import Derived.Test.YtjkbkmbblidipaaChecked
import GoSem.Claim
import GoSem.ClaimJoined
import GoSem.ClaimMapViews
import Derived.JoinedTies
import Derived.KernelRfl
namespace Go.Proofs.Ytjkbkmbblidipaa
/- THE CELL 'sum', in the pinned program and in every row, IS THE sha256 OF THE DUMP (.gsa) THAT YtjkbkmbblidipaaProg.lean LOADS. Nothing in Lean hashes anything: it is a label: what it is worth is what the hold of that sum in a sandbox is worth. -/
noncomputable def Try.pinned : Pinned := { name := "ytjkbkmbblidipaa", sum := "d8efff98c986ccb3ead3890e96e983c9719e707161261c0c799fadc3043c4b80", checked := Try.checked }
namespace Rows
def none {H : Type} : Left H := { results := [], args := [] }

/-- 'farandolelaw13.ZoneClose': WHATEVER THE INPUT: true; the input reads as it did. -/
def zoneCloseSpec : ChangeSpec := { name := "zoneClose", fn := fun _ => fun
  | [d1, d2] => { results := [.lit (.bool true)], args := [d1, d2] }
  | _ => none }
def zoneCloseRow : OpenClaim := { program := "ytjkbkmbblidipaa", sum := "d8efff98c986ccb3ead3890e96e983c9719e707161261c0c799fadc3043c4b80", func := "farandole/farandolelaw13.ZoneClose", spec := "zoneClose", apart := false }
def ZoneCloseSaid : Prop := zoneCloseRow.holds Try.pinned (OpenSpec.ofChange zoneCloseSpec)

/-- ITS FALSE NEIGHBOUR: 'it returns false'. Refute it at one input. -/
def zoneCloseWrong : ChangeSpec := { name := "zoneClose", fn := fun _ => fun
  | [d1, d2] => { results := [.lit (.bool false)], args := [d1, d2] }
  | _ => none }
def ZoneCloseWrongFalsely : Prop := zoneCloseRow.holds Try.pinned (OpenSpec.ofChange zoneCloseWrong)

/-- 'farandolelaw13.ZoneAdd': WHATEVER THE INPUT: true; the input reads as it did. -/
def zoneAddSpec : ChangeSpec := { name := "zoneAdd", fn := fun _ => fun
  | [d1, d2, d3] => { results := [.lit (.bool true)], args := [d1, d2, d3] }
  | _ => none }
def zoneAddRow : OpenClaim := { program := "ytjkbkmbblidipaa", sum := "d8efff98c986ccb3ead3890e96e983c9719e707161261c0c799fadc3043c4b80", func := "farandole/farandolelaw13.ZoneAdd", spec := "zoneAdd", apart := false }
def ZoneAddSaid : Prop := zoneAddRow.holds Try.pinned (OpenSpec.ofChange zoneAddSpec)

/-- ITS FALSE NEIGHBOUR: 'it returns false'. Refute it at one input. -/
def zoneAddWrong : ChangeSpec := { name := "zoneAdd", fn := fun _ => fun
  | [d1, d2, d3] => { results := [.lit (.bool false)], args := [d1, d2, d3] }
  | _ => none }
def ZoneAddWrongFalsely : Prop := zoneAddRow.holds Try.pinned (OpenSpec.ofChange zoneAddWrong)

/-- 'farandolelaw13.ZoneHolds': WHATEVER THE INPUT: true; the input reads as it did. -/
def zoneHoldsSpec : ChangeSpec := { name := "zoneHolds", fn := fun _ => fun
  | [d1, d2] => { results := [.lit (.bool true)], args := [d1, d2] }
  | _ => none }
def zoneHoldsRow : OpenClaim := { program := "ytjkbkmbblidipaa", sum := "d8efff98c986ccb3ead3890e96e983c9719e707161261c0c799fadc3043c4b80", func := "farandole/farandolelaw13.ZoneHolds", spec := "zoneHolds", unfollowed := true, recurses := true, apart := false }
def ZoneHoldsSaid : Prop := zoneHoldsRow.holds Try.pinned (OpenSpec.ofChange zoneHoldsSpec)

/-- ITS FALSE NEIGHBOUR: 'it returns false'. Refute it at one input. -/
def zoneHoldsWrong : ChangeSpec := { name := "zoneHolds", fn := fun _ => fun
  | [d1, d2] => { results := [.lit (.bool false)], args := [d1, d2] }
  | _ => none }
def ZoneHoldsWrongFalsely : Prop := zoneHoldsRow.holds Try.pinned (OpenSpec.ofChange zoneHoldsWrong)

/-- 'farandolelaw13.ZoneModels': WHATEVER THE INPUT: true; the input reads as it did. -/
def zoneModelsSpec : ChangeSpec := { name := "zoneModels", fn := fun _ => fun
  | [d1, d2] => { results := [.lit (.bool true)], args := [d1, d2] }
  | _ => none }
def zoneModelsRow : OpenClaim := { program := "ytjkbkmbblidipaa", sum := "d8efff98c986ccb3ead3890e96e983c9719e707161261c0c799fadc3043c4b80", func := "farandole/farandolelaw13.ZoneModels", spec := "zoneModels", unfollowed := true, recurses := true, apart := false }
def ZoneModelsSaid : Prop := zoneModelsRow.holds Try.pinned (OpenSpec.ofChange zoneModelsSpec)

/-- ITS FALSE NEIGHBOUR: 'it returns false'. Refute it at one input. -/
def zoneModelsWrong : ChangeSpec := { name := "zoneModels", fn := fun _ => fun
  | [d1, d2] => { results := [.lit (.bool false)], args := [d1, d2] }
  | _ => none }
def ZoneModelsWrongFalsely : Prop := zoneModelsRow.holds Try.pinned (OpenSpec.ofChange zoneModelsWrong)

/-- 'farandolelaw13.ZoneStops': WHATEVER THE INPUT: true; the input reads as it did. -/
def zoneStopsSpec : ChangeSpec := { name := "zoneStops", fn := fun _ => fun
  | [d] => { results := [.lit (.bool true)], args := [d] }
  | _ => none }
def zoneStopsRow : OpenClaim := { program := "ytjkbkmbblidipaa", sum := "d8efff98c986ccb3ead3890e96e983c9719e707161261c0c799fadc3043c4b80", func := "farandole/farandolelaw13.ZoneStops", spec := "zoneStops", apart := false }
def ZoneStopsSaid : Prop := zoneStopsRow.holds Try.pinned (OpenSpec.ofChange zoneStopsSpec)

/-- ITS FALSE NEIGHBOUR: 'it returns false'. Refute it at one input. -/
def zoneStopsWrong : ChangeSpec := { name := "zoneStops", fn := fun _ => fun
  | [d] => { results := [.lit (.bool false)], args := [d] }
  | _ => none }
def ZoneStopsWrongFalsely : Prop := zoneStopsRow.holds Try.pinned (OpenSpec.ofChange zoneStopsWrong)

/-- 'farandolelaw13.ZoneImplies': WHATEVER THE INPUT: true; the input reads as it did. -/
def zoneImpliesSpec : ChangeSpec := { name := "zoneImplies", fn := fun _ => fun
  | [d1, d2] => { results := [.lit (.bool true)], args := [d1, d2] }
  | _ => none }
def zoneImpliesRow : OpenClaim := { program := "ytjkbkmbblidipaa", sum := "d8efff98c986ccb3ead3890e96e983c9719e707161261c0c799fadc3043c4b80", func := "farandole/farandolelaw13.ZoneImplies", spec := "zoneImplies", unfollowed := true, recurses := true, apart := false }
def ZoneImpliesSaid : Prop := zoneImpliesRow.holds Try.pinned (OpenSpec.ofChange zoneImpliesSpec)

/-- ITS FALSE NEIGHBOUR: 'it returns false'. Refute it at one input. -/
def zoneImpliesWrong : ChangeSpec := { name := "zoneImplies", fn := fun _ => fun
  | [d1, d2] => { results := [.lit (.bool false)], args := [d1, d2] }
  | _ => none }
def ZoneImpliesWrongFalsely : Prop := zoneImpliesRow.holds Try.pinned (OpenSpec.ofChange zoneImpliesWrong)

/-- 'farandolelaw13.ZoneForget': WHATEVER THE INPUT: true; the input reads as it did. -/
def zoneForgetSpec : ChangeSpec := { name := "zoneForget", fn := fun _ => fun
  | [d1, d2, d3] => { results := [.lit (.bool true)], args := [d1, d2, d3] }
  | _ => none }
def zoneForgetRow : OpenClaim := { program := "ytjkbkmbblidipaa", sum := "d8efff98c986ccb3ead3890e96e983c9719e707161261c0c799fadc3043c4b80", func := "farandole/farandolelaw13.ZoneForget", spec := "zoneForget", unfollowed := true, recurses := true, apart := false }
def ZoneForgetSaid : Prop := zoneForgetRow.holds Try.pinned (OpenSpec.ofChange zoneForgetSpec)

/-- ITS FALSE NEIGHBOUR: 'it returns false'. Refute it at one input. -/
def zoneForgetWrong : ChangeSpec := { name := "zoneForget", fn := fun _ => fun
  | [d1, d2, d3] => { results := [.lit (.bool false)], args := [d1, d2, d3] }
  | _ => none }
def ZoneForgetWrongFalsely : Prop := zoneForgetRow.holds Try.pinned (OpenSpec.ofChange zoneForgetWrong)

/-- 'farandolelaw13.ZoneUnion': WHATEVER THE INPUT: true; the input reads as it did. -/
def zoneUnionSpec : ChangeSpec := { name := "zoneUnion", fn := fun _ => fun
  | [d1, d2] => { results := [.lit (.bool true)], args := [d1, d2] }
  | _ => none }
def zoneUnionRow : OpenClaim := { program := "ytjkbkmbblidipaa", sum := "d8efff98c986ccb3ead3890e96e983c9719e707161261c0c799fadc3043c4b80", func := "farandole/farandolelaw13.ZoneUnion", spec := "zoneUnion", apart := false }
def ZoneUnionSaid : Prop := zoneUnionRow.holds Try.pinned (OpenSpec.ofChange zoneUnionSpec)

/-- ITS FALSE NEIGHBOUR: 'it returns false'. Refute it at one input. -/
def zoneUnionWrong : ChangeSpec := { name := "zoneUnion", fn := fun _ => fun
  | [d1, d2] => { results := [.lit (.bool false)], args := [d1, d2] }
  | _ => none }
def ZoneUnionWrongFalsely : Prop := zoneUnionRow.holds Try.pinned (OpenSpec.ofChange zoneUnionWrong)

/-- 'farandolelaw13.ZoneLeast': WHATEVER THE INPUT: true; the input reads as it did. -/
def zoneLeastSpec : ChangeSpec := { name := "zoneLeast", fn := fun _ => fun
  | [d1, d2, d3] => { results := [.lit (.bool true)], args := [d1, d2, d3] }
  | _ => none }
def zoneLeastRow : OpenClaim := { program := "ytjkbkmbblidipaa", sum := "d8efff98c986ccb3ead3890e96e983c9719e707161261c0c799fadc3043c4b80", func := "farandole/farandolelaw13.ZoneLeast", spec := "zoneLeast", apart := false }
def ZoneLeastSaid : Prop := zoneLeastRow.holds Try.pinned (OpenSpec.ofChange zoneLeastSpec)

/-- ITS FALSE NEIGHBOUR: 'it returns false'. Refute it at one input. -/
def zoneLeastWrong : ChangeSpec := { name := "zoneLeast", fn := fun _ => fun
  | [d1, d2, d3] => { results := [.lit (.bool false)], args := [d1, d2, d3] }
  | _ => none }
def ZoneLeastWrongFalsely : Prop := zoneLeastRow.holds Try.pinned (OpenSpec.ofChange zoneLeastWrong)

/- THE SECOND FORM. 'bulk': how many values and letters a reading holds, each counted each time it is reached (what is shared counts as often as it is met; a slice's spare places count too). A statement '..UptoSaid' is the law's where the arguments, and the package variables that the reading takes, are together of bulk at most 1048576: NARROWER than '..Said'. Prove '..Said' where nothing that the law and all that it calls make is longer than what came in: it says more and counts as full. Else prove '..UptoSaid'. A law counts once. -/
mutual
def uptoBulk {H : Type} : DataW H → Nat
  | .lit (.string bytes) => bytes.length + 1
  | .lit _ => 1
  | .nil => 1
  | .ptr d => uptoBulk d + 1
  | .slice elems spare => uptoBulkAll elems + uptoBulkAll spare + 1
  | .agg parts => uptoBulkAll parts + 1
  | .iface _ d => uptoBulk d + 1
  | .map entries => uptoBulkEntries entries + 1
  | .held _ => 1
def uptoBulkAll {H : Type} : List (DataW H) → Nat
  | [] => 0
  | d :: r => uptoBulk d + uptoBulkAll r
def uptoBulkEntries {H : Type} : List (Lit × DataW H) → Nat
  | [] => 0
  | x :: r => uptoBulkEntry x + uptoBulkEntries r
def uptoBulkEntry {H : Type} : Lit × DataW H → Nat
  | (.string bytes, d) => bytes.length + uptoBulk d + 1
  | (_, d) => uptoBulk d + 1
 end
def uptoSmall : (H : Type) → List (DataW H) → Bool := fun _ ds => decide (uptoBulkAll ds ≤ 1048576)
def OpenSpec.upto (s : _root_.Go.ChangeSpec) : _root_.Go.OpenSpec := { _root_.Go.OpenSpec.ofChange s with cond := some uptoSmall }

/-- 'farandolelaw13.ZoneClose', WHERE WHAT IT READS IS OF BULK AT MOST 1048576: true; the input reads as it did. -/
def zoneCloseUptoRow : OpenClaim := { program := "ytjkbkmbblidipaa", sum := "d8efff98c986ccb3ead3890e96e983c9719e707161261c0c799fadc3043c4b80", func := "farandole/farandolelaw13.ZoneClose", spec := "zoneClose", apart := false, narrowed := true }
def ZoneCloseUptoSaid : Prop := zoneCloseUptoRow.holds Try.pinned (OpenSpec.upto zoneCloseSpec)

/-- 'farandolelaw13.ZoneAdd', WHERE WHAT IT READS IS OF BULK AT MOST 1048576: true; the input reads as it did. -/
def zoneAddUptoRow : OpenClaim := { program := "ytjkbkmbblidipaa", sum := "d8efff98c986ccb3ead3890e96e983c9719e707161261c0c799fadc3043c4b80", func := "farandole/farandolelaw13.ZoneAdd", spec := "zoneAdd", apart := false, narrowed := true }
def ZoneAddUptoSaid : Prop := zoneAddUptoRow.holds Try.pinned (OpenSpec.upto zoneAddSpec)

/-- 'farandolelaw13.ZoneHolds', WHERE WHAT IT READS IS OF BULK AT MOST 1048576: true; the input reads as it did. -/
def zoneHoldsUptoRow : OpenClaim := { program := "ytjkbkmbblidipaa", sum := "d8efff98c986ccb3ead3890e96e983c9719e707161261c0c799fadc3043c4b80", func := "farandole/farandolelaw13.ZoneHolds", spec := "zoneHolds", unfollowed := true, recurses := true, apart := false, narrowed := true }
def ZoneHoldsUptoSaid : Prop := zoneHoldsUptoRow.holds Try.pinned (OpenSpec.upto zoneHoldsSpec)

/-- 'farandolelaw13.ZoneModels', WHERE WHAT IT READS IS OF BULK AT MOST 1048576: true; the input reads as it did. -/
def zoneModelsUptoRow : OpenClaim := { program := "ytjkbkmbblidipaa", sum := "d8efff98c986ccb3ead3890e96e983c9719e707161261c0c799fadc3043c4b80", func := "farandole/farandolelaw13.ZoneModels", spec := "zoneModels", unfollowed := true, recurses := true, apart := false, narrowed := true }
def ZoneModelsUptoSaid : Prop := zoneModelsUptoRow.holds Try.pinned (OpenSpec.upto zoneModelsSpec)

/-- 'farandolelaw13.ZoneStops', WHERE WHAT IT READS IS OF BULK AT MOST 1048576: true; the input reads as it did. -/
def zoneStopsUptoRow : OpenClaim := { program := "ytjkbkmbblidipaa", sum := "d8efff98c986ccb3ead3890e96e983c9719e707161261c0c799fadc3043c4b80", func := "farandole/farandolelaw13.ZoneStops", spec := "zoneStops", apart := false, narrowed := true }
def ZoneStopsUptoSaid : Prop := zoneStopsUptoRow.holds Try.pinned (OpenSpec.upto zoneStopsSpec)

/-- 'farandolelaw13.ZoneImplies', WHERE WHAT IT READS IS OF BULK AT MOST 1048576: true; the input reads as it did. -/
def zoneImpliesUptoRow : OpenClaim := { program := "ytjkbkmbblidipaa", sum := "d8efff98c986ccb3ead3890e96e983c9719e707161261c0c799fadc3043c4b80", func := "farandole/farandolelaw13.ZoneImplies", spec := "zoneImplies", unfollowed := true, recurses := true, apart := false, narrowed := true }
def ZoneImpliesUptoSaid : Prop := zoneImpliesUptoRow.holds Try.pinned (OpenSpec.upto zoneImpliesSpec)

/-- 'farandolelaw13.ZoneForget', WHERE WHAT IT READS IS OF BULK AT MOST 1048576: true; the input reads as it did. -/
def zoneForgetUptoRow : OpenClaim := { program := "ytjkbkmbblidipaa", sum := "d8efff98c986ccb3ead3890e96e983c9719e707161261c0c799fadc3043c4b80", func := "farandole/farandolelaw13.ZoneForget", spec := "zoneForget", unfollowed := true, recurses := true, apart := false, narrowed := true }
def ZoneForgetUptoSaid : Prop := zoneForgetUptoRow.holds Try.pinned (OpenSpec.upto zoneForgetSpec)

/-- 'farandolelaw13.ZoneUnion', WHERE WHAT IT READS IS OF BULK AT MOST 1048576: true; the input reads as it did. -/
def zoneUnionUptoRow : OpenClaim := { program := "ytjkbkmbblidipaa", sum := "d8efff98c986ccb3ead3890e96e983c9719e707161261c0c799fadc3043c4b80", func := "farandole/farandolelaw13.ZoneUnion", spec := "zoneUnion", apart := false, narrowed := true }
def ZoneUnionUptoSaid : Prop := zoneUnionUptoRow.holds Try.pinned (OpenSpec.upto zoneUnionSpec)

/-- 'farandolelaw13.ZoneLeast', WHERE WHAT IT READS IS OF BULK AT MOST 1048576: true; the input reads as it did. -/
def zoneLeastUptoRow : OpenClaim := { program := "ytjkbkmbblidipaa", sum := "d8efff98c986ccb3ead3890e96e983c9719e707161261c0c799fadc3043c4b80", func := "farandole/farandolelaw13.ZoneLeast", spec := "zoneLeast", apart := false, narrowed := true }
def ZoneLeastUptoSaid : Prop := zoneLeastUptoRow.holds Try.pinned (OpenSpec.upto zoneLeastSpec)

end Rows
end Go.Proofs.Ytjkbkmbblidipaa
