/-
  No cell of these rows narrows 'for every input' (looked for: loops, veiled, ifaces, maps, wideKeys, modest, calm, conditions, laid).
  DERIVED. THE GIVEN ROWS OF THIS SEAT. 7 by the template 'for every input the law returns true; each argument reads behind the call as it read before'; 0 by the template 'total and deterministic' (their statements: YtbanngdijmglbaaTotals.lean).
  GIVEN WITH THE SEED: the statements are not yours to turn. If you find one false, say at which input.
  Laid BY PROGRAM, IN A SANDBOX (cutbox-rows.mjs): the forced cells as the released guide's own fill.sh prints them over the translation 1a0e32addb5002cb… (all of the seat's roots in one cut). By AI agents, Wed Nov 11 2026. No macro, syntax, notation, axiom, sorry.
-/
import Derived.Test.YtbanngdijmglbaaChecked
import GoSem.Claim
import GoSem.ClaimJoined
import GoSem.ClaimMapViews
import Derived.JoinedTies
import Derived.KernelRfl
namespace Go.Proofs.Ytbanngdijmglbaa
/- THE CELL 'sum', in the pinned program and in every row, IS THE sha256 OF THE DUMP (.gsa) THAT YtbanngdijmglbaaProg.lean LOADS. Nothing in Lean hashes anything: it is a label: what it is worth is what the hold of that sum in a sandbox is worth. -/
noncomputable def Try.pinned : Pinned := { name := "ytbanngdijmglbaa", sum := "1a0e32addb5002cb333f41c1f5acec3c3f611c4de0385a5351d12f8e5c27b01f", checked := Try.checked }
namespace Rows
def none {H : Type} : Left H := { results := [], args := [] }

/-- 'farandolelaw57.LogAppend': WHATEVER THE INPUT: true; the input reads as it did. -/
def logAppendSpec : ChangeSpec := { name := "logAppend", fn := fun _ => fun
  | [d1, d2] => { results := [.lit (.bool true)], args := [d1, d2] }
  | _ => none }
def logAppendRow : OpenClaim := { program := "ytbanngdijmglbaa", sum := "1a0e32addb5002cb333f41c1f5acec3c3f611c4de0385a5351d12f8e5c27b01f", func := "farandole/farandolelaw57.LogAppend", spec := "logAppend", apart := false }
def LogAppendSaid : Prop := logAppendRow.holds Try.pinned (OpenSpec.ofChange logAppendSpec)

/-- ITS FALSE NEIGHBOUR: 'it returns false'. Refute it at one input. -/
def logAppendWrong : ChangeSpec := { name := "logAppend", fn := fun _ => fun
  | [d1, d2] => { results := [.lit (.bool false)], args := [d1, d2] }
  | _ => none }
def LogAppendWrongFalsely : Prop := logAppendRow.holds Try.pinned (OpenSpec.ofChange logAppendWrong)

/-- 'farandolelaw57.LogMerge': WHATEVER THE INPUT: true; the input reads as it did. -/
def logMergeSpec : ChangeSpec := { name := "logMerge", fn := fun _ => fun
  | [d] => { results := [.lit (.bool true)], args := [d] }
  | _ => none }
def logMergeRow : OpenClaim := { program := "ytbanngdijmglbaa", sum := "1a0e32addb5002cb333f41c1f5acec3c3f611c4de0385a5351d12f8e5c27b01f", func := "farandole/farandolelaw57.LogMerge", spec := "logMerge", apart := false }
def LogMergeSaid : Prop := logMergeRow.holds Try.pinned (OpenSpec.ofChange logMergeSpec)

/-- ITS FALSE NEIGHBOUR: 'it returns false'. Refute it at one input. -/
def logMergeWrong : ChangeSpec := { name := "logMerge", fn := fun _ => fun
  | [d] => { results := [.lit (.bool false)], args := [d] }
  | _ => none }
def LogMergeWrongFalsely : Prop := logMergeRow.holds Try.pinned (OpenSpec.ofChange logMergeWrong)

/-- 'farandolelaw57.LogRecord': WHATEVER THE INPUT: true; the input reads as it did. -/
def logRecordSpec : ChangeSpec := { name := "logRecord", fn := fun _ => fun
  | [d] => { results := [.lit (.bool true)], args := [d] }
  | _ => none }
def logRecordRow : OpenClaim := { program := "ytbanngdijmglbaa", sum := "1a0e32addb5002cb333f41c1f5acec3c3f611c4de0385a5351d12f8e5c27b01f", func := "farandole/farandolelaw57.LogRecord", spec := "logRecord", apart := false }
def LogRecordSaid : Prop := logRecordRow.holds Try.pinned (OpenSpec.ofChange logRecordSpec)

/-- ITS FALSE NEIGHBOUR: 'it returns false'. Refute it at one input. -/
def logRecordWrong : ChangeSpec := { name := "logRecord", fn := fun _ => fun
  | [d] => { results := [.lit (.bool false)], args := [d] }
  | _ => none }
def LogRecordWrongFalsely : Prop := logRecordRow.holds Try.pinned (OpenSpec.ofChange logRecordWrong)

/-- 'farandolelaw57.LogCausal': WHATEVER THE INPUT: true; the input reads as it did. -/
def logCausalSpec : ChangeSpec := { name := "logCausal", fn := fun _ => fun
  | [d] => { results := [.lit (.bool true)], args := [d] }
  | _ => none }
def logCausalRow : OpenClaim := { program := "ytbanngdijmglbaa", sum := "1a0e32addb5002cb333f41c1f5acec3c3f611c4de0385a5351d12f8e5c27b01f", func := "farandole/farandolelaw57.LogCausal", spec := "logCausal", apart := false }
def LogCausalSaid : Prop := logCausalRow.holds Try.pinned (OpenSpec.ofChange logCausalSpec)

/-- ITS FALSE NEIGHBOUR: 'it returns false'. Refute it at one input. -/
def logCausalWrong : ChangeSpec := { name := "logCausal", fn := fun _ => fun
  | [d] => { results := [.lit (.bool false)], args := [d] }
  | _ => none }
def LogCausalWrongFalsely : Prop := logCausalRow.holds Try.pinned (OpenSpec.ofChange logCausalWrong)

/-- 'farandolelaw57.LogBeginnings': WHATEVER THE INPUT: true; the input reads as it did. -/
def logBeginningsSpec : ChangeSpec := { name := "logBeginnings", fn := fun _ => fun
  | [d1, d2] => { results := [.lit (.bool true)], args := [d1, d2] }
  | _ => none }
def logBeginningsRow : OpenClaim := { program := "ytbanngdijmglbaa", sum := "1a0e32addb5002cb333f41c1f5acec3c3f611c4de0385a5351d12f8e5c27b01f", func := "farandole/farandolelaw57.LogBeginnings", spec := "logBeginnings", apart := false }
def LogBeginningsSaid : Prop := logBeginningsRow.holds Try.pinned (OpenSpec.ofChange logBeginningsSpec)

/-- ITS FALSE NEIGHBOUR: 'it returns false'. Refute it at one input. -/
def logBeginningsWrong : ChangeSpec := { name := "logBeginnings", fn := fun _ => fun
  | [d1, d2] => { results := [.lit (.bool false)], args := [d1, d2] }
  | _ => none }
def LogBeginningsWrongFalsely : Prop := logBeginningsRow.holds Try.pinned (OpenSpec.ofChange logBeginningsWrong)

/-- 'farandolelaw57.LogChanged': WHATEVER THE INPUT: true; the input reads as it did. -/
def logChangedSpec : ChangeSpec := { name := "logChanged", fn := fun _ => fun
  | [d1, d2, d3] => { results := [.lit (.bool true)], args := [d1, d2, d3] }
  | _ => none }
def logChangedRow : OpenClaim := { program := "ytbanngdijmglbaa", sum := "1a0e32addb5002cb333f41c1f5acec3c3f611c4de0385a5351d12f8e5c27b01f", func := "farandole/farandolelaw57.LogChanged", spec := "logChanged", apart := false }
def LogChangedSaid : Prop := logChangedRow.holds Try.pinned (OpenSpec.ofChange logChangedSpec)

/-- ITS FALSE NEIGHBOUR: 'it returns false'. Refute it at one input. -/
def logChangedWrong : ChangeSpec := { name := "logChanged", fn := fun _ => fun
  | [d1, d2, d3] => { results := [.lit (.bool false)], args := [d1, d2, d3] }
  | _ => none }
def LogChangedWrongFalsely : Prop := logChangedRow.holds Try.pinned (OpenSpec.ofChange logChangedWrong)

/-- 'farandolelaw57.LogDecode': WHATEVER THE INPUT: true; the input reads as it did. -/
def logDecodeSpec : ChangeSpec := { name := "logDecode", fn := fun _ => fun
  | [d] => { results := [.lit (.bool true)], args := [d] }
  | _ => none }
def logDecodeRow : OpenClaim := { program := "ytbanngdijmglbaa", sum := "1a0e32addb5002cb333f41c1f5acec3c3f611c4de0385a5351d12f8e5c27b01f", func := "farandole/farandolelaw57.LogDecode", spec := "logDecode", unfollowed := true, recurses := true, apart := false }
def LogDecodeSaid : Prop := logDecodeRow.holds Try.pinned (OpenSpec.ofChange logDecodeSpec)

/-- ITS FALSE NEIGHBOUR: 'it returns false'. Refute it at one input. -/
def logDecodeWrong : ChangeSpec := { name := "logDecode", fn := fun _ => fun
  | [d] => { results := [.lit (.bool false)], args := [d] }
  | _ => none }
def LogDecodeWrongFalsely : Prop := logDecodeRow.holds Try.pinned (OpenSpec.ofChange logDecodeWrong)

/- THE SECOND FORM. 'bulk': how many values and letters a reading holds, each counted each time it is reached (what is shared counts as often as it is met; a slice's spare places count too). A statement '..UptoSaid' is the law's where the arguments, and the package variables that the reading takes, are together of bulk at most 1048576: NARROWER than '..Said'. Prove '..Said' where nothing that the law and all that it calls make is longer than what came in: it says more and counts as full. Else prove '..UptoSaid'. A law counts once. -/
mutual
def uptoBulk {H : Type} : DataW H → Nat
  | .lit (.string bytes) => bytes.length + 1
  | .lit _ => 1
  | .nil => 1
  | .ptr d => uptoBulk d + 1
  | .slice elems spare => uptoBulkAll elems + uptoBulkAll spare + 1
  | .agg parts => uptoBulkAll parts + 1
  | .iface _ d => uptoBulk d + 1
  | .map entries => uptoBulkEntries entries + 1
  | .held _ => 1
def uptoBulkAll {H : Type} : List (DataW H) → Nat
  | [] => 0
  | d :: r => uptoBulk d + uptoBulkAll r
def uptoBulkEntries {H : Type} : List (Lit × DataW H) → Nat
  | [] => 0
  | x :: r => uptoBulkEntry x + uptoBulkEntries r
def uptoBulkEntry {H : Type} : Lit × DataW H → Nat
  | (.string bytes, d) => bytes.length + uptoBulk d + 1
  | (_, d) => uptoBulk d + 1
 end
def uptoSmall : (H : Type) → List (DataW H) → Bool := fun _ ds => decide (uptoBulkAll ds ≤ 1048576)
def OpenSpec.upto (s : _root_.Go.ChangeSpec) : _root_.Go.OpenSpec := { _root_.Go.OpenSpec.ofChange s with cond := some uptoSmall }

/-- 'farandolelaw57.LogAppend', WHERE WHAT IT READS IS OF BULK AT MOST 1048576: true; the input reads as it did. -/
def logAppendUptoRow : OpenClaim := { program := "ytbanngdijmglbaa", sum := "1a0e32addb5002cb333f41c1f5acec3c3f611c4de0385a5351d12f8e5c27b01f", func := "farandole/farandolelaw57.LogAppend", spec := "logAppend", apart := false, narrowed := true }
def LogAppendUptoSaid : Prop := logAppendUptoRow.holds Try.pinned (OpenSpec.upto logAppendSpec)

/-- 'farandolelaw57.LogMerge', WHERE WHAT IT READS IS OF BULK AT MOST 1048576: true; the input reads as it did. -/
def logMergeUptoRow : OpenClaim := { program := "ytbanngdijmglbaa", sum := "1a0e32addb5002cb333f41c1f5acec3c3f611c4de0385a5351d12f8e5c27b01f", func := "farandole/farandolelaw57.LogMerge", spec := "logMerge", apart := false, narrowed := true }
def LogMergeUptoSaid : Prop := logMergeUptoRow.holds Try.pinned (OpenSpec.upto logMergeSpec)

/-- 'farandolelaw57.LogRecord', WHERE WHAT IT READS IS OF BULK AT MOST 1048576: true; the input reads as it did. -/
def logRecordUptoRow : OpenClaim := { program := "ytbanngdijmglbaa", sum := "1a0e32addb5002cb333f41c1f5acec3c3f611c4de0385a5351d12f8e5c27b01f", func := "farandole/farandolelaw57.LogRecord", spec := "logRecord", apart := false, narrowed := true }
def LogRecordUptoSaid : Prop := logRecordUptoRow.holds Try.pinned (OpenSpec.upto logRecordSpec)

/-- 'farandolelaw57.LogCausal', WHERE WHAT IT READS IS OF BULK AT MOST 1048576: true; the input reads as it did. -/
def logCausalUptoRow : OpenClaim := { program := "ytbanngdijmglbaa", sum := "1a0e32addb5002cb333f41c1f5acec3c3f611c4de0385a5351d12f8e5c27b01f", func := "farandole/farandolelaw57.LogCausal", spec := "logCausal", apart := false, narrowed := true }
def LogCausalUptoSaid : Prop := logCausalUptoRow.holds Try.pinned (OpenSpec.upto logCausalSpec)

/-- 'farandolelaw57.LogBeginnings', WHERE WHAT IT READS IS OF BULK AT MOST 1048576: true; the input reads as it did. -/
def logBeginningsUptoRow : OpenClaim := { program := "ytbanngdijmglbaa", sum := "1a0e32addb5002cb333f41c1f5acec3c3f611c4de0385a5351d12f8e5c27b01f", func := "farandole/farandolelaw57.LogBeginnings", spec := "logBeginnings", apart := false, narrowed := true }
def LogBeginningsUptoSaid : Prop := logBeginningsUptoRow.holds Try.pinned (OpenSpec.upto logBeginningsSpec)

/-- 'farandolelaw57.LogChanged', WHERE WHAT IT READS IS OF BULK AT MOST 1048576: true; the input reads as it did. -/
def logChangedUptoRow : OpenClaim := { program := "ytbanngdijmglbaa", sum := "1a0e32addb5002cb333f41c1f5acec3c3f611c4de0385a5351d12f8e5c27b01f", func := "farandole/farandolelaw57.LogChanged", spec := "logChanged", apart := false, narrowed := true }
def LogChangedUptoSaid : Prop := logChangedUptoRow.holds Try.pinned (OpenSpec.upto logChangedSpec)

/-- 'farandolelaw57.LogDecode', WHERE WHAT IT READS IS OF BULK AT MOST 1048576: true; the input reads as it did. -/
def logDecodeUptoRow : OpenClaim := { program := "ytbanngdijmglbaa", sum := "1a0e32addb5002cb333f41c1f5acec3c3f611c4de0385a5351d12f8e5c27b01f", func := "farandole/farandolelaw57.LogDecode", spec := "logDecode", unfollowed := true, recurses := true, apart := false, narrowed := true }
def LogDecodeUptoSaid : Prop := logDecodeUptoRow.holds Try.pinned (OpenSpec.upto logDecodeSpec)

end Rows
end Go.Proofs.Ytbanngdijmglbaa
