/-
  No cell of these rows narrows 'for every input' (looked for: loops, veiled, ifaces, maps, wideKeys, modest, calm, conditions, laid).
  DERIVED. THE GIVEN ROWS OF THIS SEAT. 14 by the template 'for every input the law returns true; each argument reads behind the call as it read before'; 0 by the template 'total and deterministic' (their statements: YtgbhgjghlnknjaaTotals.lean).
  GIVEN WITH THE SEED: the statements are not yours to turn. If you find one false, say at which input.
  Laid BY PROGRAM, IN A SANDBOX (cutbox-rows.mjs): the forced cells as the released guide's own fill.sh prints them over the translation 40c6e0a72a31dba6… (all of the seat's roots in one cut). By AI agents, Wed Nov 11 2026. No macro, syntax, notation, axiom, sorry.
-/
import Derived.Test.YtgbhgjghlnknjaaChecked
import GoSem.Claim
import GoSem.ClaimJoined
import GoSem.ClaimMapViews
import Derived.JoinedTies
import Derived.KernelRfl
namespace Go.Proofs.Ytgbhgjghlnknjaa
/- THE CELL 'sum', in the pinned program and in every row, IS THE sha256 OF THE DUMP (.gsa) THAT YtgbhgjghlnknjaaProg.lean LOADS. Nothing in Lean hashes anything: it is a label: what it is worth is what the hold of that sum in a sandbox is worth. -/
noncomputable def Try.pinned : Pinned := { name := "ytgbhgjghlnknjaa", sum := "40c6e0a72a31dba638bc67c08fe10d8b01df75f91063c7631682ef6c98cbd0f8", checked := Try.checked }
namespace Rows
def none {H : Type} : Left H := { results := [], args := [] }

/-- 'bailifflaw12.FrameReads': WHATEVER THE INPUT: true; the input reads as it did. -/
def frameReadsSpec : ChangeSpec := { name := "frameReads", fn := fun _ => fun
  | [d] => { results := [.lit (.bool true)], args := [d] }
  | _ => none }
def frameReadsRow : OpenClaim := { program := "ytgbhgjghlnknjaa", sum := "40c6e0a72a31dba638bc67c08fe10d8b01df75f91063c7631682ef6c98cbd0f8", func := "bailiff/bailifflaw12.FrameReads", spec := "frameReads", unfollowed := true, recurses := true, apart := false }
def FrameReadsSaid : Prop := frameReadsRow.holds Try.pinned (OpenSpec.ofChange frameReadsSpec)

/-- ITS FALSE NEIGHBOUR: 'it returns false'. Refute it at one input. -/
def frameReadsWrong : ChangeSpec := { name := "frameReads", fn := fun _ => fun
  | [d] => { results := [.lit (.bool false)], args := [d] }
  | _ => none }
def FrameReadsWrongFalsely : Prop := frameReadsRow.holds Try.pinned (OpenSpec.ofChange frameReadsWrong)

/-- 'bailifflaw12.FrameKeys': WHATEVER THE INPUT: true; the input reads as it did. -/
def frameKeysSpec : ChangeSpec := { name := "frameKeys", fn := fun _ => fun
  | [d] => { results := [.lit (.bool true)], args := [d] }
  | _ => none }
def frameKeysRow : OpenClaim := { program := "ytgbhgjghlnknjaa", sum := "40c6e0a72a31dba638bc67c08fe10d8b01df75f91063c7631682ef6c98cbd0f8", func := "bailiff/bailifflaw12.FrameKeys", spec := "frameKeys", unfollowed := true, recurses := true, apart := false }
def FrameKeysSaid : Prop := frameKeysRow.holds Try.pinned (OpenSpec.ofChange frameKeysSpec)

/-- ITS FALSE NEIGHBOUR: 'it returns false'. Refute it at one input. -/
def frameKeysWrong : ChangeSpec := { name := "frameKeys", fn := fun _ => fun
  | [d] => { results := [.lit (.bool false)], args := [d] }
  | _ => none }
def FrameKeysWrongFalsely : Prop := frameKeysRow.holds Try.pinned (OpenSpec.ofChange frameKeysWrong)

/-- 'bailifflaw12.FrameApart': WHATEVER THE INPUT: true; the input reads as it did. -/
def frameApartSpec : ChangeSpec := { name := "frameApart", fn := fun _ => fun
  | [d1, d2] => { results := [.lit (.bool true)], args := [d1, d2] }
  | _ => none }
def frameApartRow : OpenClaim := { program := "ytgbhgjghlnknjaa", sum := "40c6e0a72a31dba638bc67c08fe10d8b01df75f91063c7631682ef6c98cbd0f8", func := "bailiff/bailifflaw12.FrameApart", spec := "frameApart", unfollowed := true, recurses := true, apart := false }
def FrameApartSaid : Prop := frameApartRow.holds Try.pinned (OpenSpec.ofChange frameApartSpec)

/-- ITS FALSE NEIGHBOUR: 'it returns false'. Refute it at one input. -/
def frameApartWrong : ChangeSpec := { name := "frameApart", fn := fun _ => fun
  | [d1, d2] => { results := [.lit (.bool false)], args := [d1, d2] }
  | _ => none }
def FrameApartWrongFalsely : Prop := frameApartRow.holds Try.pinned (OpenSpec.ofChange frameApartWrong)

/-- 'bailifflaw12.FrameLong': WHATEVER THE INPUT: true; the input reads as it did. -/
def frameLongSpec : ChangeSpec := { name := "frameLong", fn := fun _ => fun
  | [d1, d2] => { results := [.lit (.bool true)], args := [d1, d2] }
  | _ => none }
def frameLongRow : OpenClaim := { program := "ytgbhgjghlnknjaa", sum := "40c6e0a72a31dba638bc67c08fe10d8b01df75f91063c7631682ef6c98cbd0f8", func := "bailiff/bailifflaw12.FrameLong", spec := "frameLong", unfollowed := true, recurses := true, apart := false }
def FrameLongSaid : Prop := frameLongRow.holds Try.pinned (OpenSpec.ofChange frameLongSpec)

/-- ITS FALSE NEIGHBOUR: 'it returns false'. Refute it at one input. -/
def frameLongWrong : ChangeSpec := { name := "frameLong", fn := fun _ => fun
  | [d1, d2] => { results := [.lit (.bool false)], args := [d1, d2] }
  | _ => none }
def FrameLongWrongFalsely : Prop := frameLongRow.holds Try.pinned (OpenSpec.ofChange frameLongWrong)

/-- 'bailifflaw12.FramePrefixes': WHATEVER THE INPUT: true; the input reads as it did. -/
def framePrefixesSpec : ChangeSpec := { name := "framePrefixes", fn := fun _ => fun
  | [d1, d2] => { results := [.lit (.bool true)], args := [d1, d2] }
  | _ => none }
def framePrefixesRow : OpenClaim := { program := "ytgbhgjghlnknjaa", sum := "40c6e0a72a31dba638bc67c08fe10d8b01df75f91063c7631682ef6c98cbd0f8", func := "bailiff/bailifflaw12.FramePrefixes", spec := "framePrefixes", unfollowed := true, recurses := true, apart := false }
def FramePrefixesSaid : Prop := framePrefixesRow.holds Try.pinned (OpenSpec.ofChange framePrefixesSpec)

/-- ITS FALSE NEIGHBOUR: 'it returns false'. Refute it at one input. -/
def framePrefixesWrong : ChangeSpec := { name := "framePrefixes", fn := fun _ => fun
  | [d1, d2] => { results := [.lit (.bool false)], args := [d1, d2] }
  | _ => none }
def FramePrefixesWrongFalsely : Prop := framePrefixesRow.holds Try.pinned (OpenSpec.ofChange framePrefixesWrong)

/-- 'bailifflaw12.FramePads': WHATEVER THE INPUT: true; the input reads as it did. -/
def framePadsSpec : ChangeSpec := { name := "framePads", fn := fun _ => fun
  | [d1, d2] => { results := [.lit (.bool true)], args := [d1, d2] }
  | _ => none }
def framePadsRow : OpenClaim := { program := "ytgbhgjghlnknjaa", sum := "40c6e0a72a31dba638bc67c08fe10d8b01df75f91063c7631682ef6c98cbd0f8", func := "bailiff/bailifflaw12.FramePads", spec := "framePads", unfollowed := true, recurses := true, apart := false }
def FramePadsSaid : Prop := framePadsRow.holds Try.pinned (OpenSpec.ofChange framePadsSpec)

/-- ITS FALSE NEIGHBOUR: 'it returns false'. Refute it at one input. -/
def framePadsWrong : ChangeSpec := { name := "framePads", fn := fun _ => fun
  | [d1, d2] => { results := [.lit (.bool false)], args := [d1, d2] }
  | _ => none }
def FramePadsWrongFalsely : Prop := framePadsRow.holds Try.pinned (OpenSpec.ofChange framePadsWrong)

/-- 'bailifflaw26.ConfigTunes': WHATEVER THE INPUT: true; the input reads as it did. -/
def configTunesSpec : ChangeSpec := { name := "configTunes", fn := fun _ => fun
  | [d1, d2] => { results := [.lit (.bool true)], args := [d1, d2] }
  | _ => none }
def configTunesRow : OpenClaim := { program := "ytgbhgjghlnknjaa", sum := "40c6e0a72a31dba638bc67c08fe10d8b01df75f91063c7631682ef6c98cbd0f8", func := "bailiff/bailifflaw26.ConfigTunes", spec := "configTunes", apart := false }
def ConfigTunesSaid : Prop := configTunesRow.holds Try.pinned (OpenSpec.ofChange configTunesSpec)

/-- ITS FALSE NEIGHBOUR: 'it returns false'. Refute it at one input. -/
def configTunesWrong : ChangeSpec := { name := "configTunes", fn := fun _ => fun
  | [d1, d2] => { results := [.lit (.bool false)], args := [d1, d2] }
  | _ => none }
def ConfigTunesWrongFalsely : Prop := configTunesRow.holds Try.pinned (OpenSpec.ofChange configTunesWrong)

/-- 'bailifflaw26.ConfigBytes': WHATEVER THE INPUT: true; the input reads as it did. -/
def configBytesSpec : ChangeSpec := { name := "configBytes", fn := fun _ => fun
  | [d] => { results := [.lit (.bool true)], args := [d] }
  | _ => none }
def configBytesRow : OpenClaim := { program := "ytgbhgjghlnknjaa", sum := "40c6e0a72a31dba638bc67c08fe10d8b01df75f91063c7631682ef6c98cbd0f8", func := "bailiff/bailifflaw26.ConfigBytes", spec := "configBytes", apart := false }
def ConfigBytesSaid : Prop := configBytesRow.holds Try.pinned (OpenSpec.ofChange configBytesSpec)

/-- ITS FALSE NEIGHBOUR: 'it returns false'. Refute it at one input. -/
def configBytesWrong : ChangeSpec := { name := "configBytes", fn := fun _ => fun
  | [d] => { results := [.lit (.bool false)], args := [d] }
  | _ => none }
def ConfigBytesWrongFalsely : Prop := configBytesRow.holds Try.pinned (OpenSpec.ofChange configBytesWrong)

/-- 'bailifflaw26.ConfigReads': WHATEVER THE INPUT: true; the input reads as it did. -/
def configReadsSpec : ChangeSpec := { name := "configReads", fn := fun _ => fun
  | [d] => { results := [.lit (.bool true)], args := [d] }
  | _ => none }
def configReadsRow : OpenClaim := { program := "ytgbhgjghlnknjaa", sum := "40c6e0a72a31dba638bc67c08fe10d8b01df75f91063c7631682ef6c98cbd0f8", func := "bailiff/bailifflaw26.ConfigReads", spec := "configReads", apart := false }
def ConfigReadsSaid : Prop := configReadsRow.holds Try.pinned (OpenSpec.ofChange configReadsSpec)

/-- ITS FALSE NEIGHBOUR: 'it returns false'. Refute it at one input. -/
def configReadsWrong : ChangeSpec := { name := "configReads", fn := fun _ => fun
  | [d] => { results := [.lit (.bool false)], args := [d] }
  | _ => none }
def ConfigReadsWrongFalsely : Prop := configReadsRow.holds Try.pinned (OpenSpec.ofChange configReadsWrong)

/-- 'bailifflaw26.ConfigCuts': WHATEVER THE INPUT: true; the input reads as it did. -/
def configCutsSpec : ChangeSpec := { name := "configCuts", fn := fun _ => fun
  | [d1, d2, d3] => { results := [.lit (.bool true)], args := [d1, d2, d3] }
  | _ => none }
def configCutsRow : OpenClaim := { program := "ytgbhgjghlnknjaa", sum := "40c6e0a72a31dba638bc67c08fe10d8b01df75f91063c7631682ef6c98cbd0f8", func := "bailiff/bailifflaw26.ConfigCuts", spec := "configCuts", apart := false }
def ConfigCutsSaid : Prop := configCutsRow.holds Try.pinned (OpenSpec.ofChange configCutsSpec)

/-- ITS FALSE NEIGHBOUR: 'it returns false'. Refute it at one input. -/
def configCutsWrong : ChangeSpec := { name := "configCuts", fn := fun _ => fun
  | [d1, d2, d3] => { results := [.lit (.bool false)], args := [d1, d2, d3] }
  | _ => none }
def ConfigCutsWrongFalsely : Prop := configCutsRow.holds Try.pinned (OpenSpec.ofChange configCutsWrong)

/-- 'bailifflaw29.StatsOrder': WHATEVER THE INPUT: true; the input reads as it did. -/
def statsOrderSpec : ChangeSpec := { name := "statsOrder", fn := fun _ => fun
  | [d1, d2] => { results := [.lit (.bool true)], args := [d1, d2] }
  | _ => none }
def statsOrderRow : OpenClaim := { program := "ytgbhgjghlnknjaa", sum := "40c6e0a72a31dba638bc67c08fe10d8b01df75f91063c7631682ef6c98cbd0f8", func := "bailiff/bailifflaw29.StatsOrder", spec := "statsOrder", apart := false }
def StatsOrderSaid : Prop := statsOrderRow.holds Try.pinned (OpenSpec.ofChange statsOrderSpec)

/-- ITS FALSE NEIGHBOUR: 'it returns false'. Refute it at one input. -/
def statsOrderWrong : ChangeSpec := { name := "statsOrder", fn := fun _ => fun
  | [d1, d2] => { results := [.lit (.bool false)], args := [d1, d2] }
  | _ => none }
def StatsOrderWrongFalsely : Prop := statsOrderRow.holds Try.pinned (OpenSpec.ofChange statsOrderWrong)

/-- 'bailifflaw29.StatsRead': WHATEVER THE INPUT: true; the input reads as it did. -/
def statsReadSpec : ChangeSpec := { name := "statsRead", fn := fun _ => fun
  | [d] => { results := [.lit (.bool true)], args := [d] }
  | _ => none }
def statsReadRow : OpenClaim := { program := "ytgbhgjghlnknjaa", sum := "40c6e0a72a31dba638bc67c08fe10d8b01df75f91063c7631682ef6c98cbd0f8", func := "bailiff/bailifflaw29.StatsRead", spec := "statsRead", apart := false }
def StatsReadSaid : Prop := statsReadRow.holds Try.pinned (OpenSpec.ofChange statsReadSpec)

/-- ITS FALSE NEIGHBOUR: 'it returns false'. Refute it at one input. -/
def statsReadWrong : ChangeSpec := { name := "statsRead", fn := fun _ => fun
  | [d] => { results := [.lit (.bool false)], args := [d] }
  | _ => none }
def StatsReadWrongFalsely : Prop := statsReadRow.holds Try.pinned (OpenSpec.ofChange statsReadWrong)

/-- 'bailifflaw29.StatsCount': WHATEVER THE INPUT: true; the input reads as it did. -/
def statsCountSpec : ChangeSpec := { name := "statsCount", fn := fun _ => fun
  | [d] => { results := [.lit (.bool true)], args := [d] }
  | _ => none }
def statsCountRow : OpenClaim := { program := "ytgbhgjghlnknjaa", sum := "40c6e0a72a31dba638bc67c08fe10d8b01df75f91063c7631682ef6c98cbd0f8", func := "bailiff/bailifflaw29.StatsCount", spec := "statsCount", apart := false }
def StatsCountSaid : Prop := statsCountRow.holds Try.pinned (OpenSpec.ofChange statsCountSpec)

/-- ITS FALSE NEIGHBOUR: 'it returns false'. Refute it at one input. -/
def statsCountWrong : ChangeSpec := { name := "statsCount", fn := fun _ => fun
  | [d] => { results := [.lit (.bool false)], args := [d] }
  | _ => none }
def StatsCountWrongFalsely : Prop := statsCountRow.holds Try.pinned (OpenSpec.ofChange statsCountWrong)

/-- 'bailifflaw29.StatsNil': WHATEVER THE INPUT: true; the input reads as it did. -/
def statsNilSpec : ChangeSpec := { name := "statsNil", fn := fun _ => fun
  | [d1, d2] => { results := [.lit (.bool true)], args := [d1, d2] }
  | _ => none }
def statsNilRow : OpenClaim := { program := "ytgbhgjghlnknjaa", sum := "40c6e0a72a31dba638bc67c08fe10d8b01df75f91063c7631682ef6c98cbd0f8", func := "bailiff/bailifflaw29.StatsNil", spec := "statsNil", apart := false }
def StatsNilSaid : Prop := statsNilRow.holds Try.pinned (OpenSpec.ofChange statsNilSpec)

/-- ITS FALSE NEIGHBOUR: 'it returns false'. Refute it at one input. -/
def statsNilWrong : ChangeSpec := { name := "statsNil", fn := fun _ => fun
  | [d1, d2] => { results := [.lit (.bool false)], args := [d1, d2] }
  | _ => none }
def StatsNilWrongFalsely : Prop := statsNilRow.holds Try.pinned (OpenSpec.ofChange statsNilWrong)

/- THE SECOND FORM. 'bulk': how many values and letters a reading holds, each counted each time it is reached (what is shared counts as often as it is met; a slice's spare places count too). A statement '..UptoSaid' is the law's where the arguments, and the package variables that the reading takes, are together of bulk at most 1048576: NARROWER than '..Said'. Prove '..Said' where nothing that the law and all that it calls make is longer than what came in: it says more and counts as full. Else prove '..UptoSaid'. A law counts once. -/
mutual
def uptoBulk {H : Type} : DataW H → Nat
  | .lit (.string bytes) => bytes.length + 1
  | .lit _ => 1
  | .nil => 1
  | .ptr d => uptoBulk d + 1
  | .slice elems spare => uptoBulkAll elems + uptoBulkAll spare + 1
  | .agg parts => uptoBulkAll parts + 1
  | .iface _ d => uptoBulk d + 1
  | .map entries => uptoBulkEntries entries + 1
  | .held _ => 1
def uptoBulkAll {H : Type} : List (DataW H) → Nat
  | [] => 0
  | d :: r => uptoBulk d + uptoBulkAll r
def uptoBulkEntries {H : Type} : List (Lit × DataW H) → Nat
  | [] => 0
  | x :: r => uptoBulkEntry x + uptoBulkEntries r
def uptoBulkEntry {H : Type} : Lit × DataW H → Nat
  | (.string bytes, d) => bytes.length + uptoBulk d + 1
  | (_, d) => uptoBulk d + 1
 end
def uptoSmall : (H : Type) → List (DataW H) → Bool := fun _ ds => decide (uptoBulkAll ds ≤ 1048576)
def OpenSpec.upto (s : _root_.Go.ChangeSpec) : _root_.Go.OpenSpec := { _root_.Go.OpenSpec.ofChange s with cond := some uptoSmall }

/-- 'bailifflaw12.FrameReads', WHERE WHAT IT READS IS OF BULK AT MOST 1048576: true; the input reads as it did. -/
def frameReadsUptoRow : OpenClaim := { program := "ytgbhgjghlnknjaa", sum := "40c6e0a72a31dba638bc67c08fe10d8b01df75f91063c7631682ef6c98cbd0f8", func := "bailiff/bailifflaw12.FrameReads", spec := "frameReads", unfollowed := true, recurses := true, apart := false, narrowed := true }
def FrameReadsUptoSaid : Prop := frameReadsUptoRow.holds Try.pinned (OpenSpec.upto frameReadsSpec)

/-- 'bailifflaw12.FrameKeys', WHERE WHAT IT READS IS OF BULK AT MOST 1048576: true; the input reads as it did. -/
def frameKeysUptoRow : OpenClaim := { program := "ytgbhgjghlnknjaa", sum := "40c6e0a72a31dba638bc67c08fe10d8b01df75f91063c7631682ef6c98cbd0f8", func := "bailiff/bailifflaw12.FrameKeys", spec := "frameKeys", unfollowed := true, recurses := true, apart := false, narrowed := true }
def FrameKeysUptoSaid : Prop := frameKeysUptoRow.holds Try.pinned (OpenSpec.upto frameKeysSpec)

/-- 'bailifflaw12.FrameApart', WHERE WHAT IT READS IS OF BULK AT MOST 1048576: true; the input reads as it did. -/
def frameApartUptoRow : OpenClaim := { program := "ytgbhgjghlnknjaa", sum := "40c6e0a72a31dba638bc67c08fe10d8b01df75f91063c7631682ef6c98cbd0f8", func := "bailiff/bailifflaw12.FrameApart", spec := "frameApart", unfollowed := true, recurses := true, apart := false, narrowed := true }
def FrameApartUptoSaid : Prop := frameApartUptoRow.holds Try.pinned (OpenSpec.upto frameApartSpec)

/-- 'bailifflaw12.FrameLong', WHERE WHAT IT READS IS OF BULK AT MOST 1048576: true; the input reads as it did. -/
def frameLongUptoRow : OpenClaim := { program := "ytgbhgjghlnknjaa", sum := "40c6e0a72a31dba638bc67c08fe10d8b01df75f91063c7631682ef6c98cbd0f8", func := "bailiff/bailifflaw12.FrameLong", spec := "frameLong", unfollowed := true, recurses := true, apart := false, narrowed := true }
def FrameLongUptoSaid : Prop := frameLongUptoRow.holds Try.pinned (OpenSpec.upto frameLongSpec)

/-- 'bailifflaw12.FramePrefixes', WHERE WHAT IT READS IS OF BULK AT MOST 1048576: true; the input reads as it did. -/
def framePrefixesUptoRow : OpenClaim := { program := "ytgbhgjghlnknjaa", sum := "40c6e0a72a31dba638bc67c08fe10d8b01df75f91063c7631682ef6c98cbd0f8", func := "bailiff/bailifflaw12.FramePrefixes", spec := "framePrefixes", unfollowed := true, recurses := true, apart := false, narrowed := true }
def FramePrefixesUptoSaid : Prop := framePrefixesUptoRow.holds Try.pinned (OpenSpec.upto framePrefixesSpec)

/-- 'bailifflaw12.FramePads', WHERE WHAT IT READS IS OF BULK AT MOST 1048576: true; the input reads as it did. -/
def framePadsUptoRow : OpenClaim := { program := "ytgbhgjghlnknjaa", sum := "40c6e0a72a31dba638bc67c08fe10d8b01df75f91063c7631682ef6c98cbd0f8", func := "bailiff/bailifflaw12.FramePads", spec := "framePads", unfollowed := true, recurses := true, apart := false, narrowed := true }
def FramePadsUptoSaid : Prop := framePadsUptoRow.holds Try.pinned (OpenSpec.upto framePadsSpec)

/-- 'bailifflaw26.ConfigTunes', WHERE WHAT IT READS IS OF BULK AT MOST 1048576: true; the input reads as it did. -/
def configTunesUptoRow : OpenClaim := { program := "ytgbhgjghlnknjaa", sum := "40c6e0a72a31dba638bc67c08fe10d8b01df75f91063c7631682ef6c98cbd0f8", func := "bailiff/bailifflaw26.ConfigTunes", spec := "configTunes", apart := false, narrowed := true }
def ConfigTunesUptoSaid : Prop := configTunesUptoRow.holds Try.pinned (OpenSpec.upto configTunesSpec)

/-- 'bailifflaw26.ConfigBytes', WHERE WHAT IT READS IS OF BULK AT MOST 1048576: true; the input reads as it did. -/
def configBytesUptoRow : OpenClaim := { program := "ytgbhgjghlnknjaa", sum := "40c6e0a72a31dba638bc67c08fe10d8b01df75f91063c7631682ef6c98cbd0f8", func := "bailiff/bailifflaw26.ConfigBytes", spec := "configBytes", apart := false, narrowed := true }
def ConfigBytesUptoSaid : Prop := configBytesUptoRow.holds Try.pinned (OpenSpec.upto configBytesSpec)

/-- 'bailifflaw26.ConfigReads', WHERE WHAT IT READS IS OF BULK AT MOST 1048576: true; the input reads as it did. -/
def configReadsUptoRow : OpenClaim := { program := "ytgbhgjghlnknjaa", sum := "40c6e0a72a31dba638bc67c08fe10d8b01df75f91063c7631682ef6c98cbd0f8", func := "bailiff/bailifflaw26.ConfigReads", spec := "configReads", apart := false, narrowed := true }
def ConfigReadsUptoSaid : Prop := configReadsUptoRow.holds Try.pinned (OpenSpec.upto configReadsSpec)

/-- 'bailifflaw26.ConfigCuts', WHERE WHAT IT READS IS OF BULK AT MOST 1048576: true; the input reads as it did. -/
def configCutsUptoRow : OpenClaim := { program := "ytgbhgjghlnknjaa", sum := "40c6e0a72a31dba638bc67c08fe10d8b01df75f91063c7631682ef6c98cbd0f8", func := "bailiff/bailifflaw26.ConfigCuts", spec := "configCuts", apart := false, narrowed := true }
def ConfigCutsUptoSaid : Prop := configCutsUptoRow.holds Try.pinned (OpenSpec.upto configCutsSpec)

/-- 'bailifflaw29.StatsOrder', WHERE WHAT IT READS IS OF BULK AT MOST 1048576: true; the input reads as it did. -/
def statsOrderUptoRow : OpenClaim := { program := "ytgbhgjghlnknjaa", sum := "40c6e0a72a31dba638bc67c08fe10d8b01df75f91063c7631682ef6c98cbd0f8", func := "bailiff/bailifflaw29.StatsOrder", spec := "statsOrder", apart := false, narrowed := true }
def StatsOrderUptoSaid : Prop := statsOrderUptoRow.holds Try.pinned (OpenSpec.upto statsOrderSpec)

/-- 'bailifflaw29.StatsRead', WHERE WHAT IT READS IS OF BULK AT MOST 1048576: true; the input reads as it did. -/
def statsReadUptoRow : OpenClaim := { program := "ytgbhgjghlnknjaa", sum := "40c6e0a72a31dba638bc67c08fe10d8b01df75f91063c7631682ef6c98cbd0f8", func := "bailiff/bailifflaw29.StatsRead", spec := "statsRead", apart := false, narrowed := true }
def StatsReadUptoSaid : Prop := statsReadUptoRow.holds Try.pinned (OpenSpec.upto statsReadSpec)

/-- 'bailifflaw29.StatsCount', WHERE WHAT IT READS IS OF BULK AT MOST 1048576: true; the input reads as it did. -/
def statsCountUptoRow : OpenClaim := { program := "ytgbhgjghlnknjaa", sum := "40c6e0a72a31dba638bc67c08fe10d8b01df75f91063c7631682ef6c98cbd0f8", func := "bailiff/bailifflaw29.StatsCount", spec := "statsCount", apart := false, narrowed := true }
def StatsCountUptoSaid : Prop := statsCountUptoRow.holds Try.pinned (OpenSpec.upto statsCountSpec)

/-- 'bailifflaw29.StatsNil', WHERE WHAT IT READS IS OF BULK AT MOST 1048576: true; the input reads as it did. -/
def statsNilUptoRow : OpenClaim := { program := "ytgbhgjghlnknjaa", sum := "40c6e0a72a31dba638bc67c08fe10d8b01df75f91063c7631682ef6c98cbd0f8", func := "bailiff/bailifflaw29.StatsNil", spec := "statsNil", apart := false, narrowed := true }
def StatsNilUptoSaid : Prop := statsNilUptoRow.holds Try.pinned (OpenSpec.upto statsNilSpec)

end Rows
end Go.Proofs.Ytgbhgjghlnknjaa
