/-
  No cell of these rows narrows 'for every input' (looked for: loops, veiled, ifaces, maps, wideKeys, modest, calm, conditions, laid).
  DERIVED. THE GIVEN ROWS OF THIS SEAT. 15 by the template 'for every input the law returns true; each argument reads behind the call as it read before'; 0 by the template 'total and deterministic' (their statements: YtejigcfdggkhgaaTotals.lean).
  GIVEN WITH THE SEED: the statements are not yours to turn. If you find one false, say at which input.
  Laid BY PROGRAM, IN A SANDBOX (cutbox-rows.mjs): the forced cells as the released guide's own fill.sh prints them over the translation 530509441ae8cfea… (all of the seat's roots in one cut). By AI agents, Wed Nov 11 2026. No macro, syntax, notation, axiom, sorry.
-/
import Derived.Test.YtejigcfdggkhgaaChecked
import GoSem.Claim
import GoSem.ClaimJoined
import GoSem.ClaimMapViews
import Derived.JoinedTies
import Derived.KernelRfl
namespace Go.Proofs.Ytejigcfdggkhgaa
/- THE CELL 'sum', in the pinned program and in every row, IS THE sha256 OF THE DUMP (.gsa) THAT YtejigcfdggkhgaaProg.lean LOADS. Nothing in Lean hashes anything: it is a label: what it is worth is what the hold of that sum in a sandbox is worth. -/
noncomputable def Try.pinned : Pinned := { name := "ytejigcfdggkhgaa", sum := "530509441ae8cfea3ba2ec138caeb9faced44b10edbe56d1a263ca6e3b911e39", checked := Try.checked }
namespace Rows
def none {H : Type} : Left H := { results := [], args := [] }

/-- 'bailifflaw11.PortsRead': WHATEVER THE INPUT: true; the input reads as it did. -/
def portsReadSpec : ChangeSpec := { name := "portsRead", fn := fun _ => fun
  | [d1, d2] => { results := [.lit (.bool true)], args := [d1, d2] }
  | _ => none }
def portsReadRow : OpenClaim := { program := "ytejigcfdggkhgaa", sum := "530509441ae8cfea3ba2ec138caeb9faced44b10edbe56d1a263ca6e3b911e39", func := "bailiff/bailifflaw11.PortsRead", spec := "portsRead", apart := false }
def PortsReadSaid : Prop := portsReadRow.holds Try.pinned (OpenSpec.ofChange portsReadSpec)

/-- ITS FALSE NEIGHBOUR: 'it returns false'. Refute it at one input. -/
def portsReadWrong : ChangeSpec := { name := "portsRead", fn := fun _ => fun
  | [d1, d2] => { results := [.lit (.bool false)], args := [d1, d2] }
  | _ => none }
def PortsReadWrongFalsely : Prop := portsReadRow.holds Try.pinned (OpenSpec.ofChange portsReadWrong)

/-- 'bailifflaw11.PortsLater': WHATEVER THE INPUT: true; the input reads as it did. -/
def portsLaterSpec : ChangeSpec := { name := "portsLater", fn := fun _ => fun
  | [d1, d2, d3] => { results := [.lit (.bool true)], args := [d1, d2, d3] }
  | _ => none }
def portsLaterRow : OpenClaim := { program := "ytejigcfdggkhgaa", sum := "530509441ae8cfea3ba2ec138caeb9faced44b10edbe56d1a263ca6e3b911e39", func := "bailiff/bailifflaw11.PortsLater", spec := "portsLater", apart := false }
def PortsLaterSaid : Prop := portsLaterRow.holds Try.pinned (OpenSpec.ofChange portsLaterSpec)

/-- ITS FALSE NEIGHBOUR: 'it returns false'. Refute it at one input. -/
def portsLaterWrong : ChangeSpec := { name := "portsLater", fn := fun _ => fun
  | [d1, d2, d3] => { results := [.lit (.bool false)], args := [d1, d2, d3] }
  | _ => none }
def PortsLaterWrongFalsely : Prop := portsLaterRow.holds Try.pinned (OpenSpec.ofChange portsLaterWrong)

/-- 'bailifflaw11.PortsMore': WHATEVER THE INPUT: true; the input reads as it did. -/
def portsMoreSpec : ChangeSpec := { name := "portsMore", fn := fun _ => fun
  | [d1, d2, d3] => { results := [.lit (.bool true)], args := [d1, d2, d3] }
  | _ => none }
def portsMoreRow : OpenClaim := { program := "ytejigcfdggkhgaa", sum := "530509441ae8cfea3ba2ec138caeb9faced44b10edbe56d1a263ca6e3b911e39", func := "bailiff/bailifflaw11.PortsMore", spec := "portsMore", apart := false }
def PortsMoreSaid : Prop := portsMoreRow.holds Try.pinned (OpenSpec.ofChange portsMoreSpec)

/-- ITS FALSE NEIGHBOUR: 'it returns false'. Refute it at one input. -/
def portsMoreWrong : ChangeSpec := { name := "portsMore", fn := fun _ => fun
  | [d1, d2, d3] => { results := [.lit (.bool false)], args := [d1, d2, d3] }
  | _ => none }
def PortsMoreWrongFalsely : Prop := portsMoreRow.holds Try.pinned (OpenSpec.ofChange portsMoreWrong)

/-- 'bailifflaw02.CursorParts': WHATEVER THE INPUT: true; the input reads as it did. -/
def cursorPartsSpec : ChangeSpec := { name := "cursorParts", fn := fun _ => fun
  | [d1, d2] => { results := [.lit (.bool true)], args := [d1, d2] }
  | _ => none }
def cursorPartsRow : OpenClaim := { program := "ytejigcfdggkhgaa", sum := "530509441ae8cfea3ba2ec138caeb9faced44b10edbe56d1a263ca6e3b911e39", func := "bailiff/bailifflaw02.CursorParts", spec := "cursorParts", apart := false }
def CursorPartsSaid : Prop := cursorPartsRow.holds Try.pinned (OpenSpec.ofChange cursorPartsSpec)

/-- ITS FALSE NEIGHBOUR: 'it returns false'. Refute it at one input. -/
def cursorPartsWrong : ChangeSpec := { name := "cursorParts", fn := fun _ => fun
  | [d1, d2] => { results := [.lit (.bool false)], args := [d1, d2] }
  | _ => none }
def CursorPartsWrongFalsely : Prop := cursorPartsRow.holds Try.pinned (OpenSpec.ofChange cursorPartsWrong)

/-- 'bailifflaw10.Inet6Heads': WHATEVER THE INPUT: true; the input reads as it did. -/
def inet6HeadsSpec : ChangeSpec := { name := "inet6Heads", fn := fun _ => fun
  | [d1, d2] => { results := [.lit (.bool true)], args := [d1, d2] }
  | _ => none }
def inet6HeadsRow : OpenClaim := { program := "ytejigcfdggkhgaa", sum := "530509441ae8cfea3ba2ec138caeb9faced44b10edbe56d1a263ca6e3b911e39", func := "bailiff/bailifflaw10.Inet6Heads", spec := "inet6Heads", apart := false }
def Inet6HeadsSaid : Prop := inet6HeadsRow.holds Try.pinned (OpenSpec.ofChange inet6HeadsSpec)

/-- ITS FALSE NEIGHBOUR: 'it returns false'. Refute it at one input. -/
def inet6HeadsWrong : ChangeSpec := { name := "inet6Heads", fn := fun _ => fun
  | [d1, d2] => { results := [.lit (.bool false)], args := [d1, d2] }
  | _ => none }
def Inet6HeadsWrongFalsely : Prop := inet6HeadsRow.holds Try.pinned (OpenSpec.ofChange inet6HeadsWrong)

/-- 'bailifflaw10.Inet6Cut': WHATEVER THE INPUT: true; the input reads as it did. -/
def inet6CutSpec : ChangeSpec := { name := "inet6Cut", fn := fun _ => fun
  | [d1, d2, d3] => { results := [.lit (.bool true)], args := [d1, d2, d3] }
  | _ => none }
def inet6CutRow : OpenClaim := { program := "ytejigcfdggkhgaa", sum := "530509441ae8cfea3ba2ec138caeb9faced44b10edbe56d1a263ca6e3b911e39", func := "bailiff/bailifflaw10.Inet6Cut", spec := "inet6Cut", apart := false }
def Inet6CutSaid : Prop := inet6CutRow.holds Try.pinned (OpenSpec.ofChange inet6CutSpec)

/-- ITS FALSE NEIGHBOUR: 'it returns false'. Refute it at one input. -/
def inet6CutWrong : ChangeSpec := { name := "inet6Cut", fn := fun _ => fun
  | [d1, d2, d3] => { results := [.lit (.bool false)], args := [d1, d2, d3] }
  | _ => none }
def Inet6CutWrongFalsely : Prop := inet6CutRow.holds Try.pinned (OpenSpec.ofChange inet6CutWrong)

/-- 'bailifflaw10.Inet6Plain': WHATEVER THE INPUT: true; the input reads as it did. -/
def inet6PlainSpec : ChangeSpec := { name := "inet6Plain", fn := fun _ => fun
  | [d1, d2, d3] => { results := [.lit (.bool true)], args := [d1, d2, d3] }
  | _ => none }
def inet6PlainRow : OpenClaim := { program := "ytejigcfdggkhgaa", sum := "530509441ae8cfea3ba2ec138caeb9faced44b10edbe56d1a263ca6e3b911e39", func := "bailiff/bailifflaw10.Inet6Plain", spec := "inet6Plain", apart := false }
def Inet6PlainSaid : Prop := inet6PlainRow.holds Try.pinned (OpenSpec.ofChange inet6PlainSpec)

/-- ITS FALSE NEIGHBOUR: 'it returns false'. Refute it at one input. -/
def inet6PlainWrong : ChangeSpec := { name := "inet6Plain", fn := fun _ => fun
  | [d1, d2, d3] => { results := [.lit (.bool false)], args := [d1, d2, d3] }
  | _ => none }
def Inet6PlainWrongFalsely : Prop := inet6PlainRow.holds Try.pinned (OpenSpec.ofChange inet6PlainWrong)

/-- 'bailifflaw02.CursorOwn': WHATEVER THE INPUT: true; the input reads as it did. -/
def cursorOwnSpec : ChangeSpec := { name := "cursorOwn", fn := fun _ => fun
  | [d] => { results := [.lit (.bool true)], args := [d] }
  | _ => none }
def cursorOwnRow : OpenClaim := { program := "ytejigcfdggkhgaa", sum := "530509441ae8cfea3ba2ec138caeb9faced44b10edbe56d1a263ca6e3b911e39", func := "bailiff/bailifflaw02.CursorOwn", spec := "cursorOwn", apart := false }
def CursorOwnSaid : Prop := cursorOwnRow.holds Try.pinned (OpenSpec.ofChange cursorOwnSpec)

/-- ITS FALSE NEIGHBOUR: 'it returns false'. Refute it at one input. -/
def cursorOwnWrong : ChangeSpec := { name := "cursorOwn", fn := fun _ => fun
  | [d] => { results := [.lit (.bool false)], args := [d] }
  | _ => none }
def CursorOwnWrongFalsely : Prop := cursorOwnRow.holds Try.pinned (OpenSpec.ofChange cursorOwnWrong)

/-- 'bailifflaw08.EtherReads': WHATEVER THE INPUT: true; the input reads as it did. -/
def etherReadsSpec : ChangeSpec := { name := "etherReads", fn := fun _ => fun
  | [d] => { results := [.lit (.bool true)], args := [d] }
  | _ => none }
def etherReadsRow : OpenClaim := { program := "ytejigcfdggkhgaa", sum := "530509441ae8cfea3ba2ec138caeb9faced44b10edbe56d1a263ca6e3b911e39", func := "bailiff/bailifflaw08.EtherReads", spec := "etherReads", apart := false }
def EtherReadsSaid : Prop := etherReadsRow.holds Try.pinned (OpenSpec.ofChange etherReadsSpec)

/-- ITS FALSE NEIGHBOUR: 'it returns false'. Refute it at one input. -/
def etherReadsWrong : ChangeSpec := { name := "etherReads", fn := fun _ => fun
  | [d] => { results := [.lit (.bool false)], args := [d] }
  | _ => none }
def EtherReadsWrongFalsely : Prop := etherReadsRow.holds Try.pinned (OpenSpec.ofChange etherReadsWrong)

/-- 'bailifflaw08.EtherTags': WHATEVER THE INPUT: true; the input reads as it did. -/
def etherTagsSpec : ChangeSpec := { name := "etherTags", fn := fun _ => fun
  | [d1, d2, d3] => { results := [.lit (.bool true)], args := [d1, d2, d3] }
  | _ => none }
def etherTagsRow : OpenClaim := { program := "ytejigcfdggkhgaa", sum := "530509441ae8cfea3ba2ec138caeb9faced44b10edbe56d1a263ca6e3b911e39", func := "bailiff/bailifflaw08.EtherTags", spec := "etherTags", apart := false }
def EtherTagsSaid : Prop := etherTagsRow.holds Try.pinned (OpenSpec.ofChange etherTagsSpec)

/-- ITS FALSE NEIGHBOUR: 'it returns false'. Refute it at one input. -/
def etherTagsWrong : ChangeSpec := { name := "etherTags", fn := fun _ => fun
  | [d1, d2, d3] => { results := [.lit (.bool false)], args := [d1, d2, d3] }
  | _ => none }
def EtherTagsWrongFalsely : Prop := etherTagsRow.holds Try.pinned (OpenSpec.ofChange etherTagsWrong)

/-- 'bailifflaw08.EtherShort': WHATEVER THE INPUT: true; the input reads as it did. -/
def etherShortSpec : ChangeSpec := { name := "etherShort", fn := fun _ => fun
  | [d1, d2, d3] => { results := [.lit (.bool true)], args := [d1, d2, d3] }
  | _ => none }
def etherShortRow : OpenClaim := { program := "ytejigcfdggkhgaa", sum := "530509441ae8cfea3ba2ec138caeb9faced44b10edbe56d1a263ca6e3b911e39", func := "bailiff/bailifflaw08.EtherShort", spec := "etherShort", apart := false }
def EtherShortSaid : Prop := etherShortRow.holds Try.pinned (OpenSpec.ofChange etherShortSpec)

/-- ITS FALSE NEIGHBOUR: 'it returns false'. Refute it at one input. -/
def etherShortWrong : ChangeSpec := { name := "etherShort", fn := fun _ => fun
  | [d1, d2, d3] => { results := [.lit (.bool false)], args := [d1, d2, d3] }
  | _ => none }
def EtherShortWrongFalsely : Prop := etherShortRow.holds Try.pinned (OpenSpec.ofChange etherShortWrong)

/-- 'bailifflaw08.EtherWhom': WHATEVER THE INPUT: true; the input reads as it did. -/
def etherWhomSpec : ChangeSpec := { name := "etherWhom", fn := fun _ => fun
  | [d1, d2] => { results := [.lit (.bool true)], args := [d1, d2] }
  | _ => none }
def etherWhomRow : OpenClaim := { program := "ytejigcfdggkhgaa", sum := "530509441ae8cfea3ba2ec138caeb9faced44b10edbe56d1a263ca6e3b911e39", func := "bailiff/bailifflaw08.EtherWhom", spec := "etherWhom", apart := false }
def EtherWhomSaid : Prop := etherWhomRow.holds Try.pinned (OpenSpec.ofChange etherWhomSpec)

/-- ITS FALSE NEIGHBOUR: 'it returns false'. Refute it at one input. -/
def etherWhomWrong : ChangeSpec := { name := "etherWhom", fn := fun _ => fun
  | [d1, d2] => { results := [.lit (.bool false)], args := [d1, d2] }
  | _ => none }
def EtherWhomWrongFalsely : Prop := etherWhomRow.holds Try.pinned (OpenSpec.ofChange etherWhomWrong)

/-- 'bailifflaw02.CursorPuts': WHATEVER THE INPUT: true; the input reads as it did. -/
def cursorPutsSpec : ChangeSpec := { name := "cursorPuts", fn := fun _ => fun
  | [d1, d2] => { results := [.lit (.bool true)], args := [d1, d2] }
  | _ => none }
def cursorPutsRow : OpenClaim := { program := "ytejigcfdggkhgaa", sum := "530509441ae8cfea3ba2ec138caeb9faced44b10edbe56d1a263ca6e3b911e39", func := "bailiff/bailifflaw02.CursorPuts", spec := "cursorPuts", apart := false }
def CursorPutsSaid : Prop := cursorPutsRow.holds Try.pinned (OpenSpec.ofChange cursorPutsSpec)

/-- ITS FALSE NEIGHBOUR: 'it returns false'. Refute it at one input. -/
def cursorPutsWrong : ChangeSpec := { name := "cursorPuts", fn := fun _ => fun
  | [d1, d2] => { results := [.lit (.bool false)], args := [d1, d2] }
  | _ => none }
def CursorPutsWrongFalsely : Prop := cursorPutsRow.holds Try.pinned (OpenSpec.ofChange cursorPutsWrong)

/-- 'bailifflaw02.CursorNil': WHATEVER THE INPUT: true; the input reads as it did. -/
def cursorNilSpec : ChangeSpec := { name := "cursorNil", fn := fun _ => fun
  | [d] => { results := [.lit (.bool true)], args := [d] }
  | _ => none }
def cursorNilRow : OpenClaim := { program := "ytejigcfdggkhgaa", sum := "530509441ae8cfea3ba2ec138caeb9faced44b10edbe56d1a263ca6e3b911e39", func := "bailiff/bailifflaw02.CursorNil", spec := "cursorNil", apart := false }
def CursorNilSaid : Prop := cursorNilRow.holds Try.pinned (OpenSpec.ofChange cursorNilSpec)

/-- ITS FALSE NEIGHBOUR: 'it returns false'. Refute it at one input. -/
def cursorNilWrong : ChangeSpec := { name := "cursorNil", fn := fun _ => fun
  | [d] => { results := [.lit (.bool false)], args := [d] }
  | _ => none }
def CursorNilWrongFalsely : Prop := cursorNilRow.holds Try.pinned (OpenSpec.ofChange cursorNilWrong)

/-- 'bailifflaw02.CursorTakes': WHATEVER THE INPUT: true; the input reads as it did. -/
def cursorTakesSpec : ChangeSpec := { name := "cursorTakes", fn := fun _ => fun
  | [d1, d2] => { results := [.lit (.bool true)], args := [d1, d2] }
  | _ => none }
def cursorTakesRow : OpenClaim := { program := "ytejigcfdggkhgaa", sum := "530509441ae8cfea3ba2ec138caeb9faced44b10edbe56d1a263ca6e3b911e39", func := "bailiff/bailifflaw02.CursorTakes", spec := "cursorTakes", apart := false }
def CursorTakesSaid : Prop := cursorTakesRow.holds Try.pinned (OpenSpec.ofChange cursorTakesSpec)

/-- ITS FALSE NEIGHBOUR: 'it returns false'. Refute it at one input. -/
def cursorTakesWrong : ChangeSpec := { name := "cursorTakes", fn := fun _ => fun
  | [d1, d2] => { results := [.lit (.bool false)], args := [d1, d2] }
  | _ => none }
def CursorTakesWrongFalsely : Prop := cursorTakesRow.holds Try.pinned (OpenSpec.ofChange cursorTakesWrong)

/- THE SECOND FORM. 'bulk': how many values and letters a reading holds, each counted each time it is reached (what is shared counts as often as it is met; a slice's spare places count too). A statement '..UptoSaid' is the law's where the arguments, and the package variables that the reading takes, are together of bulk at most 1048576: NARROWER than '..Said'. Prove '..Said' where nothing that the law and all that it calls make is longer than what came in: it says more and counts as full. Else prove '..UptoSaid'. A law counts once. -/
mutual
def uptoBulk {H : Type} : DataW H → Nat
  | .lit (.string bytes) => bytes.length + 1
  | .lit _ => 1
  | .nil => 1
  | .ptr d => uptoBulk d + 1
  | .slice elems spare => uptoBulkAll elems + uptoBulkAll spare + 1
  | .agg parts => uptoBulkAll parts + 1
  | .iface _ d => uptoBulk d + 1
  | .map entries => uptoBulkEntries entries + 1
  | .held _ => 1
def uptoBulkAll {H : Type} : List (DataW H) → Nat
  | [] => 0
  | d :: r => uptoBulk d + uptoBulkAll r
def uptoBulkEntries {H : Type} : List (Lit × DataW H) → Nat
  | [] => 0
  | x :: r => uptoBulkEntry x + uptoBulkEntries r
def uptoBulkEntry {H : Type} : Lit × DataW H → Nat
  | (.string bytes, d) => bytes.length + uptoBulk d + 1
  | (_, d) => uptoBulk d + 1
 end
def uptoSmall : (H : Type) → List (DataW H) → Bool := fun _ ds => decide (uptoBulkAll ds ≤ 1048576)
def OpenSpec.upto (s : _root_.Go.ChangeSpec) : _root_.Go.OpenSpec := { _root_.Go.OpenSpec.ofChange s with cond := some uptoSmall }

/-- 'bailifflaw11.PortsRead', WHERE WHAT IT READS IS OF BULK AT MOST 1048576: true; the input reads as it did. -/
def portsReadUptoRow : OpenClaim := { program := "ytejigcfdggkhgaa", sum := "530509441ae8cfea3ba2ec138caeb9faced44b10edbe56d1a263ca6e3b911e39", func := "bailiff/bailifflaw11.PortsRead", spec := "portsRead", apart := false, narrowed := true }
def PortsReadUptoSaid : Prop := portsReadUptoRow.holds Try.pinned (OpenSpec.upto portsReadSpec)

/-- 'bailifflaw11.PortsLater', WHERE WHAT IT READS IS OF BULK AT MOST 1048576: true; the input reads as it did. -/
def portsLaterUptoRow : OpenClaim := { program := "ytejigcfdggkhgaa", sum := "530509441ae8cfea3ba2ec138caeb9faced44b10edbe56d1a263ca6e3b911e39", func := "bailiff/bailifflaw11.PortsLater", spec := "portsLater", apart := false, narrowed := true }
def PortsLaterUptoSaid : Prop := portsLaterUptoRow.holds Try.pinned (OpenSpec.upto portsLaterSpec)

/-- 'bailifflaw11.PortsMore', WHERE WHAT IT READS IS OF BULK AT MOST 1048576: true; the input reads as it did. -/
def portsMoreUptoRow : OpenClaim := { program := "ytejigcfdggkhgaa", sum := "530509441ae8cfea3ba2ec138caeb9faced44b10edbe56d1a263ca6e3b911e39", func := "bailiff/bailifflaw11.PortsMore", spec := "portsMore", apart := false, narrowed := true }
def PortsMoreUptoSaid : Prop := portsMoreUptoRow.holds Try.pinned (OpenSpec.upto portsMoreSpec)

/-- 'bailifflaw02.CursorParts', WHERE WHAT IT READS IS OF BULK AT MOST 1048576: true; the input reads as it did. -/
def cursorPartsUptoRow : OpenClaim := { program := "ytejigcfdggkhgaa", sum := "530509441ae8cfea3ba2ec138caeb9faced44b10edbe56d1a263ca6e3b911e39", func := "bailiff/bailifflaw02.CursorParts", spec := "cursorParts", apart := false, narrowed := true }
def CursorPartsUptoSaid : Prop := cursorPartsUptoRow.holds Try.pinned (OpenSpec.upto cursorPartsSpec)

/-- 'bailifflaw10.Inet6Heads', WHERE WHAT IT READS IS OF BULK AT MOST 1048576: true; the input reads as it did. -/
def inet6HeadsUptoRow : OpenClaim := { program := "ytejigcfdggkhgaa", sum := "530509441ae8cfea3ba2ec138caeb9faced44b10edbe56d1a263ca6e3b911e39", func := "bailiff/bailifflaw10.Inet6Heads", spec := "inet6Heads", apart := false, narrowed := true }
def Inet6HeadsUptoSaid : Prop := inet6HeadsUptoRow.holds Try.pinned (OpenSpec.upto inet6HeadsSpec)

/-- 'bailifflaw10.Inet6Cut', WHERE WHAT IT READS IS OF BULK AT MOST 1048576: true; the input reads as it did. -/
def inet6CutUptoRow : OpenClaim := { program := "ytejigcfdggkhgaa", sum := "530509441ae8cfea3ba2ec138caeb9faced44b10edbe56d1a263ca6e3b911e39", func := "bailiff/bailifflaw10.Inet6Cut", spec := "inet6Cut", apart := false, narrowed := true }
def Inet6CutUptoSaid : Prop := inet6CutUptoRow.holds Try.pinned (OpenSpec.upto inet6CutSpec)

/-- 'bailifflaw10.Inet6Plain', WHERE WHAT IT READS IS OF BULK AT MOST 1048576: true; the input reads as it did. -/
def inet6PlainUptoRow : OpenClaim := { program := "ytejigcfdggkhgaa", sum := "530509441ae8cfea3ba2ec138caeb9faced44b10edbe56d1a263ca6e3b911e39", func := "bailiff/bailifflaw10.Inet6Plain", spec := "inet6Plain", apart := false, narrowed := true }
def Inet6PlainUptoSaid : Prop := inet6PlainUptoRow.holds Try.pinned (OpenSpec.upto inet6PlainSpec)

/-- 'bailifflaw02.CursorOwn', WHERE WHAT IT READS IS OF BULK AT MOST 1048576: true; the input reads as it did. -/
def cursorOwnUptoRow : OpenClaim := { program := "ytejigcfdggkhgaa", sum := "530509441ae8cfea3ba2ec138caeb9faced44b10edbe56d1a263ca6e3b911e39", func := "bailiff/bailifflaw02.CursorOwn", spec := "cursorOwn", apart := false, narrowed := true }
def CursorOwnUptoSaid : Prop := cursorOwnUptoRow.holds Try.pinned (OpenSpec.upto cursorOwnSpec)

/-- 'bailifflaw08.EtherReads', WHERE WHAT IT READS IS OF BULK AT MOST 1048576: true; the input reads as it did. -/
def etherReadsUptoRow : OpenClaim := { program := "ytejigcfdggkhgaa", sum := "530509441ae8cfea3ba2ec138caeb9faced44b10edbe56d1a263ca6e3b911e39", func := "bailiff/bailifflaw08.EtherReads", spec := "etherReads", apart := false, narrowed := true }
def EtherReadsUptoSaid : Prop := etherReadsUptoRow.holds Try.pinned (OpenSpec.upto etherReadsSpec)

/-- 'bailifflaw08.EtherTags', WHERE WHAT IT READS IS OF BULK AT MOST 1048576: true; the input reads as it did. -/
def etherTagsUptoRow : OpenClaim := { program := "ytejigcfdggkhgaa", sum := "530509441ae8cfea3ba2ec138caeb9faced44b10edbe56d1a263ca6e3b911e39", func := "bailiff/bailifflaw08.EtherTags", spec := "etherTags", apart := false, narrowed := true }
def EtherTagsUptoSaid : Prop := etherTagsUptoRow.holds Try.pinned (OpenSpec.upto etherTagsSpec)

/-- 'bailifflaw08.EtherShort', WHERE WHAT IT READS IS OF BULK AT MOST 1048576: true; the input reads as it did. -/
def etherShortUptoRow : OpenClaim := { program := "ytejigcfdggkhgaa", sum := "530509441ae8cfea3ba2ec138caeb9faced44b10edbe56d1a263ca6e3b911e39", func := "bailiff/bailifflaw08.EtherShort", spec := "etherShort", apart := false, narrowed := true }
def EtherShortUptoSaid : Prop := etherShortUptoRow.holds Try.pinned (OpenSpec.upto etherShortSpec)

/-- 'bailifflaw08.EtherWhom', WHERE WHAT IT READS IS OF BULK AT MOST 1048576: true; the input reads as it did. -/
def etherWhomUptoRow : OpenClaim := { program := "ytejigcfdggkhgaa", sum := "530509441ae8cfea3ba2ec138caeb9faced44b10edbe56d1a263ca6e3b911e39", func := "bailiff/bailifflaw08.EtherWhom", spec := "etherWhom", apart := false, narrowed := true }
def EtherWhomUptoSaid : Prop := etherWhomUptoRow.holds Try.pinned (OpenSpec.upto etherWhomSpec)

/-- 'bailifflaw02.CursorPuts', WHERE WHAT IT READS IS OF BULK AT MOST 1048576: true; the input reads as it did. -/
def cursorPutsUptoRow : OpenClaim := { program := "ytejigcfdggkhgaa", sum := "530509441ae8cfea3ba2ec138caeb9faced44b10edbe56d1a263ca6e3b911e39", func := "bailiff/bailifflaw02.CursorPuts", spec := "cursorPuts", apart := false, narrowed := true }
def CursorPutsUptoSaid : Prop := cursorPutsUptoRow.holds Try.pinned (OpenSpec.upto cursorPutsSpec)

/-- 'bailifflaw02.CursorNil', WHERE WHAT IT READS IS OF BULK AT MOST 1048576: true; the input reads as it did. -/
def cursorNilUptoRow : OpenClaim := { program := "ytejigcfdggkhgaa", sum := "530509441ae8cfea3ba2ec138caeb9faced44b10edbe56d1a263ca6e3b911e39", func := "bailiff/bailifflaw02.CursorNil", spec := "cursorNil", apart := false, narrowed := true }
def CursorNilUptoSaid : Prop := cursorNilUptoRow.holds Try.pinned (OpenSpec.upto cursorNilSpec)

/-- 'bailifflaw02.CursorTakes', WHERE WHAT IT READS IS OF BULK AT MOST 1048576: true; the input reads as it did. -/
def cursorTakesUptoRow : OpenClaim := { program := "ytejigcfdggkhgaa", sum := "530509441ae8cfea3ba2ec138caeb9faced44b10edbe56d1a263ca6e3b911e39", func := "bailiff/bailifflaw02.CursorTakes", spec := "cursorTakes", apart := false, narrowed := true }
def CursorTakesUptoSaid : Prop := cursorTakesUptoRow.holds Try.pinned (OpenSpec.upto cursorTakesSpec)

end Rows
end Go.Proofs.Ytejigcfdggkhgaa
