/-
  No cell of these rows narrows 'for every input' (looked for: loops, veiled, ifaces, maps, wideKeys, modest, calm, conditions, laid).
  DERIVED. THE GIVEN ROWS OF THIS SEAT. 10 by the template 'for every input the law returns true; each argument reads behind the call as it read before'; 0 by the template 'total and deterministic' (their statements: YtjdeooeddcjmmaaTotals.lean).
  GIVEN WITH THE SEED: the statements are not yours to turn. If you find one false, say at which input.
  Laid BY PROGRAM, IN A SANDBOX (cutbox-rows.mjs): the forced cells as the released guide's own fill.sh prints them over the translation 331561d9248661d6… (all of the seat's roots in one cut). By AI agents, Wed Nov 11 2026. No macro, syntax, notation, axiom, sorry.
-/
import Derived.Test.YtjdeooeddcjmmaaChecked
import GoSem.Claim
import GoSem.ClaimJoined
import GoSem.ClaimMapViews
import Derived.JoinedTies
import Derived.KernelRfl
namespace Go.Proofs.Ytjdeooeddcjmmaa
/- THE CELL 'sum', in the pinned program and in every row, IS THE sha256 OF THE DUMP (.gsa) THAT YtjdeooeddcjmmaaProg.lean LOADS. Nothing in Lean hashes anything: it is a label: what it is worth is what the hold of that sum in a sandbox is worth. -/
noncomputable def Try.pinned : Pinned := { name := "ytjdeooeddcjmmaa", sum := "331561d9248661d62122b78287a39713c855a06b7c174b824e116131c1d95d8b", checked := Try.checked }
namespace Rows
def none {H : Type} : Left H := { results := [], args := [] }

/-- 'bailifflaw09.InetReads': WHATEVER THE INPUT: true; the input reads as it did. -/
def inetReadsSpec : ChangeSpec := { name := "inetReads", fn := fun _ => fun
  | [d] => { results := [.lit (.bool true)], args := [d] }
  | _ => none }
def inetReadsRow : OpenClaim := { program := "ytjdeooeddcjmmaa", sum := "331561d9248661d62122b78287a39713c855a06b7c174b824e116131c1d95d8b", func := "bailiff/bailifflaw09.InetReads", spec := "inetReads", apart := false }
def InetReadsSaid : Prop := inetReadsRow.holds Try.pinned (OpenSpec.ofChange inetReadsSpec)

/-- ITS FALSE NEIGHBOUR: 'it returns false'. Refute it at one input. -/
def inetReadsWrong : ChangeSpec := { name := "inetReads", fn := fun _ => fun
  | [d] => { results := [.lit (.bool false)], args := [d] }
  | _ => none }
def InetReadsWrongFalsely : Prop := inetReadsRow.holds Try.pinned (OpenSpec.ofChange inetReadsWrong)

/-- 'bailifflaw09.InetBodies': WHATEVER THE INPUT: true; the input reads as it did. -/
def inetBodiesSpec : ChangeSpec := { name := "inetBodies", fn := fun _ => fun
  | [d1, d2, d3, d4] => { results := [.lit (.bool true)], args := [d1, d2, d3, d4] }
  | _ => none }
def inetBodiesRow : OpenClaim := { program := "ytjdeooeddcjmmaa", sum := "331561d9248661d62122b78287a39713c855a06b7c174b824e116131c1d95d8b", func := "bailiff/bailifflaw09.InetBodies", spec := "inetBodies", apart := false }
def InetBodiesSaid : Prop := inetBodiesRow.holds Try.pinned (OpenSpec.ofChange inetBodiesSpec)

/-- ITS FALSE NEIGHBOUR: 'it returns false'. Refute it at one input. -/
def inetBodiesWrong : ChangeSpec := { name := "inetBodies", fn := fun _ => fun
  | [d1, d2, d3, d4] => { results := [.lit (.bool false)], args := [d1, d2, d3, d4] }
  | _ => none }
def InetBodiesWrongFalsely : Prop := inetBodiesRow.holds Try.pinned (OpenSpec.ofChange inetBodiesWrong)

/-- 'bailifflaw09.InetCut': WHATEVER THE INPUT: true; the input reads as it did. -/
def inetCutSpec : ChangeSpec := { name := "inetCut", fn := fun _ => fun
  | [d1, d2, d3] => { results := [.lit (.bool true)], args := [d1, d2, d3] }
  | _ => none }
def inetCutRow : OpenClaim := { program := "ytjdeooeddcjmmaa", sum := "331561d9248661d62122b78287a39713c855a06b7c174b824e116131c1d95d8b", func := "bailiff/bailifflaw09.InetCut", spec := "inetCut", apart := false }
def InetCutSaid : Prop := inetCutRow.holds Try.pinned (OpenSpec.ofChange inetCutSpec)

/-- ITS FALSE NEIGHBOUR: 'it returns false'. Refute it at one input. -/
def inetCutWrong : ChangeSpec := { name := "inetCut", fn := fun _ => fun
  | [d1, d2, d3] => { results := [.lit (.bool false)], args := [d1, d2, d3] }
  | _ => none }
def InetCutWrongFalsely : Prop := inetCutRow.holds Try.pinned (OpenSpec.ofChange inetCutWrong)

/-- 'bailifflaw09.InetOwn': WHATEVER THE INPUT: true; the input reads as it did. -/
def inetOwnSpec : ChangeSpec := { name := "inetOwn", fn := fun _ => fun
  | [d] => { results := [.lit (.bool true)], args := [d] }
  | _ => none }
def inetOwnRow : OpenClaim := { program := "ytjdeooeddcjmmaa", sum := "331561d9248661d62122b78287a39713c855a06b7c174b824e116131c1d95d8b", func := "bailiff/bailifflaw09.InetOwn", spec := "inetOwn", apart := false }
def InetOwnSaid : Prop := inetOwnRow.holds Try.pinned (OpenSpec.ofChange inetOwnSpec)

/-- ITS FALSE NEIGHBOUR: 'it returns false'. Refute it at one input. -/
def inetOwnWrong : ChangeSpec := { name := "inetOwn", fn := fun _ => fun
  | [d] => { results := [.lit (.bool false)], args := [d] }
  | _ => none }
def InetOwnWrongFalsely : Prop := inetOwnRow.holds Try.pinned (OpenSpec.ofChange inetOwnWrong)

/-- 'bailifflaw11.PortsRead': WHATEVER THE INPUT: true; the input reads as it did. -/
def portsReadSpec : ChangeSpec := { name := "portsRead", fn := fun _ => fun
  | [d1, d2] => { results := [.lit (.bool true)], args := [d1, d2] }
  | _ => none }
def portsReadRow : OpenClaim := { program := "ytjdeooeddcjmmaa", sum := "331561d9248661d62122b78287a39713c855a06b7c174b824e116131c1d95d8b", func := "bailiff/bailifflaw11.PortsRead", spec := "portsRead", apart := false }
def PortsReadSaid : Prop := portsReadRow.holds Try.pinned (OpenSpec.ofChange portsReadSpec)

/-- ITS FALSE NEIGHBOUR: 'it returns false'. Refute it at one input. -/
def portsReadWrong : ChangeSpec := { name := "portsRead", fn := fun _ => fun
  | [d1, d2] => { results := [.lit (.bool false)], args := [d1, d2] }
  | _ => none }
def PortsReadWrongFalsely : Prop := portsReadRow.holds Try.pinned (OpenSpec.ofChange portsReadWrong)

/-- 'bailifflaw11.PortsLater': WHATEVER THE INPUT: true; the input reads as it did. -/
def portsLaterSpec : ChangeSpec := { name := "portsLater", fn := fun _ => fun
  | [d1, d2, d3] => { results := [.lit (.bool true)], args := [d1, d2, d3] }
  | _ => none }
def portsLaterRow : OpenClaim := { program := "ytjdeooeddcjmmaa", sum := "331561d9248661d62122b78287a39713c855a06b7c174b824e116131c1d95d8b", func := "bailiff/bailifflaw11.PortsLater", spec := "portsLater", apart := false }
def PortsLaterSaid : Prop := portsLaterRow.holds Try.pinned (OpenSpec.ofChange portsLaterSpec)

/-- ITS FALSE NEIGHBOUR: 'it returns false'. Refute it at one input. -/
def portsLaterWrong : ChangeSpec := { name := "portsLater", fn := fun _ => fun
  | [d1, d2, d3] => { results := [.lit (.bool false)], args := [d1, d2, d3] }
  | _ => none }
def PortsLaterWrongFalsely : Prop := portsLaterRow.holds Try.pinned (OpenSpec.ofChange portsLaterWrong)

/-- 'bailifflaw11.PortsMore': WHATEVER THE INPUT: true; the input reads as it did. -/
def portsMoreSpec : ChangeSpec := { name := "portsMore", fn := fun _ => fun
  | [d1, d2, d3] => { results := [.lit (.bool true)], args := [d1, d2, d3] }
  | _ => none }
def portsMoreRow : OpenClaim := { program := "ytjdeooeddcjmmaa", sum := "331561d9248661d62122b78287a39713c855a06b7c174b824e116131c1d95d8b", func := "bailiff/bailifflaw11.PortsMore", spec := "portsMore", apart := false }
def PortsMoreSaid : Prop := portsMoreRow.holds Try.pinned (OpenSpec.ofChange portsMoreSpec)

/-- ITS FALSE NEIGHBOUR: 'it returns false'. Refute it at one input. -/
def portsMoreWrong : ChangeSpec := { name := "portsMore", fn := fun _ => fun
  | [d1, d2, d3] => { results := [.lit (.bool false)], args := [d1, d2, d3] }
  | _ => none }
def PortsMoreWrongFalsely : Prop := portsMoreRow.holds Try.pinned (OpenSpec.ofChange portsMoreWrong)

/-- 'bailifflaw10.Inet6Heads': WHATEVER THE INPUT: true; the input reads as it did. -/
def inet6HeadsSpec : ChangeSpec := { name := "inet6Heads", fn := fun _ => fun
  | [d1, d2] => { results := [.lit (.bool true)], args := [d1, d2] }
  | _ => none }
def inet6HeadsRow : OpenClaim := { program := "ytjdeooeddcjmmaa", sum := "331561d9248661d62122b78287a39713c855a06b7c174b824e116131c1d95d8b", func := "bailiff/bailifflaw10.Inet6Heads", spec := "inet6Heads", apart := false }
def Inet6HeadsSaid : Prop := inet6HeadsRow.holds Try.pinned (OpenSpec.ofChange inet6HeadsSpec)

/-- ITS FALSE NEIGHBOUR: 'it returns false'. Refute it at one input. -/
def inet6HeadsWrong : ChangeSpec := { name := "inet6Heads", fn := fun _ => fun
  | [d1, d2] => { results := [.lit (.bool false)], args := [d1, d2] }
  | _ => none }
def Inet6HeadsWrongFalsely : Prop := inet6HeadsRow.holds Try.pinned (OpenSpec.ofChange inet6HeadsWrong)

/-- 'bailifflaw10.Inet6Cut': WHATEVER THE INPUT: true; the input reads as it did. -/
def inet6CutSpec : ChangeSpec := { name := "inet6Cut", fn := fun _ => fun
  | [d1, d2, d3] => { results := [.lit (.bool true)], args := [d1, d2, d3] }
  | _ => none }
def inet6CutRow : OpenClaim := { program := "ytjdeooeddcjmmaa", sum := "331561d9248661d62122b78287a39713c855a06b7c174b824e116131c1d95d8b", func := "bailiff/bailifflaw10.Inet6Cut", spec := "inet6Cut", apart := false }
def Inet6CutSaid : Prop := inet6CutRow.holds Try.pinned (OpenSpec.ofChange inet6CutSpec)

/-- ITS FALSE NEIGHBOUR: 'it returns false'. Refute it at one input. -/
def inet6CutWrong : ChangeSpec := { name := "inet6Cut", fn := fun _ => fun
  | [d1, d2, d3] => { results := [.lit (.bool false)], args := [d1, d2, d3] }
  | _ => none }
def Inet6CutWrongFalsely : Prop := inet6CutRow.holds Try.pinned (OpenSpec.ofChange inet6CutWrong)

/-- 'bailifflaw10.Inet6Plain': WHATEVER THE INPUT: true; the input reads as it did. -/
def inet6PlainSpec : ChangeSpec := { name := "inet6Plain", fn := fun _ => fun
  | [d1, d2, d3] => { results := [.lit (.bool true)], args := [d1, d2, d3] }
  | _ => none }
def inet6PlainRow : OpenClaim := { program := "ytjdeooeddcjmmaa", sum := "331561d9248661d62122b78287a39713c855a06b7c174b824e116131c1d95d8b", func := "bailiff/bailifflaw10.Inet6Plain", spec := "inet6Plain", apart := false }
def Inet6PlainSaid : Prop := inet6PlainRow.holds Try.pinned (OpenSpec.ofChange inet6PlainSpec)

/-- ITS FALSE NEIGHBOUR: 'it returns false'. Refute it at one input. -/
def inet6PlainWrong : ChangeSpec := { name := "inet6Plain", fn := fun _ => fun
  | [d1, d2, d3] => { results := [.lit (.bool false)], args := [d1, d2, d3] }
  | _ => none }
def Inet6PlainWrongFalsely : Prop := inet6PlainRow.holds Try.pinned (OpenSpec.ofChange inet6PlainWrong)

/- THE SECOND FORM. 'bulk': how many values and letters a reading holds, each counted each time it is reached (what is shared counts as often as it is met; a slice's spare places count too). A statement '..UptoSaid' is the law's where the arguments, and the package variables that the reading takes, are together of bulk at most 1048576: NARROWER than '..Said'. Prove '..Said' where nothing that the law and all that it calls make is longer than what came in: it says more and counts as full. Else prove '..UptoSaid'. A law counts once. -/
mutual
def uptoBulk {H : Type} : DataW H → Nat
  | .lit (.string bytes) => bytes.length + 1
  | .lit _ => 1
  | .nil => 1
  | .ptr d => uptoBulk d + 1
  | .slice elems spare => uptoBulkAll elems + uptoBulkAll spare + 1
  | .agg parts => uptoBulkAll parts + 1
  | .iface _ d => uptoBulk d + 1
  | .map entries => uptoBulkEntries entries + 1
  | .held _ => 1
def uptoBulkAll {H : Type} : List (DataW H) → Nat
  | [] => 0
  | d :: r => uptoBulk d + uptoBulkAll r
def uptoBulkEntries {H : Type} : List (Lit × DataW H) → Nat
  | [] => 0
  | x :: r => uptoBulkEntry x + uptoBulkEntries r
def uptoBulkEntry {H : Type} : Lit × DataW H → Nat
  | (.string bytes, d) => bytes.length + uptoBulk d + 1
  | (_, d) => uptoBulk d + 1
 end
def uptoSmall : (H : Type) → List (DataW H) → Bool := fun _ ds => decide (uptoBulkAll ds ≤ 1048576)
def OpenSpec.upto (s : _root_.Go.ChangeSpec) : _root_.Go.OpenSpec := { _root_.Go.OpenSpec.ofChange s with cond := some uptoSmall }

/-- 'bailifflaw09.InetReads', WHERE WHAT IT READS IS OF BULK AT MOST 1048576: true; the input reads as it did. -/
def inetReadsUptoRow : OpenClaim := { program := "ytjdeooeddcjmmaa", sum := "331561d9248661d62122b78287a39713c855a06b7c174b824e116131c1d95d8b", func := "bailiff/bailifflaw09.InetReads", spec := "inetReads", apart := false, narrowed := true }
def InetReadsUptoSaid : Prop := inetReadsUptoRow.holds Try.pinned (OpenSpec.upto inetReadsSpec)

/-- 'bailifflaw09.InetBodies', WHERE WHAT IT READS IS OF BULK AT MOST 1048576: true; the input reads as it did. -/
def inetBodiesUptoRow : OpenClaim := { program := "ytjdeooeddcjmmaa", sum := "331561d9248661d62122b78287a39713c855a06b7c174b824e116131c1d95d8b", func := "bailiff/bailifflaw09.InetBodies", spec := "inetBodies", apart := false, narrowed := true }
def InetBodiesUptoSaid : Prop := inetBodiesUptoRow.holds Try.pinned (OpenSpec.upto inetBodiesSpec)

/-- 'bailifflaw09.InetCut', WHERE WHAT IT READS IS OF BULK AT MOST 1048576: true; the input reads as it did. -/
def inetCutUptoRow : OpenClaim := { program := "ytjdeooeddcjmmaa", sum := "331561d9248661d62122b78287a39713c855a06b7c174b824e116131c1d95d8b", func := "bailiff/bailifflaw09.InetCut", spec := "inetCut", apart := false, narrowed := true }
def InetCutUptoSaid : Prop := inetCutUptoRow.holds Try.pinned (OpenSpec.upto inetCutSpec)

/-- 'bailifflaw09.InetOwn', WHERE WHAT IT READS IS OF BULK AT MOST 1048576: true; the input reads as it did. -/
def inetOwnUptoRow : OpenClaim := { program := "ytjdeooeddcjmmaa", sum := "331561d9248661d62122b78287a39713c855a06b7c174b824e116131c1d95d8b", func := "bailiff/bailifflaw09.InetOwn", spec := "inetOwn", apart := false, narrowed := true }
def InetOwnUptoSaid : Prop := inetOwnUptoRow.holds Try.pinned (OpenSpec.upto inetOwnSpec)

/-- 'bailifflaw11.PortsRead', WHERE WHAT IT READS IS OF BULK AT MOST 1048576: true; the input reads as it did. -/
def portsReadUptoRow : OpenClaim := { program := "ytjdeooeddcjmmaa", sum := "331561d9248661d62122b78287a39713c855a06b7c174b824e116131c1d95d8b", func := "bailiff/bailifflaw11.PortsRead", spec := "portsRead", apart := false, narrowed := true }
def PortsReadUptoSaid : Prop := portsReadUptoRow.holds Try.pinned (OpenSpec.upto portsReadSpec)

/-- 'bailifflaw11.PortsLater', WHERE WHAT IT READS IS OF BULK AT MOST 1048576: true; the input reads as it did. -/
def portsLaterUptoRow : OpenClaim := { program := "ytjdeooeddcjmmaa", sum := "331561d9248661d62122b78287a39713c855a06b7c174b824e116131c1d95d8b", func := "bailiff/bailifflaw11.PortsLater", spec := "portsLater", apart := false, narrowed := true }
def PortsLaterUptoSaid : Prop := portsLaterUptoRow.holds Try.pinned (OpenSpec.upto portsLaterSpec)

/-- 'bailifflaw11.PortsMore', WHERE WHAT IT READS IS OF BULK AT MOST 1048576: true; the input reads as it did. -/
def portsMoreUptoRow : OpenClaim := { program := "ytjdeooeddcjmmaa", sum := "331561d9248661d62122b78287a39713c855a06b7c174b824e116131c1d95d8b", func := "bailiff/bailifflaw11.PortsMore", spec := "portsMore", apart := false, narrowed := true }
def PortsMoreUptoSaid : Prop := portsMoreUptoRow.holds Try.pinned (OpenSpec.upto portsMoreSpec)

/-- 'bailifflaw10.Inet6Heads', WHERE WHAT IT READS IS OF BULK AT MOST 1048576: true; the input reads as it did. -/
def inet6HeadsUptoRow : OpenClaim := { program := "ytjdeooeddcjmmaa", sum := "331561d9248661d62122b78287a39713c855a06b7c174b824e116131c1d95d8b", func := "bailiff/bailifflaw10.Inet6Heads", spec := "inet6Heads", apart := false, narrowed := true }
def Inet6HeadsUptoSaid : Prop := inet6HeadsUptoRow.holds Try.pinned (OpenSpec.upto inet6HeadsSpec)

/-- 'bailifflaw10.Inet6Cut', WHERE WHAT IT READS IS OF BULK AT MOST 1048576: true; the input reads as it did. -/
def inet6CutUptoRow : OpenClaim := { program := "ytjdeooeddcjmmaa", sum := "331561d9248661d62122b78287a39713c855a06b7c174b824e116131c1d95d8b", func := "bailiff/bailifflaw10.Inet6Cut", spec := "inet6Cut", apart := false, narrowed := true }
def Inet6CutUptoSaid : Prop := inet6CutUptoRow.holds Try.pinned (OpenSpec.upto inet6CutSpec)

/-- 'bailifflaw10.Inet6Plain', WHERE WHAT IT READS IS OF BULK AT MOST 1048576: true; the input reads as it did. -/
def inet6PlainUptoRow : OpenClaim := { program := "ytjdeooeddcjmmaa", sum := "331561d9248661d62122b78287a39713c855a06b7c174b824e116131c1d95d8b", func := "bailiff/bailifflaw10.Inet6Plain", spec := "inet6Plain", apart := false, narrowed := true }
def Inet6PlainUptoSaid : Prop := inet6PlainUptoRow.holds Try.pinned (OpenSpec.upto inet6PlainSpec)

end Rows
end Go.Proofs.Ytjdeooeddcjmmaa
