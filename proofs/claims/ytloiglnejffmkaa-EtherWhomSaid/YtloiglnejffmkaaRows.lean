/-
  No cell of these rows narrows 'for every input' (looked for: loops, veiled, ifaces, maps, wideKeys, modest, calm, conditions, laid).
  DERIVED. THE GIVEN ROWS OF THIS SEAT. 13 by the template 'for every input the law returns true; each argument reads behind the call as it read before'; 0 by the template 'total and deterministic' (their statements: YtloiglnejffmkaaTotals.lean).
  GIVEN WITH THE SEED: the statements are not yours to turn. If you find one false, say at which input.
  Laid BY PROGRAM, IN A SANDBOX (cutbox-rows.mjs): the forced cells as the released guide's own fill.sh prints them over the translation 687476a01db9230b… (all of the seat's roots in one cut). By AI agents, Wed Nov 11 2026. No macro, syntax, notation, axiom, sorry.
-/
import Derived.Test.YtloiglnejffmkaaChecked
import GoSem.Claim
import GoSem.ClaimJoined
import GoSem.ClaimMapViews
import Derived.JoinedTies
import Derived.KernelRfl
namespace Go.Proofs.Ytloiglnejffmkaa
/- THE CELL 'sum', in the pinned program and in every row, IS THE sha256 OF THE DUMP (.gsa) THAT YtloiglnejffmkaaProg.lean LOADS. Nothing in Lean hashes anything: it is a label: what it is worth is what the hold of that sum in a sandbox is worth. -/
noncomputable def Try.pinned : Pinned := { name := "ytloiglnejffmkaa", sum := "687476a01db9230b7f73010f2ad5fb707d879214c07ef3392d3242086d115f8c", checked := Try.checked }
namespace Rows
def none {H : Type} : Left H := { results := [], args := [] }

/-- 'bailifflaw02.CursorOwn': WHATEVER THE INPUT: true; the input reads as it did. -/
def cursorOwnSpec : ChangeSpec := { name := "cursorOwn", fn := fun _ => fun
  | [d] => { results := [.lit (.bool true)], args := [d] }
  | _ => none }
def cursorOwnRow : OpenClaim := { program := "ytloiglnejffmkaa", sum := "687476a01db9230b7f73010f2ad5fb707d879214c07ef3392d3242086d115f8c", func := "bailiff/bailifflaw02.CursorOwn", spec := "cursorOwn", apart := false }
def CursorOwnSaid : Prop := cursorOwnRow.holds Try.pinned (OpenSpec.ofChange cursorOwnSpec)

/-- ITS FALSE NEIGHBOUR: 'it returns false'. Refute it at one input. -/
def cursorOwnWrong : ChangeSpec := { name := "cursorOwn", fn := fun _ => fun
  | [d] => { results := [.lit (.bool false)], args := [d] }
  | _ => none }
def CursorOwnWrongFalsely : Prop := cursorOwnRow.holds Try.pinned (OpenSpec.ofChange cursorOwnWrong)

/-- 'bailifflaw08.EtherWhom': WHATEVER THE INPUT: true; the input reads as it did. -/
def etherWhomSpec : ChangeSpec := { name := "etherWhom", fn := fun _ => fun
  | [d1, d2] => { results := [.lit (.bool true)], args := [d1, d2] }
  | _ => none }
def etherWhomRow : OpenClaim := { program := "ytloiglnejffmkaa", sum := "687476a01db9230b7f73010f2ad5fb707d879214c07ef3392d3242086d115f8c", func := "bailiff/bailifflaw08.EtherWhom", spec := "etherWhom", apart := false }
def EtherWhomSaid : Prop := etherWhomRow.holds Try.pinned (OpenSpec.ofChange etherWhomSpec)

/-- ITS FALSE NEIGHBOUR: 'it returns false'. Refute it at one input. -/
def etherWhomWrong : ChangeSpec := { name := "etherWhom", fn := fun _ => fun
  | [d1, d2] => { results := [.lit (.bool false)], args := [d1, d2] }
  | _ => none }
def EtherWhomWrongFalsely : Prop := etherWhomRow.holds Try.pinned (OpenSpec.ofChange etherWhomWrong)

/-- 'bailifflaw02.CursorPuts': WHATEVER THE INPUT: true; the input reads as it did. -/
def cursorPutsSpec : ChangeSpec := { name := "cursorPuts", fn := fun _ => fun
  | [d1, d2] => { results := [.lit (.bool true)], args := [d1, d2] }
  | _ => none }
def cursorPutsRow : OpenClaim := { program := "ytloiglnejffmkaa", sum := "687476a01db9230b7f73010f2ad5fb707d879214c07ef3392d3242086d115f8c", func := "bailiff/bailifflaw02.CursorPuts", spec := "cursorPuts", apart := false }
def CursorPutsSaid : Prop := cursorPutsRow.holds Try.pinned (OpenSpec.ofChange cursorPutsSpec)

/-- ITS FALSE NEIGHBOUR: 'it returns false'. Refute it at one input. -/
def cursorPutsWrong : ChangeSpec := { name := "cursorPuts", fn := fun _ => fun
  | [d1, d2] => { results := [.lit (.bool false)], args := [d1, d2] }
  | _ => none }
def CursorPutsWrongFalsely : Prop := cursorPutsRow.holds Try.pinned (OpenSpec.ofChange cursorPutsWrong)

/-- 'bailifflaw02.CursorTakes': WHATEVER THE INPUT: true; the input reads as it did. -/
def cursorTakesSpec : ChangeSpec := { name := "cursorTakes", fn := fun _ => fun
  | [d1, d2] => { results := [.lit (.bool true)], args := [d1, d2] }
  | _ => none }
def cursorTakesRow : OpenClaim := { program := "ytloiglnejffmkaa", sum := "687476a01db9230b7f73010f2ad5fb707d879214c07ef3392d3242086d115f8c", func := "bailiff/bailifflaw02.CursorTakes", spec := "cursorTakes", apart := false }
def CursorTakesSaid : Prop := cursorTakesRow.holds Try.pinned (OpenSpec.ofChange cursorTakesSpec)

/-- ITS FALSE NEIGHBOUR: 'it returns false'. Refute it at one input. -/
def cursorTakesWrong : ChangeSpec := { name := "cursorTakes", fn := fun _ => fun
  | [d1, d2] => { results := [.lit (.bool false)], args := [d1, d2] }
  | _ => none }
def CursorTakesWrongFalsely : Prop := cursorTakesRow.holds Try.pinned (OpenSpec.ofChange cursorTakesWrong)

/-- 'bailifflaw21.TableOrder': WHATEVER THE INPUT: true; the input reads as it did. -/
def tableOrderSpec : ChangeSpec := { name := "tableOrder", fn := fun _ => fun
  | [d1, d2, d3] => { results := [.lit (.bool true)], args := [d1, d2, d3] }
  | _ => none }
def tableOrderRow : OpenClaim := { program := "ytloiglnejffmkaa", sum := "687476a01db9230b7f73010f2ad5fb707d879214c07ef3392d3242086d115f8c", func := "bailiff/bailifflaw21.TableOrder", spec := "tableOrder", inPlace := ["internal/bytealg.Compare"], apart := false }
def TableOrderSaid : Prop := tableOrderRow.holds Try.pinned (OpenSpec.ofChange tableOrderSpec)

/-- ITS FALSE NEIGHBOUR: 'it returns false'. Refute it at one input. -/
def tableOrderWrong : ChangeSpec := { name := "tableOrder", fn := fun _ => fun
  | [d1, d2, d3] => { results := [.lit (.bool false)], args := [d1, d2, d3] }
  | _ => none }
def TableOrderWrongFalsely : Prop := tableOrderRow.holds Try.pinned (OpenSpec.ofChange tableOrderWrong)

/-- 'bailifflaw21.TableFull': WHATEVER THE INPUT: true; the input reads as it did. -/
def tableFullSpec : ChangeSpec := { name := "tableFull", fn := fun _ => fun
  | [d1, d2] => { results := [.lit (.bool true)], args := [d1, d2] }
  | _ => none }
def tableFullRow : OpenClaim := { program := "ytloiglnejffmkaa", sum := "687476a01db9230b7f73010f2ad5fb707d879214c07ef3392d3242086d115f8c", func := "bailiff/bailifflaw21.TableFull", spec := "tableFull", apart := false }
def TableFullSaid : Prop := tableFullRow.holds Try.pinned (OpenSpec.ofChange tableFullSpec)

/-- ITS FALSE NEIGHBOUR: 'it returns false'. Refute it at one input. -/
def tableFullWrong : ChangeSpec := { name := "tableFull", fn := fun _ => fun
  | [d1, d2] => { results := [.lit (.bool false)], args := [d1, d2] }
  | _ => none }
def TableFullWrongFalsely : Prop := tableFullRow.holds Try.pinned (OpenSpec.ofChange tableFullWrong)

/-- 'bailifflaw31.ScriptReads': WHATEVER THE INPUT: true; the input reads as it did. -/
def scriptReadsSpec : ChangeSpec := { name := "scriptReads", fn := fun _ => fun
  | [d] => { results := [.lit (.bool true)], args := [d] }
  | _ => none }
def scriptReadsRow : OpenClaim := { program := "ytloiglnejffmkaa", sum := "687476a01db9230b7f73010f2ad5fb707d879214c07ef3392d3242086d115f8c", func := "bailiff/bailifflaw31.ScriptReads", spec := "scriptReads", apart := false }
def ScriptReadsSaid : Prop := scriptReadsRow.holds Try.pinned (OpenSpec.ofChange scriptReadsSpec)

/-- ITS FALSE NEIGHBOUR: 'it returns false'. Refute it at one input. -/
def scriptReadsWrong : ChangeSpec := { name := "scriptReads", fn := fun _ => fun
  | [d] => { results := [.lit (.bool false)], args := [d] }
  | _ => none }
def ScriptReadsWrongFalsely : Prop := scriptReadsRow.holds Try.pinned (OpenSpec.ofChange scriptReadsWrong)

/-- 'bailifflaw31.ScriptWrites': WHATEVER THE INPUT: true; the input reads as it did. -/
def scriptWritesSpec : ChangeSpec := { name := "scriptWrites", fn := fun _ => fun
  | [d] => { results := [.lit (.bool true)], args := [d] }
  | _ => none }
def scriptWritesRow : OpenClaim := { program := "ytloiglnejffmkaa", sum := "687476a01db9230b7f73010f2ad5fb707d879214c07ef3392d3242086d115f8c", func := "bailiff/bailifflaw31.ScriptWrites", spec := "scriptWrites", apart := false }
def ScriptWritesSaid : Prop := scriptWritesRow.holds Try.pinned (OpenSpec.ofChange scriptWritesSpec)

/-- ITS FALSE NEIGHBOUR: 'it returns false'. Refute it at one input. -/
def scriptWritesWrong : ChangeSpec := { name := "scriptWrites", fn := fun _ => fun
  | [d] => { results := [.lit (.bool false)], args := [d] }
  | _ => none }
def ScriptWritesWrongFalsely : Prop := scriptWritesRow.holds Try.pinned (OpenSpec.ofChange scriptWritesWrong)

/-- 'bailifflaw21.TablePlays': WHATEVER THE INPUT: true; the input reads as it did. -/
def tablePlaysSpec : ChangeSpec := { name := "tablePlays", fn := fun _ => fun
  | [d1, d2] => { results := [.lit (.bool true)], args := [d1, d2] }
  | _ => none }
def tablePlaysRow : OpenClaim := { program := "ytloiglnejffmkaa", sum := "687476a01db9230b7f73010f2ad5fb707d879214c07ef3392d3242086d115f8c", func := "bailiff/bailifflaw21.TablePlays", spec := "tablePlays", inPlace := ["internal/bytealg.Compare"], unfollowed := true, recurses := true, apart := false }
def TablePlaysSaid : Prop := tablePlaysRow.holds Try.pinned (OpenSpec.ofChange tablePlaysSpec)

/-- ITS FALSE NEIGHBOUR: 'it returns false'. Refute it at one input. -/
def tablePlaysWrong : ChangeSpec := { name := "tablePlays", fn := fun _ => fun
  | [d1, d2] => { results := [.lit (.bool false)], args := [d1, d2] }
  | _ => none }
def TablePlaysWrongFalsely : Prop := tablePlaysRow.holds Try.pinned (OpenSpec.ofChange tablePlaysWrong)

/-- 'bailifflaw21.TableTexts': WHATEVER THE INPUT: true; the input reads as it did. -/
def tableTextsSpec : ChangeSpec := { name := "tableTexts", fn := fun _ => fun
  | [d1, d2] => { results := [.lit (.bool true)], args := [d1, d2] }
  | _ => none }
def tableTextsRow : OpenClaim := { program := "ytloiglnejffmkaa", sum := "687476a01db9230b7f73010f2ad5fb707d879214c07ef3392d3242086d115f8c", func := "bailiff/bailifflaw21.TableTexts", spec := "tableTexts", inPlace := ["internal/bytealg.Compare"], unfollowed := true, recurses := true, apart := false }
def TableTextsSaid : Prop := tableTextsRow.holds Try.pinned (OpenSpec.ofChange tableTextsSpec)

/-- ITS FALSE NEIGHBOUR: 'it returns false'. Refute it at one input. -/
def tableTextsWrong : ChangeSpec := { name := "tableTexts", fn := fun _ => fun
  | [d1, d2] => { results := [.lit (.bool false)], args := [d1, d2] }
  | _ => none }
def TableTextsWrongFalsely : Prop := tableTextsRow.holds Try.pinned (OpenSpec.ofChange tableTextsWrong)

/-- 'bailifflaw22.BoxTerms': WHATEVER THE INPUT: true; the input reads as it did. -/
def boxTermsSpec : ChangeSpec := { name := "boxTerms", fn := fun _ => fun
  | [d1, d2, d3, d4] => { results := [.lit (.bool true)], args := [d1, d2, d3, d4] }
  | _ => none }
def boxTermsRow : OpenClaim := { program := "ytloiglnejffmkaa", sum := "687476a01db9230b7f73010f2ad5fb707d879214c07ef3392d3242086d115f8c", func := "bailiff/bailifflaw22.BoxTerms", spec := "boxTerms", inPlace := ["internal/bytealg.Compare"], unfollowed := true, recurses := true, apart := false }
def BoxTermsSaid : Prop := boxTermsRow.holds Try.pinned (OpenSpec.ofChange boxTermsSpec)

/-- ITS FALSE NEIGHBOUR: 'it returns false'. Refute it at one input. -/
def boxTermsWrong : ChangeSpec := { name := "boxTerms", fn := fun _ => fun
  | [d1, d2, d3, d4] => { results := [.lit (.bool false)], args := [d1, d2, d3, d4] }
  | _ => none }
def BoxTermsWrongFalsely : Prop := boxTermsRow.holds Try.pinned (OpenSpec.ofChange boxTermsWrong)

/-- 'bailifflaw22.BoxRoom': WHATEVER THE INPUT: true; the input reads as it did. -/
def boxRoomSpec : ChangeSpec := { name := "boxRoom", fn := fun _ => fun
  | [d1, d2, d3] => { results := [.lit (.bool true)], args := [d1, d2, d3] }
  | _ => none }
def boxRoomRow : OpenClaim := { program := "ytloiglnejffmkaa", sum := "687476a01db9230b7f73010f2ad5fb707d879214c07ef3392d3242086d115f8c", func := "bailiff/bailifflaw22.BoxRoom", spec := "boxRoom", inPlace := ["internal/bytealg.Compare"], unfollowed := true, recurses := true, apart := false }
def BoxRoomSaid : Prop := boxRoomRow.holds Try.pinned (OpenSpec.ofChange boxRoomSpec)

/-- ITS FALSE NEIGHBOUR: 'it returns false'. Refute it at one input. -/
def boxRoomWrong : ChangeSpec := { name := "boxRoom", fn := fun _ => fun
  | [d1, d2, d3] => { results := [.lit (.bool false)], args := [d1, d2, d3] }
  | _ => none }
def BoxRoomWrongFalsely : Prop := boxRoomRow.holds Try.pinned (OpenSpec.ofChange boxRoomWrong)

/-- 'bailifflaw22.BoxPlays': WHATEVER THE INPUT: true; the input reads as it did. -/
def boxPlaysSpec : ChangeSpec := { name := "boxPlays", fn := fun _ => fun
  | [d1, d2, d3, d4, d5] => { results := [.lit (.bool true)], args := [d1, d2, d3, d4, d5] }
  | _ => none }
def boxPlaysRow : OpenClaim := { program := "ytloiglnejffmkaa", sum := "687476a01db9230b7f73010f2ad5fb707d879214c07ef3392d3242086d115f8c", func := "bailiff/bailifflaw22.BoxPlays", spec := "boxPlays", inPlace := ["internal/bytealg.Compare"], unfollowed := true, recurses := true, apart := false }
def BoxPlaysSaid : Prop := boxPlaysRow.holds Try.pinned (OpenSpec.ofChange boxPlaysSpec)

/-- ITS FALSE NEIGHBOUR: 'it returns false'. Refute it at one input. -/
def boxPlaysWrong : ChangeSpec := { name := "boxPlays", fn := fun _ => fun
  | [d1, d2, d3, d4, d5] => { results := [.lit (.bool false)], args := [d1, d2, d3, d4, d5] }
  | _ => none }
def BoxPlaysWrongFalsely : Prop := boxPlaysRow.holds Try.pinned (OpenSpec.ofChange boxPlaysWrong)

/- THE SECOND FORM. 'bulk': how many values and letters a reading holds, each counted each time it is reached (what is shared counts as often as it is met; a slice's spare places count too). A statement '..UptoSaid' is the law's where the arguments, and the package variables that the reading takes, are together of bulk at most 1048576: NARROWER than '..Said'. Prove '..Said' where nothing that the law and all that it calls make is longer than what came in: it says more and counts as full. Else prove '..UptoSaid'. A law counts once. -/
mutual
def uptoBulk {H : Type} : DataW H → Nat
  | .lit (.string bytes) => bytes.length + 1
  | .lit _ => 1
  | .nil => 1
  | .ptr d => uptoBulk d + 1
  | .slice elems spare => uptoBulkAll elems + uptoBulkAll spare + 1
  | .agg parts => uptoBulkAll parts + 1
  | .iface _ d => uptoBulk d + 1
  | .map entries => uptoBulkEntries entries + 1
  | .held _ => 1
def uptoBulkAll {H : Type} : List (DataW H) → Nat
  | [] => 0
  | d :: r => uptoBulk d + uptoBulkAll r
def uptoBulkEntries {H : Type} : List (Lit × DataW H) → Nat
  | [] => 0
  | x :: r => uptoBulkEntry x + uptoBulkEntries r
def uptoBulkEntry {H : Type} : Lit × DataW H → Nat
  | (.string bytes, d) => bytes.length + uptoBulk d + 1
  | (_, d) => uptoBulk d + 1
 end
def uptoSmall : (H : Type) → List (DataW H) → Bool := fun _ ds => decide (uptoBulkAll ds ≤ 1048576)
def OpenSpec.upto (s : _root_.Go.ChangeSpec) : _root_.Go.OpenSpec := { _root_.Go.OpenSpec.ofChange s with cond := some uptoSmall }

/-- 'bailifflaw02.CursorOwn', WHERE WHAT IT READS IS OF BULK AT MOST 1048576: true; the input reads as it did. -/
def cursorOwnUptoRow : OpenClaim := { program := "ytloiglnejffmkaa", sum := "687476a01db9230b7f73010f2ad5fb707d879214c07ef3392d3242086d115f8c", func := "bailiff/bailifflaw02.CursorOwn", spec := "cursorOwn", apart := false, narrowed := true }
def CursorOwnUptoSaid : Prop := cursorOwnUptoRow.holds Try.pinned (OpenSpec.upto cursorOwnSpec)

/-- 'bailifflaw08.EtherWhom', WHERE WHAT IT READS IS OF BULK AT MOST 1048576: true; the input reads as it did. -/
def etherWhomUptoRow : OpenClaim := { program := "ytloiglnejffmkaa", sum := "687476a01db9230b7f73010f2ad5fb707d879214c07ef3392d3242086d115f8c", func := "bailiff/bailifflaw08.EtherWhom", spec := "etherWhom", apart := false, narrowed := true }
def EtherWhomUptoSaid : Prop := etherWhomUptoRow.holds Try.pinned (OpenSpec.upto etherWhomSpec)

/-- 'bailifflaw02.CursorPuts', WHERE WHAT IT READS IS OF BULK AT MOST 1048576: true; the input reads as it did. -/
def cursorPutsUptoRow : OpenClaim := { program := "ytloiglnejffmkaa", sum := "687476a01db9230b7f73010f2ad5fb707d879214c07ef3392d3242086d115f8c", func := "bailiff/bailifflaw02.CursorPuts", spec := "cursorPuts", apart := false, narrowed := true }
def CursorPutsUptoSaid : Prop := cursorPutsUptoRow.holds Try.pinned (OpenSpec.upto cursorPutsSpec)

/-- 'bailifflaw02.CursorTakes', WHERE WHAT IT READS IS OF BULK AT MOST 1048576: true; the input reads as it did. -/
def cursorTakesUptoRow : OpenClaim := { program := "ytloiglnejffmkaa", sum := "687476a01db9230b7f73010f2ad5fb707d879214c07ef3392d3242086d115f8c", func := "bailiff/bailifflaw02.CursorTakes", spec := "cursorTakes", apart := false, narrowed := true }
def CursorTakesUptoSaid : Prop := cursorTakesUptoRow.holds Try.pinned (OpenSpec.upto cursorTakesSpec)

/-- 'bailifflaw21.TableOrder', WHERE WHAT IT READS IS OF BULK AT MOST 1048576: true; the input reads as it did. -/
def tableOrderUptoRow : OpenClaim := { program := "ytloiglnejffmkaa", sum := "687476a01db9230b7f73010f2ad5fb707d879214c07ef3392d3242086d115f8c", func := "bailiff/bailifflaw21.TableOrder", spec := "tableOrder", inPlace := ["internal/bytealg.Compare"], apart := false, narrowed := true }
def TableOrderUptoSaid : Prop := tableOrderUptoRow.holds Try.pinned (OpenSpec.upto tableOrderSpec)

/-- 'bailifflaw21.TableFull', WHERE WHAT IT READS IS OF BULK AT MOST 1048576: true; the input reads as it did. -/
def tableFullUptoRow : OpenClaim := { program := "ytloiglnejffmkaa", sum := "687476a01db9230b7f73010f2ad5fb707d879214c07ef3392d3242086d115f8c", func := "bailiff/bailifflaw21.TableFull", spec := "tableFull", apart := false, narrowed := true }
def TableFullUptoSaid : Prop := tableFullUptoRow.holds Try.pinned (OpenSpec.upto tableFullSpec)

/-- 'bailifflaw31.ScriptReads', WHERE WHAT IT READS IS OF BULK AT MOST 1048576: true; the input reads as it did. -/
def scriptReadsUptoRow : OpenClaim := { program := "ytloiglnejffmkaa", sum := "687476a01db9230b7f73010f2ad5fb707d879214c07ef3392d3242086d115f8c", func := "bailiff/bailifflaw31.ScriptReads", spec := "scriptReads", apart := false, narrowed := true }
def ScriptReadsUptoSaid : Prop := scriptReadsUptoRow.holds Try.pinned (OpenSpec.upto scriptReadsSpec)

/-- 'bailifflaw31.ScriptWrites', WHERE WHAT IT READS IS OF BULK AT MOST 1048576: true; the input reads as it did. -/
def scriptWritesUptoRow : OpenClaim := { program := "ytloiglnejffmkaa", sum := "687476a01db9230b7f73010f2ad5fb707d879214c07ef3392d3242086d115f8c", func := "bailiff/bailifflaw31.ScriptWrites", spec := "scriptWrites", apart := false, narrowed := true }
def ScriptWritesUptoSaid : Prop := scriptWritesUptoRow.holds Try.pinned (OpenSpec.upto scriptWritesSpec)

/-- 'bailifflaw21.TablePlays', WHERE WHAT IT READS IS OF BULK AT MOST 1048576: true; the input reads as it did. -/
def tablePlaysUptoRow : OpenClaim := { program := "ytloiglnejffmkaa", sum := "687476a01db9230b7f73010f2ad5fb707d879214c07ef3392d3242086d115f8c", func := "bailiff/bailifflaw21.TablePlays", spec := "tablePlays", inPlace := ["internal/bytealg.Compare"], unfollowed := true, recurses := true, apart := false, narrowed := true }
def TablePlaysUptoSaid : Prop := tablePlaysUptoRow.holds Try.pinned (OpenSpec.upto tablePlaysSpec)

/-- 'bailifflaw21.TableTexts', WHERE WHAT IT READS IS OF BULK AT MOST 1048576: true; the input reads as it did. -/
def tableTextsUptoRow : OpenClaim := { program := "ytloiglnejffmkaa", sum := "687476a01db9230b7f73010f2ad5fb707d879214c07ef3392d3242086d115f8c", func := "bailiff/bailifflaw21.TableTexts", spec := "tableTexts", inPlace := ["internal/bytealg.Compare"], unfollowed := true, recurses := true, apart := false, narrowed := true }
def TableTextsUptoSaid : Prop := tableTextsUptoRow.holds Try.pinned (OpenSpec.upto tableTextsSpec)

/-- 'bailifflaw22.BoxTerms', WHERE WHAT IT READS IS OF BULK AT MOST 1048576: true; the input reads as it did. -/
def boxTermsUptoRow : OpenClaim := { program := "ytloiglnejffmkaa", sum := "687476a01db9230b7f73010f2ad5fb707d879214c07ef3392d3242086d115f8c", func := "bailiff/bailifflaw22.BoxTerms", spec := "boxTerms", inPlace := ["internal/bytealg.Compare"], unfollowed := true, recurses := true, apart := false, narrowed := true }
def BoxTermsUptoSaid : Prop := boxTermsUptoRow.holds Try.pinned (OpenSpec.upto boxTermsSpec)

/-- 'bailifflaw22.BoxRoom', WHERE WHAT IT READS IS OF BULK AT MOST 1048576: true; the input reads as it did. -/
def boxRoomUptoRow : OpenClaim := { program := "ytloiglnejffmkaa", sum := "687476a01db9230b7f73010f2ad5fb707d879214c07ef3392d3242086d115f8c", func := "bailiff/bailifflaw22.BoxRoom", spec := "boxRoom", inPlace := ["internal/bytealg.Compare"], unfollowed := true, recurses := true, apart := false, narrowed := true }
def BoxRoomUptoSaid : Prop := boxRoomUptoRow.holds Try.pinned (OpenSpec.upto boxRoomSpec)

/-- 'bailifflaw22.BoxPlays', WHERE WHAT IT READS IS OF BULK AT MOST 1048576: true; the input reads as it did. -/
def boxPlaysUptoRow : OpenClaim := { program := "ytloiglnejffmkaa", sum := "687476a01db9230b7f73010f2ad5fb707d879214c07ef3392d3242086d115f8c", func := "bailiff/bailifflaw22.BoxPlays", spec := "boxPlays", inPlace := ["internal/bytealg.Compare"], unfollowed := true, recurses := true, apart := false, narrowed := true }
def BoxPlaysUptoSaid : Prop := boxPlaysUptoRow.holds Try.pinned (OpenSpec.upto boxPlaysSpec)

end Rows
end Go.Proofs.Ytloiglnejffmkaa
