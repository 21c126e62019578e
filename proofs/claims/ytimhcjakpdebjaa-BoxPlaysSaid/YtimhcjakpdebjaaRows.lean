/-
  No cell of these rows narrows 'for every input' (looked for: loops, veiled, ifaces, maps, wideKeys, modest, calm, conditions, laid).
  DERIVED. THE GIVEN ROWS OF THIS SEAT. 7 by the template 'for every input the law returns true; each argument reads behind the call as it read before'; 0 by the template 'total and deterministic' (their statements: YtimhcjakpdebjaaTotals.lean).
  GIVEN WITH THE SEED: the statements are not yours to turn. If you find one false, say at which input.
  Laid BY PROGRAM, IN A SANDBOX (cutbox-rows.mjs): the forced cells as the released guide's own fill.sh prints them over the translation dc1d1111c04113ac… (all of the seat's roots in one cut). By AI agents, Wed Nov 11 2026. No macro, syntax, notation, axiom, sorry.
-/
import Derived.Test.YtimhcjakpdebjaaChecked
import GoSem.Claim
import GoSem.ClaimJoined
import GoSem.ClaimMapViews
import Derived.JoinedTies
import Derived.KernelRfl
namespace Go.Proofs.Ytimhcjakpdebjaa
/- THE CELL 'sum', in the pinned program and in every row, IS THE sha256 OF THE DUMP (.gsa) THAT YtimhcjakpdebjaaProg.lean LOADS. Nothing in Lean hashes anything: it is a label: what it is worth is what the hold of that sum in a sandbox is worth. -/
noncomputable def Try.pinned : Pinned := { name := "ytimhcjakpdebjaa", sum := "dc1d1111c04113acdb81e5645c6757ceb0fbee04fd1a14bc09c10fb4a322af81", checked := Try.checked }
namespace Rows
def none {H : Type} : Left H := { results := [], args := [] }

/-- 'bailifflaw21.TableOrder': WHATEVER THE INPUT: true; the input reads as it did. -/
def tableOrderSpec : ChangeSpec := { name := "tableOrder", fn := fun _ => fun
  | [d1, d2, d3] => { results := [.lit (.bool true)], args := [d1, d2, d3] }
  | _ => none }
def tableOrderRow : OpenClaim := { program := "ytimhcjakpdebjaa", sum := "dc1d1111c04113acdb81e5645c6757ceb0fbee04fd1a14bc09c10fb4a322af81", func := "bailiff/bailifflaw21.TableOrder", spec := "tableOrder", inPlace := ["internal/bytealg.Compare"], apart := false }
def TableOrderSaid : Prop := tableOrderRow.holds Try.pinned (OpenSpec.ofChange tableOrderSpec)

/-- ITS FALSE NEIGHBOUR: 'it returns false'. Refute it at one input. -/
def tableOrderWrong : ChangeSpec := { name := "tableOrder", fn := fun _ => fun
  | [d1, d2, d3] => { results := [.lit (.bool false)], args := [d1, d2, d3] }
  | _ => none }
def TableOrderWrongFalsely : Prop := tableOrderRow.holds Try.pinned (OpenSpec.ofChange tableOrderWrong)

/-- 'bailifflaw21.TableFull': WHATEVER THE INPUT: true; the input reads as it did. -/
def tableFullSpec : ChangeSpec := { name := "tableFull", fn := fun _ => fun
  | [d1, d2] => { results := [.lit (.bool true)], args := [d1, d2] }
  | _ => none }
def tableFullRow : OpenClaim := { program := "ytimhcjakpdebjaa", sum := "dc1d1111c04113acdb81e5645c6757ceb0fbee04fd1a14bc09c10fb4a322af81", func := "bailiff/bailifflaw21.TableFull", spec := "tableFull", apart := false }
def TableFullSaid : Prop := tableFullRow.holds Try.pinned (OpenSpec.ofChange tableFullSpec)

/-- ITS FALSE NEIGHBOUR: 'it returns false'. Refute it at one input. -/
def tableFullWrong : ChangeSpec := { name := "tableFull", fn := fun _ => fun
  | [d1, d2] => { results := [.lit (.bool false)], args := [d1, d2] }
  | _ => none }
def TableFullWrongFalsely : Prop := tableFullRow.holds Try.pinned (OpenSpec.ofChange tableFullWrong)

/-- 'bailifflaw21.TablePlays': WHATEVER THE INPUT: true; the input reads as it did. -/
def tablePlaysSpec : ChangeSpec := { name := "tablePlays", fn := fun _ => fun
  | [d1, d2] => { results := [.lit (.bool true)], args := [d1, d2] }
  | _ => none }
def tablePlaysRow : OpenClaim := { program := "ytimhcjakpdebjaa", sum := "dc1d1111c04113acdb81e5645c6757ceb0fbee04fd1a14bc09c10fb4a322af81", func := "bailiff/bailifflaw21.TablePlays", spec := "tablePlays", inPlace := ["internal/bytealg.Compare"], unfollowed := true, recurses := true, apart := false }
def TablePlaysSaid : Prop := tablePlaysRow.holds Try.pinned (OpenSpec.ofChange tablePlaysSpec)

/-- ITS FALSE NEIGHBOUR: 'it returns false'. Refute it at one input. -/
def tablePlaysWrong : ChangeSpec := { name := "tablePlays", fn := fun _ => fun
  | [d1, d2] => { results := [.lit (.bool false)], args := [d1, d2] }
  | _ => none }
def TablePlaysWrongFalsely : Prop := tablePlaysRow.holds Try.pinned (OpenSpec.ofChange tablePlaysWrong)

/-- 'bailifflaw21.TableTexts': WHATEVER THE INPUT: true; the input reads as it did. -/
def tableTextsSpec : ChangeSpec := { name := "tableTexts", fn := fun _ => fun
  | [d1, d2] => { results := [.lit (.bool true)], args := [d1, d2] }
  | _ => none }
def tableTextsRow : OpenClaim := { program := "ytimhcjakpdebjaa", sum := "dc1d1111c04113acdb81e5645c6757ceb0fbee04fd1a14bc09c10fb4a322af81", func := "bailiff/bailifflaw21.TableTexts", spec := "tableTexts", inPlace := ["internal/bytealg.Compare"], unfollowed := true, recurses := true, apart := false }
def TableTextsSaid : Prop := tableTextsRow.holds Try.pinned (OpenSpec.ofChange tableTextsSpec)

/-- ITS FALSE NEIGHBOUR: 'it returns false'. Refute it at one input. -/
def tableTextsWrong : ChangeSpec := { name := "tableTexts", fn := fun _ => fun
  | [d1, d2] => { results := [.lit (.bool false)], args := [d1, d2] }
  | _ => none }
def TableTextsWrongFalsely : Prop := tableTextsRow.holds Try.pinned (OpenSpec.ofChange tableTextsWrong)

/-- 'bailifflaw22.BoxTerms': WHATEVER THE INPUT: true; the input reads as it did. -/
def boxTermsSpec : ChangeSpec := { name := "boxTerms", fn := fun _ => fun
  | [d1, d2, d3, d4] => { results := [.lit (.bool true)], args := [d1, d2, d3, d4] }
  | _ => none }
def boxTermsRow : OpenClaim := { program := "ytimhcjakpdebjaa", sum := "dc1d1111c04113acdb81e5645c6757ceb0fbee04fd1a14bc09c10fb4a322af81", func := "bailiff/bailifflaw22.BoxTerms", spec := "boxTerms", inPlace := ["internal/bytealg.Compare"], unfollowed := true, recurses := true, apart := false }
def BoxTermsSaid : Prop := boxTermsRow.holds Try.pinned (OpenSpec.ofChange boxTermsSpec)

/-- ITS FALSE NEIGHBOUR: 'it returns false'. Refute it at one input. -/
def boxTermsWrong : ChangeSpec := { name := "boxTerms", fn := fun _ => fun
  | [d1, d2, d3, d4] => { results := [.lit (.bool false)], args := [d1, d2, d3, d4] }
  | _ => none }
def BoxTermsWrongFalsely : Prop := boxTermsRow.holds Try.pinned (OpenSpec.ofChange boxTermsWrong)

/-- 'bailifflaw22.BoxRoom': WHATEVER THE INPUT: true; the input reads as it did. -/
def boxRoomSpec : ChangeSpec := { name := "boxRoom", fn := fun _ => fun
  | [d1, d2, d3] => { results := [.lit (.bool true)], args := [d1, d2, d3] }
  | _ => none }
def boxRoomRow : OpenClaim := { program := "ytimhcjakpdebjaa", sum := "dc1d1111c04113acdb81e5645c6757ceb0fbee04fd1a14bc09c10fb4a322af81", func := "bailiff/bailifflaw22.BoxRoom", spec := "boxRoom", inPlace := ["internal/bytealg.Compare"], unfollowed := true, recurses := true, apart := false }
def BoxRoomSaid : Prop := boxRoomRow.holds Try.pinned (OpenSpec.ofChange boxRoomSpec)

/-- ITS FALSE NEIGHBOUR: 'it returns false'. Refute it at one input. -/
def boxRoomWrong : ChangeSpec := { name := "boxRoom", fn := fun _ => fun
  | [d1, d2, d3] => { results := [.lit (.bool false)], args := [d1, d2, d3] }
  | _ => none }
def BoxRoomWrongFalsely : Prop := boxRoomRow.holds Try.pinned (OpenSpec.ofChange boxRoomWrong)

/-- 'bailifflaw22.BoxPlays': WHATEVER THE INPUT: true; the input reads as it did. -/
def boxPlaysSpec : ChangeSpec := { name := "boxPlays", fn := fun _ => fun
  | [d1, d2, d3, d4, d5] => { results := [.lit (.bool true)], args := [d1, d2, d3, d4, d5] }
  | _ => none }
def boxPlaysRow : OpenClaim := { program := "ytimhcjakpdebjaa", sum := "dc1d1111c04113acdb81e5645c6757ceb0fbee04fd1a14bc09c10fb4a322af81", func := "bailiff/bailifflaw22.BoxPlays", spec := "boxPlays", inPlace := ["internal/bytealg.Compare"], unfollowed := true, recurses := true, apart := false }
def BoxPlaysSaid : Prop := boxPlaysRow.holds Try.pinned (OpenSpec.ofChange boxPlaysSpec)

/-- ITS FALSE NEIGHBOUR: 'it returns false'. Refute it at one input. -/
def boxPlaysWrong : ChangeSpec := { name := "boxPlays", fn := fun _ => fun
  | [d1, d2, d3, d4, d5] => { results := [.lit (.bool false)], args := [d1, d2, d3, d4, d5] }
  | _ => none }
def BoxPlaysWrongFalsely : Prop := boxPlaysRow.holds Try.pinned (OpenSpec.ofChange boxPlaysWrong)

/- THE SECOND FORM. 'bulk': how many values and letters a reading holds, each counted each time it is reached (what is shared counts as often as it is met; a slice's spare places count too). A statement '..UptoSaid' is the law's where the arguments, and the package variables that the reading takes, are together of bulk at most 1048576: NARROWER than '..Said'. Prove '..Said' where nothing that the law and all that it calls make is longer than what came in: it says more and counts as full. Else prove '..UptoSaid'. A law counts once. -/
mutual
def uptoBulk {H : Type} : DataW H → Nat
  | .lit (.string bytes) => bytes.length + 1
  | .lit _ => 1
  | .nil => 1
  | .ptr d => uptoBulk d + 1
  | .slice elems spare => uptoBulkAll elems + uptoBulkAll spare + 1
  | .agg parts => uptoBulkAll parts + 1
  | .iface _ d => uptoBulk d + 1
  | .map entries => uptoBulkEntries entries + 1
  | .held _ => 1
def uptoBulkAll {H : Type} : List (DataW H) → Nat
  | [] => 0
  | d :: r => uptoBulk d + uptoBulkAll r
def uptoBulkEntries {H : Type} : List (Lit × DataW H) → Nat
  | [] => 0
  | x :: r => uptoBulkEntry x + uptoBulkEntries r
def uptoBulkEntry {H : Type} : Lit × DataW H → Nat
  | (.string bytes, d) => bytes.length + uptoBulk d + 1
  | (_, d) => uptoBulk d + 1
 end
def uptoSmall : (H : Type) → List (DataW H) → Bool := fun _ ds => decide (uptoBulkAll ds ≤ 1048576)
def OpenSpec.upto (s : _root_.Go.ChangeSpec) : _root_.Go.OpenSpec := { _root_.Go.OpenSpec.ofChange s with cond := some uptoSmall }

/-- 'bailifflaw21.TableOrder', WHERE WHAT IT READS IS OF BULK AT MOST 1048576: true; the input reads as it did. -/
def tableOrderUptoRow : OpenClaim := { program := "ytimhcjakpdebjaa", sum := "dc1d1111c04113acdb81e5645c6757ceb0fbee04fd1a14bc09c10fb4a322af81", func := "bailiff/bailifflaw21.TableOrder", spec := "tableOrder", inPlace := ["internal/bytealg.Compare"], apart := false, narrowed := true }
def TableOrderUptoSaid : Prop := tableOrderUptoRow.holds Try.pinned (OpenSpec.upto tableOrderSpec)

/-- 'bailifflaw21.TableFull', WHERE WHAT IT READS IS OF BULK AT MOST 1048576: true; the input reads as it did. -/
def tableFullUptoRow : OpenClaim := { program := "ytimhcjakpdebjaa", sum := "dc1d1111c04113acdb81e5645c6757ceb0fbee04fd1a14bc09c10fb4a322af81", func := "bailiff/bailifflaw21.TableFull", spec := "tableFull", apart := false, narrowed := true }
def TableFullUptoSaid : Prop := tableFullUptoRow.holds Try.pinned (OpenSpec.upto tableFullSpec)

/-- 'bailifflaw21.TablePlays', WHERE WHAT IT READS IS OF BULK AT MOST 1048576: true; the input reads as it did. -/
def tablePlaysUptoRow : OpenClaim := { program := "ytimhcjakpdebjaa", sum := "dc1d1111c04113acdb81e5645c6757ceb0fbee04fd1a14bc09c10fb4a322af81", func := "bailiff/bailifflaw21.TablePlays", spec := "tablePlays", inPlace := ["internal/bytealg.Compare"], unfollowed := true, recurses := true, apart := false, narrowed := true }
def TablePlaysUptoSaid : Prop := tablePlaysUptoRow.holds Try.pinned (OpenSpec.upto tablePlaysSpec)

/-- 'bailifflaw21.TableTexts', WHERE WHAT IT READS IS OF BULK AT MOST 1048576: true; the input reads as it did. -/
def tableTextsUptoRow : OpenClaim := { program := "ytimhcjakpdebjaa", sum := "dc1d1111c04113acdb81e5645c6757ceb0fbee04fd1a14bc09c10fb4a322af81", func := "bailiff/bailifflaw21.TableTexts", spec := "tableTexts", inPlace := ["internal/bytealg.Compare"], unfollowed := true, recurses := true, apart := false, narrowed := true }
def TableTextsUptoSaid : Prop := tableTextsUptoRow.holds Try.pinned (OpenSpec.upto tableTextsSpec)

/-- 'bailifflaw22.BoxTerms', WHERE WHAT IT READS IS OF BULK AT MOST 1048576: true; the input reads as it did. -/
def boxTermsUptoRow : OpenClaim := { program := "ytimhcjakpdebjaa", sum := "dc1d1111c04113acdb81e5645c6757ceb0fbee04fd1a14bc09c10fb4a322af81", func := "bailiff/bailifflaw22.BoxTerms", spec := "boxTerms", inPlace := ["internal/bytealg.Compare"], unfollowed := true, recurses := true, apart := false, narrowed := true }
def BoxTermsUptoSaid : Prop := boxTermsUptoRow.holds Try.pinned (OpenSpec.upto boxTermsSpec)

/-- 'bailifflaw22.BoxRoom', WHERE WHAT IT READS IS OF BULK AT MOST 1048576: true; the input reads as it did. -/
def boxRoomUptoRow : OpenClaim := { program := "ytimhcjakpdebjaa", sum := "dc1d1111c04113acdb81e5645c6757ceb0fbee04fd1a14bc09c10fb4a322af81", func := "bailiff/bailifflaw22.BoxRoom", spec := "boxRoom", inPlace := ["internal/bytealg.Compare"], unfollowed := true, recurses := true, apart := false, narrowed := true }
def BoxRoomUptoSaid : Prop := boxRoomUptoRow.holds Try.pinned (OpenSpec.upto boxRoomSpec)

/-- 'bailifflaw22.BoxPlays', WHERE WHAT IT READS IS OF BULK AT MOST 1048576: true; the input reads as it did. -/
def boxPlaysUptoRow : OpenClaim := { program := "ytimhcjakpdebjaa", sum := "dc1d1111c04113acdb81e5645c6757ceb0fbee04fd1a14bc09c10fb4a322af81", func := "bailiff/bailifflaw22.BoxPlays", spec := "boxPlays", inPlace := ["internal/bytealg.Compare"], unfollowed := true, recurses := true, apart := false, narrowed := true }
def BoxPlaysUptoSaid : Prop := boxPlaysUptoRow.holds Try.pinned (OpenSpec.upto boxPlaysSpec)

end Rows
end Go.Proofs.Ytimhcjakpdebjaa
