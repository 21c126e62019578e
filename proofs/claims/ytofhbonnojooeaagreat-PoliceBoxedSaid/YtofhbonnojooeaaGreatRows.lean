/-
  No cell of these rows narrows 'for every input' (looked for: loops, veiled, ifaces, maps, wideKeys, modest, calm, conditions, laid).
  DERIVED. THE GIVEN ROWS OF THIS SEAT. 9 by the template 'for every input the law returns true; each argument reads behind the call as it read before'; 0 by the template 'total and deterministic' (their statements: YtofhbonnojooeaaGreatTotals.lean).
  GIVEN WITH THE SEED: the statements are not yours to turn. If you find one false, say at which input.
  Laid BY PROGRAM, IN A SANDBOX (cutbox-rows.mjs): the forced cells as the released guide's own fill.sh prints them over the translation 2ca8f19815a07b51… (all of the seat's roots in one cut). By AI agents, Wed Nov 11 2026. No macro, syntax, notation, axiom, sorry.
-/
import Derived.Test.YtofhbonnojooeaaGreatChecked
import GoSem.Claim
import GoSem.ClaimJoined
import GoSem.ClaimMapViews
import Derived.JoinedTies
import Derived.KernelRfl
namespace Go.Proofs.YtofhbonnojooeaaGreat
/- THE CELL 'sum', in the pinned program and in every row, IS THE sha256 OF THE DUMP (.gsa) THAT YtofhbonnojooeaaGreatProg.lean LOADS. Nothing in Lean hashes anything: it is a label: what it is worth is what the hold of that sum in a sandbox is worth. -/
noncomputable def Tryz.pinned : Pinned := { name := "ytofhbonnojooeaagreat", sum := "2ca8f19815a07b51872dfc26c50bc01971d7fee013549f569cae6311b46753c9", checked := Tryz.checked }
namespace Rows
def none {H : Type} : Left H := { results := [], args := [] }

/-- 'bailifflaw27.PoliceBoxed': WHATEVER THE INPUT: true; the input reads as it did. -/
def policeBoxedSpec : ChangeSpec := { name := "policeBoxed", fn := fun _ => fun
  | [d1, d2, d3] => { results := [.lit (.bool true)], args := [d1, d2, d3] }
  | _ => none }
def policeBoxedRow : OpenClaim := { program := "ytofhbonnojooeaagreat", sum := "2ca8f19815a07b51872dfc26c50bc01971d7fee013549f569cae6311b46753c9", func := "bailiff/bailifflaw27.PoliceBoxed", spec := "policeBoxed", inPlace := ["internal/bytealg.Compare"], unfollowed := true, recurses := true, apart := false }
def PoliceBoxedSaid : Prop := policeBoxedRow.holds Tryz.pinned (OpenSpec.ofChange policeBoxedSpec)

/-- ITS FALSE NEIGHBOUR: 'it returns false'. Refute it at one input. -/
def policeBoxedWrong : ChangeSpec := { name := "policeBoxed", fn := fun _ => fun
  | [d1, d2, d3] => { results := [.lit (.bool false)], args := [d1, d2, d3] }
  | _ => none }
def PoliceBoxedWrongFalsely : Prop := policeBoxedRow.holds Tryz.pinned (OpenSpec.ofChange policeBoxedWrong)

/-- 'bailifflaw27.PoliceReserve': WHATEVER THE INPUT: true; the input reads as it did. -/
def policeReserveSpec : ChangeSpec := { name := "policeReserve", fn := fun _ => fun
  | [d1, d2, d3] => { results := [.lit (.bool true)], args := [d1, d2, d3] }
  | _ => none }
def policeReserveRow : OpenClaim := { program := "ytofhbonnojooeaagreat", sum := "2ca8f19815a07b51872dfc26c50bc01971d7fee013549f569cae6311b46753c9", func := "bailiff/bailifflaw27.PoliceReserve", spec := "policeReserve", inPlace := ["internal/bytealg.Compare"], unfollowed := true, recurses := true, apart := false }
def PoliceReserveSaid : Prop := policeReserveRow.holds Tryz.pinned (OpenSpec.ofChange policeReserveSpec)

/-- ITS FALSE NEIGHBOUR: 'it returns false'. Refute it at one input. -/
def policeReserveWrong : ChangeSpec := { name := "policeReserve", fn := fun _ => fun
  | [d1, d2, d3] => { results := [.lit (.bool false)], args := [d1, d2, d3] }
  | _ => none }
def PoliceReserveWrongFalsely : Prop := policeReserveRow.holds Tryz.pinned (OpenSpec.ofChange policeReserveWrong)

/-- 'bailifflaw28.SchedAlone': WHATEVER THE INPUT: true; the input reads as it did. -/
def schedAloneSpec : ChangeSpec := { name := "schedAlone", fn := fun _ => fun
  | [d1, d2, d3] => { results := [.lit (.bool true)], args := [d1, d2, d3] }
  | _ => none }
def schedAloneRow : OpenClaim := { program := "ytofhbonnojooeaagreat", sum := "2ca8f19815a07b51872dfc26c50bc01971d7fee013549f569cae6311b46753c9", func := "bailiff/bailifflaw28.SchedAlone", spec := "schedAlone", inPlace := ["internal/bytealg.Compare"], unfollowed := true, recurses := true, apart := false }
def SchedAloneSaid : Prop := schedAloneRow.holds Tryz.pinned (OpenSpec.ofChange schedAloneSpec)

/-- ITS FALSE NEIGHBOUR: 'it returns false'. Refute it at one input. -/
def schedAloneWrong : ChangeSpec := { name := "schedAlone", fn := fun _ => fun
  | [d1, d2, d3] => { results := [.lit (.bool false)], args := [d1, d2, d3] }
  | _ => none }
def SchedAloneWrongFalsely : Prop := schedAloneRow.holds Tryz.pinned (OpenSpec.ofChange schedAloneWrong)

/-- 'bailifflaw28.SchedWorks': WHATEVER THE INPUT: true; the input reads as it did. -/
def schedWorksSpec : ChangeSpec := { name := "schedWorks", fn := fun _ => fun
  | [d1, d2, d3] => { results := [.lit (.bool true)], args := [d1, d2, d3] }
  | _ => none }
def schedWorksRow : OpenClaim := { program := "ytofhbonnojooeaagreat", sum := "2ca8f19815a07b51872dfc26c50bc01971d7fee013549f569cae6311b46753c9", func := "bailiff/bailifflaw28.SchedWorks", spec := "schedWorks", inPlace := ["internal/bytealg.Compare"], unfollowed := true, recurses := true, apart := false }
def SchedWorksSaid : Prop := schedWorksRow.holds Tryz.pinned (OpenSpec.ofChange schedWorksSpec)

/-- ITS FALSE NEIGHBOUR: 'it returns false'. Refute it at one input. -/
def schedWorksWrong : ChangeSpec := { name := "schedWorks", fn := fun _ => fun
  | [d1, d2, d3] => { results := [.lit (.bool false)], args := [d1, d2, d3] }
  | _ => none }
def SchedWorksWrongFalsely : Prop := schedWorksRow.holds Tryz.pinned (OpenSpec.ofChange schedWorksWrong)

/-- 'bailifflaw28.SchedPlays': WHATEVER THE INPUT: true; the input reads as it did. -/
def schedPlaysSpec : ChangeSpec := { name := "schedPlays", fn := fun _ => fun
  | [d1, d2, d3] => { results := [.lit (.bool true)], args := [d1, d2, d3] }
  | _ => none }
def schedPlaysRow : OpenClaim := { program := "ytofhbonnojooeaagreat", sum := "2ca8f19815a07b51872dfc26c50bc01971d7fee013549f569cae6311b46753c9", func := "bailiff/bailifflaw28.SchedPlays", spec := "schedPlays", inPlace := ["internal/bytealg.Compare"], unfollowed := true, recurses := true, apart := false }
def SchedPlaysSaid : Prop := schedPlaysRow.holds Tryz.pinned (OpenSpec.ofChange schedPlaysSpec)

/-- ITS FALSE NEIGHBOUR: 'it returns false'. Refute it at one input. -/
def schedPlaysWrong : ChangeSpec := { name := "schedPlays", fn := fun _ => fun
  | [d1, d2, d3] => { results := [.lit (.bool false)], args := [d1, d2, d3] }
  | _ => none }
def SchedPlaysWrongFalsely : Prop := schedPlaysRow.holds Tryz.pinned (OpenSpec.ofChange schedPlaysWrong)

/-- 'bailifflaw27.PoliceKeeps': WHATEVER THE INPUT: true; the input reads as it did. -/
def policeKeepsSpec : ChangeSpec := { name := "policeKeeps", fn := fun _ => fun
  | [d1, d2, d3] => { results := [.lit (.bool true)], args := [d1, d2, d3] }
  | _ => none }
def policeKeepsRow : OpenClaim := { program := "ytofhbonnojooeaagreat", sum := "2ca8f19815a07b51872dfc26c50bc01971d7fee013549f569cae6311b46753c9", func := "bailiff/bailifflaw27.PoliceKeeps", spec := "policeKeeps", inPlace := ["internal/bytealg.Compare"], unfollowed := true, recurses := true, apart := false }
def PoliceKeepsSaid : Prop := policeKeepsRow.holds Tryz.pinned (OpenSpec.ofChange policeKeepsSpec)

/-- ITS FALSE NEIGHBOUR: 'it returns false'. Refute it at one input. -/
def policeKeepsWrong : ChangeSpec := { name := "policeKeeps", fn := fun _ => fun
  | [d1, d2, d3] => { results := [.lit (.bool false)], args := [d1, d2, d3] }
  | _ => none }
def PoliceKeepsWrongFalsely : Prop := policeKeepsRow.holds Tryz.pinned (OpenSpec.ofChange policeKeepsWrong)

/-- 'bailifflaw27.PoliceOrder': WHATEVER THE INPUT: true; the input reads as it did. -/
def policeOrderSpec : ChangeSpec := { name := "policeOrder", fn := fun _ => fun
  | [d1, d2, d3] => { results := [.lit (.bool true)], args := [d1, d2, d3] }
  | _ => none }
def policeOrderRow : OpenClaim := { program := "ytofhbonnojooeaagreat", sum := "2ca8f19815a07b51872dfc26c50bc01971d7fee013549f569cae6311b46753c9", func := "bailiff/bailifflaw27.PoliceOrder", spec := "policeOrder", inPlace := ["internal/bytealg.Compare"], unfollowed := true, recurses := true, apart := false }
def PoliceOrderSaid : Prop := policeOrderRow.holds Tryz.pinned (OpenSpec.ofChange policeOrderSpec)

/-- ITS FALSE NEIGHBOUR: 'it returns false'. Refute it at one input. -/
def policeOrderWrong : ChangeSpec := { name := "policeOrder", fn := fun _ => fun
  | [d1, d2, d3] => { results := [.lit (.bool false)], args := [d1, d2, d3] }
  | _ => none }
def PoliceOrderWrongFalsely : Prop := policeOrderRow.holds Tryz.pinned (OpenSpec.ofChange policeOrderWrong)

/-- 'bailifflaw27.PoliceMoves': WHATEVER THE INPUT: true; the input reads as it did. -/
def policeMovesSpec : ChangeSpec := { name := "policeMoves", fn := fun _ => fun
  | [d1, d2, d3, d4] => { results := [.lit (.bool true)], args := [d1, d2, d3, d4] }
  | _ => none }
def policeMovesRow : OpenClaim := { program := "ytofhbonnojooeaagreat", sum := "2ca8f19815a07b51872dfc26c50bc01971d7fee013549f569cae6311b46753c9", func := "bailiff/bailifflaw27.PoliceMoves", spec := "policeMoves", inPlace := ["internal/bytealg.Compare"], unfollowed := true, recurses := true, apart := false }
def PoliceMovesSaid : Prop := policeMovesRow.holds Tryz.pinned (OpenSpec.ofChange policeMovesSpec)

/-- ITS FALSE NEIGHBOUR: 'it returns false'. Refute it at one input. -/
def policeMovesWrong : ChangeSpec := { name := "policeMoves", fn := fun _ => fun
  | [d1, d2, d3, d4] => { results := [.lit (.bool false)], args := [d1, d2, d3, d4] }
  | _ => none }
def PoliceMovesWrongFalsely : Prop := policeMovesRow.holds Tryz.pinned (OpenSpec.ofChange policeMovesWrong)

/-- 'bailifflaw27.PolicePlays': WHATEVER THE INPUT: true; the input reads as it did. -/
def policePlaysSpec : ChangeSpec := { name := "policePlays", fn := fun _ => fun
  | [d1, d2, d3] => { results := [.lit (.bool true)], args := [d1, d2, d3] }
  | _ => none }
def policePlaysRow : OpenClaim := { program := "ytofhbonnojooeaagreat", sum := "2ca8f19815a07b51872dfc26c50bc01971d7fee013549f569cae6311b46753c9", func := "bailiff/bailifflaw27.PolicePlays", spec := "policePlays", inPlace := ["internal/bytealg.Compare"], unfollowed := true, recurses := true, apart := false }
def PolicePlaysSaid : Prop := policePlaysRow.holds Tryz.pinned (OpenSpec.ofChange policePlaysSpec)

/-- ITS FALSE NEIGHBOUR: 'it returns false'. Refute it at one input. -/
def policePlaysWrong : ChangeSpec := { name := "policePlays", fn := fun _ => fun
  | [d1, d2, d3] => { results := [.lit (.bool false)], args := [d1, d2, d3] }
  | _ => none }
def PolicePlaysWrongFalsely : Prop := policePlaysRow.holds Tryz.pinned (OpenSpec.ofChange policePlaysWrong)

/- THE SECOND FORM. 'bulk': how many values and letters a reading holds, each counted each time it is reached (what is shared counts as often as it is met; a slice's spare places count too). A statement '..UptoSaid' is the law's where the arguments, and the package variables that the reading takes, are together of bulk at most 1048576: NARROWER than '..Said'. Prove '..Said' where nothing that the law and all that it calls make is longer than what came in: it says more and counts as full. Else prove '..UptoSaid'. A law counts once. -/
mutual
def uptoBulk {H : Type} : DataW H → Nat
  | .lit (.string bytes) => bytes.length + 1
  | .lit _ => 1
  | .nil => 1
  | .ptr d => uptoBulk d + 1
  | .slice elems spare => uptoBulkAll elems + uptoBulkAll spare + 1
  | .agg parts => uptoBulkAll parts + 1
  | .iface _ d => uptoBulk d + 1
  | .map entries => uptoBulkEntries entries + 1
  | .held _ => 1
def uptoBulkAll {H : Type} : List (DataW H) → Nat
  | [] => 0
  | d :: r => uptoBulk d + uptoBulkAll r
def uptoBulkEntries {H : Type} : List (Lit × DataW H) → Nat
  | [] => 0
  | x :: r => uptoBulkEntry x + uptoBulkEntries r
def uptoBulkEntry {H : Type} : Lit × DataW H → Nat
  | (.string bytes, d) => bytes.length + uptoBulk d + 1
  | (_, d) => uptoBulk d + 1
 end
def uptoSmall : (H : Type) → List (DataW H) → Bool := fun _ ds => decide (uptoBulkAll ds ≤ 1048576)
def OpenSpec.upto (s : _root_.Go.ChangeSpec) : _root_.Go.OpenSpec := { _root_.Go.OpenSpec.ofChange s with cond := some uptoSmall }

/-- 'bailifflaw27.PoliceBoxed', WHERE WHAT IT READS IS OF BULK AT MOST 1048576: true; the input reads as it did. -/
def policeBoxedUptoRow : OpenClaim := { program := "ytofhbonnojooeaagreat", sum := "2ca8f19815a07b51872dfc26c50bc01971d7fee013549f569cae6311b46753c9", func := "bailiff/bailifflaw27.PoliceBoxed", spec := "policeBoxed", inPlace := ["internal/bytealg.Compare"], unfollowed := true, recurses := true, apart := false, narrowed := true }
def PoliceBoxedUptoSaid : Prop := policeBoxedUptoRow.holds Tryz.pinned (OpenSpec.upto policeBoxedSpec)

/-- 'bailifflaw27.PoliceReserve', WHERE WHAT IT READS IS OF BULK AT MOST 1048576: true; the input reads as it did. -/
def policeReserveUptoRow : OpenClaim := { program := "ytofhbonnojooeaagreat", sum := "2ca8f19815a07b51872dfc26c50bc01971d7fee013549f569cae6311b46753c9", func := "bailiff/bailifflaw27.PoliceReserve", spec := "policeReserve", inPlace := ["internal/bytealg.Compare"], unfollowed := true, recurses := true, apart := false, narrowed := true }
def PoliceReserveUptoSaid : Prop := policeReserveUptoRow.holds Tryz.pinned (OpenSpec.upto policeReserveSpec)

/-- 'bailifflaw28.SchedAlone', WHERE WHAT IT READS IS OF BULK AT MOST 1048576: true; the input reads as it did. -/
def schedAloneUptoRow : OpenClaim := { program := "ytofhbonnojooeaagreat", sum := "2ca8f19815a07b51872dfc26c50bc01971d7fee013549f569cae6311b46753c9", func := "bailiff/bailifflaw28.SchedAlone", spec := "schedAlone", inPlace := ["internal/bytealg.Compare"], unfollowed := true, recurses := true, apart := false, narrowed := true }
def SchedAloneUptoSaid : Prop := schedAloneUptoRow.holds Tryz.pinned (OpenSpec.upto schedAloneSpec)

/-- 'bailifflaw28.SchedWorks', WHERE WHAT IT READS IS OF BULK AT MOST 1048576: true; the input reads as it did. -/
def schedWorksUptoRow : OpenClaim := { program := "ytofhbonnojooeaagreat", sum := "2ca8f19815a07b51872dfc26c50bc01971d7fee013549f569cae6311b46753c9", func := "bailiff/bailifflaw28.SchedWorks", spec := "schedWorks", inPlace := ["internal/bytealg.Compare"], unfollowed := true, recurses := true, apart := false, narrowed := true }
def SchedWorksUptoSaid : Prop := schedWorksUptoRow.holds Tryz.pinned (OpenSpec.upto schedWorksSpec)

/-- 'bailifflaw28.SchedPlays', WHERE WHAT IT READS IS OF BULK AT MOST 1048576: true; the input reads as it did. -/
def schedPlaysUptoRow : OpenClaim := { program := "ytofhbonnojooeaagreat", sum := "2ca8f19815a07b51872dfc26c50bc01971d7fee013549f569cae6311b46753c9", func := "bailiff/bailifflaw28.SchedPlays", spec := "schedPlays", inPlace := ["internal/bytealg.Compare"], unfollowed := true, recurses := true, apart := false, narrowed := true }
def SchedPlaysUptoSaid : Prop := schedPlaysUptoRow.holds Tryz.pinned (OpenSpec.upto schedPlaysSpec)

/-- 'bailifflaw27.PoliceKeeps', WHERE WHAT IT READS IS OF BULK AT MOST 1048576: true; the input reads as it did. -/
def policeKeepsUptoRow : OpenClaim := { program := "ytofhbonnojooeaagreat", sum := "2ca8f19815a07b51872dfc26c50bc01971d7fee013549f569cae6311b46753c9", func := "bailiff/bailifflaw27.PoliceKeeps", spec := "policeKeeps", inPlace := ["internal/bytealg.Compare"], unfollowed := true, recurses := true, apart := false, narrowed := true }
def PoliceKeepsUptoSaid : Prop := policeKeepsUptoRow.holds Tryz.pinned (OpenSpec.upto policeKeepsSpec)

/-- 'bailifflaw27.PoliceOrder', WHERE WHAT IT READS IS OF BULK AT MOST 1048576: true; the input reads as it did. -/
def policeOrderUptoRow : OpenClaim := { program := "ytofhbonnojooeaagreat", sum := "2ca8f19815a07b51872dfc26c50bc01971d7fee013549f569cae6311b46753c9", func := "bailiff/bailifflaw27.PoliceOrder", spec := "policeOrder", inPlace := ["internal/bytealg.Compare"], unfollowed := true, recurses := true, apart := false, narrowed := true }
def PoliceOrderUptoSaid : Prop := policeOrderUptoRow.holds Tryz.pinned (OpenSpec.upto policeOrderSpec)

/-- 'bailifflaw27.PoliceMoves', WHERE WHAT IT READS IS OF BULK AT MOST 1048576: true; the input reads as it did. -/
def policeMovesUptoRow : OpenClaim := { program := "ytofhbonnojooeaagreat", sum := "2ca8f19815a07b51872dfc26c50bc01971d7fee013549f569cae6311b46753c9", func := "bailiff/bailifflaw27.PoliceMoves", spec := "policeMoves", inPlace := ["internal/bytealg.Compare"], unfollowed := true, recurses := true, apart := false, narrowed := true }
def PoliceMovesUptoSaid : Prop := policeMovesUptoRow.holds Tryz.pinned (OpenSpec.upto policeMovesSpec)

/-- 'bailifflaw27.PolicePlays', WHERE WHAT IT READS IS OF BULK AT MOST 1048576: true; the input reads as it did. -/
def policePlaysUptoRow : OpenClaim := { program := "ytofhbonnojooeaagreat", sum := "2ca8f19815a07b51872dfc26c50bc01971d7fee013549f569cae6311b46753c9", func := "bailiff/bailifflaw27.PolicePlays", spec := "policePlays", inPlace := ["internal/bytealg.Compare"], unfollowed := true, recurses := true, apart := false, narrowed := true }
def PolicePlaysUptoSaid : Prop := policePlaysUptoRow.holds Tryz.pinned (OpenSpec.upto policePlaysSpec)

end Rows
end Go.Proofs.YtofhbonnojooeaaGreat
