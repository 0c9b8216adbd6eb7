/-
  No cell of these rows narrows 'for every input' (looked for: loops, veiled, ifaces, maps, wideKeys, modest, calm, conditions, laid).
  DERIVED. THE GIVEN ROWS OF THIS SEAT. 7 by the template 'for every input the law returns true; each argument reads behind the call as it read before'; 0 by the template 'total and deterministic' (their statements: YtldddinebhopcaaTotals.lean).
  GIVEN WITH THE SEED: the statements are not yours to turn. If you find one false, say at which input.
  Laid BY PROGRAM, IN A SANDBOX (cutbox-rows.mjs): the forced cells as the released guide's own fill.sh prints them over the translation 9b8e2371b9c258f9… (all of the seat's roots in one cut). By AI agents, Wed Nov 11 2026. No macro, syntax, notation, axiom, sorry.
-/
import Derived.Test.YtldddinebhopcaaChecked
import GoSem.Claim
import GoSem.ClaimJoined
import GoSem.ClaimMapViews
import Derived.JoinedTies
import Derived.KernelRfl
namespace Go.Proofs.Ytldddinebhopcaa
/- THE CELL 'sum', in the pinned program and in every row, IS THE sha256 OF THE DUMP (.gsa) THAT YtldddinebhopcaaProg.lean LOADS. Nothing in Lean hashes anything: it is a label: what it is worth is what the hold of that sum in a sandbox is worth. -/
noncomputable def Try.pinned : Pinned := { name := "ytldddinebhopcaa", sum := "9b8e2371b9c258f91d3db8ca796d20fea8c5ac8baef3e773463e117fbbab4cd9", checked := Try.checked }
namespace Rows
def none {H : Type} : Left H := { results := [], args := [] }

/-- 'bailiwicklaw8.StrandKnown': WHATEVER THE INPUT: true; the input reads as it did. -/
def strandKnownSpec : ChangeSpec := { name := "strandKnown", fn := fun _ => fun
  | [] => { results := [.lit (.bool true)], args := [] }
  | _ => none }
def strandKnownRow : OpenClaim := { program := "ytldddinebhopcaa", sum := "9b8e2371b9c258f91d3db8ca796d20fea8c5ac8baef3e773463e117fbbab4cd9", func := "bailiwick/bailiwicklaw8.StrandKnown", spec := "strandKnown", unfollowed := true, recurses := true, apart := false }
def StrandKnownSaid : Prop := strandKnownRow.holds Try.pinned (OpenSpec.ofChange strandKnownSpec)

/-- ITS FALSE NEIGHBOUR: 'it returns false'. Refute it at one input. -/
def strandKnownWrong : ChangeSpec := { name := "strandKnown", fn := fun _ => fun
  | [] => { results := [.lit (.bool false)], args := [] }
  | _ => none }
def StrandKnownWrongFalsely : Prop := strandKnownRow.holds Try.pinned (OpenSpec.ofChange strandKnownWrong)

/-- 'bailiwicklaw8.StrandFrames': WHATEVER THE INPUT: true; the input reads as it did. -/
def strandFramesSpec : ChangeSpec := { name := "strandFrames", fn := fun _ => fun
  | [d1, d2] => { results := [.lit (.bool true)], args := [d1, d2] }
  | _ => none }
def strandFramesRow : OpenClaim := { program := "ytldddinebhopcaa", sum := "9b8e2371b9c258f91d3db8ca796d20fea8c5ac8baef3e773463e117fbbab4cd9", func := "bailiwick/bailiwicklaw8.StrandFrames", spec := "strandFrames", unfollowed := true, recurses := true, apart := false }
def StrandFramesSaid : Prop := strandFramesRow.holds Try.pinned (OpenSpec.ofChange strandFramesSpec)

/-- ITS FALSE NEIGHBOUR: 'it returns false'. Refute it at one input. -/
def strandFramesWrong : ChangeSpec := { name := "strandFrames", fn := fun _ => fun
  | [d1, d2] => { results := [.lit (.bool false)], args := [d1, d2] }
  | _ => none }
def StrandFramesWrongFalsely : Prop := strandFramesRow.holds Try.pinned (OpenSpec.ofChange strandFramesWrong)

/-- 'bailiwicklaw8.StrandScans': WHATEVER THE INPUT: true; the input reads as it did. -/
def strandScansSpec : ChangeSpec := { name := "strandScans", fn := fun _ => fun
  | [d] => { results := [.lit (.bool true)], args := [d] }
  | _ => none }
def strandScansRow : OpenClaim := { program := "ytldddinebhopcaa", sum := "9b8e2371b9c258f91d3db8ca796d20fea8c5ac8baef3e773463e117fbbab4cd9", func := "bailiwick/bailiwicklaw8.StrandScans", spec := "strandScans", unfollowed := true, recurses := true, apart := false }
def StrandScansSaid : Prop := strandScansRow.holds Try.pinned (OpenSpec.ofChange strandScansSpec)

/-- ITS FALSE NEIGHBOUR: 'it returns false'. Refute it at one input. -/
def strandScansWrong : ChangeSpec := { name := "strandScans", fn := fun _ => fun
  | [d] => { results := [.lit (.bool false)], args := [d] }
  | _ => none }
def StrandScansWrongFalsely : Prop := strandScansRow.holds Try.pinned (OpenSpec.ofChange strandScansWrong)

/-- 'bailiwicklaw8.StrandNever': WHATEVER THE INPUT: true; the input reads as it did. -/
def strandNeverSpec : ChangeSpec := { name := "strandNever", fn := fun _ => fun
  | [d] => { results := [.lit (.bool true)], args := [d] }
  | _ => none }
def strandNeverRow : OpenClaim := { program := "ytldddinebhopcaa", sum := "9b8e2371b9c258f91d3db8ca796d20fea8c5ac8baef3e773463e117fbbab4cd9", func := "bailiwick/bailiwicklaw8.StrandNever", spec := "strandNever", unfollowed := true, recurses := true, apart := false }
def StrandNeverSaid : Prop := strandNeverRow.holds Try.pinned (OpenSpec.ofChange strandNeverSpec)

/-- ITS FALSE NEIGHBOUR: 'it returns false'. Refute it at one input. -/
def strandNeverWrong : ChangeSpec := { name := "strandNever", fn := fun _ => fun
  | [d] => { results := [.lit (.bool false)], args := [d] }
  | _ => none }
def StrandNeverWrongFalsely : Prop := strandNeverRow.holds Try.pinned (OpenSpec.ofChange strandNeverWrong)

/-- 'bailiwicklaw8.StrandSurvives': WHATEVER THE INPUT: true; the input reads as it did. -/
def strandSurvivesSpec : ChangeSpec := { name := "strandSurvives", fn := fun _ => fun
  | [d1, d2] => { results := [.lit (.bool true)], args := [d1, d2] }
  | _ => none }
def strandSurvivesRow : OpenClaim := { program := "ytldddinebhopcaa", sum := "9b8e2371b9c258f91d3db8ca796d20fea8c5ac8baef3e773463e117fbbab4cd9", func := "bailiwick/bailiwicklaw8.StrandSurvives", spec := "strandSurvives", unfollowed := true, recurses := true, apart := false }
def StrandSurvivesSaid : Prop := strandSurvivesRow.holds Try.pinned (OpenSpec.ofChange strandSurvivesSpec)

/-- ITS FALSE NEIGHBOUR: 'it returns false'. Refute it at one input. -/
def strandSurvivesWrong : ChangeSpec := { name := "strandSurvives", fn := fun _ => fun
  | [d1, d2] => { results := [.lit (.bool false)], args := [d1, d2] }
  | _ => none }
def StrandSurvivesWrongFalsely : Prop := strandSurvivesRow.holds Try.pinned (OpenSpec.ofChange strandSurvivesWrong)

/-- 'bailiwicklaw8.StrandPlays': WHATEVER THE INPUT: true; the input reads as it did. -/
def strandPlaysSpec : ChangeSpec := { name := "strandPlays", fn := fun _ => fun
  | [d1, d2] => { results := [.lit (.bool true)], args := [d1, d2] }
  | _ => none }
def strandPlaysRow : OpenClaim := { program := "ytldddinebhopcaa", sum := "9b8e2371b9c258f91d3db8ca796d20fea8c5ac8baef3e773463e117fbbab4cd9", func := "bailiwick/bailiwicklaw8.StrandPlays", spec := "strandPlays", unfollowed := true, recurses := true, apart := false }
def StrandPlaysSaid : Prop := strandPlaysRow.holds Try.pinned (OpenSpec.ofChange strandPlaysSpec)

/-- ITS FALSE NEIGHBOUR: 'it returns false'. Refute it at one input. -/
def strandPlaysWrong : ChangeSpec := { name := "strandPlays", fn := fun _ => fun
  | [d1, d2] => { results := [.lit (.bool false)], args := [d1, d2] }
  | _ => none }
def StrandPlaysWrongFalsely : Prop := strandPlaysRow.holds Try.pinned (OpenSpec.ofChange strandPlaysWrong)

/-- 'bailiwicklaw8.StrandTwice': WHATEVER THE INPUT: true; the input reads as it did. -/
def strandTwiceSpec : ChangeSpec := { name := "strandTwice", fn := fun _ => fun
  | [d1, d2] => { results := [.lit (.bool true)], args := [d1, d2] }
  | _ => none }
def strandTwiceRow : OpenClaim := { program := "ytldddinebhopcaa", sum := "9b8e2371b9c258f91d3db8ca796d20fea8c5ac8baef3e773463e117fbbab4cd9", func := "bailiwick/bailiwicklaw8.StrandTwice", spec := "strandTwice", unfollowed := true, recurses := true, apart := false }
def StrandTwiceSaid : Prop := strandTwiceRow.holds Try.pinned (OpenSpec.ofChange strandTwiceSpec)

/-- ITS FALSE NEIGHBOUR: 'it returns false'. Refute it at one input. -/
def strandTwiceWrong : ChangeSpec := { name := "strandTwice", fn := fun _ => fun
  | [d1, d2] => { results := [.lit (.bool false)], args := [d1, d2] }
  | _ => none }
def StrandTwiceWrongFalsely : Prop := strandTwiceRow.holds Try.pinned (OpenSpec.ofChange strandTwiceWrong)

/- THE SECOND FORM. 'bulk': how many values and letters a reading holds, each counted each time it is reached (what is shared counts as often as it is met; a slice's spare places count too). A statement '..UptoSaid' is the law's where the arguments, and the package variables that the reading takes, are together of bulk at most 1048576: NARROWER than '..Said'. Prove '..Said' where nothing that the law and all that it calls make is longer than what came in: it says more and counts as full. Else prove '..UptoSaid'. A law counts once. -/
mutual
def uptoBulk {H : Type} : DataW H → Nat
  | .lit (.string bytes) => bytes.length + 1
  | .lit _ => 1
  | .nil => 1
  | .ptr d => uptoBulk d + 1
  | .slice elems spare => uptoBulkAll elems + uptoBulkAll spare + 1
  | .agg parts => uptoBulkAll parts + 1
  | .iface _ d => uptoBulk d + 1
  | .map entries => uptoBulkEntries entries + 1
  | .held _ => 1
def uptoBulkAll {H : Type} : List (DataW H) → Nat
  | [] => 0
  | d :: r => uptoBulk d + uptoBulkAll r
def uptoBulkEntries {H : Type} : List (Lit × DataW H) → Nat
  | [] => 0
  | x :: r => uptoBulkEntry x + uptoBulkEntries r
def uptoBulkEntry {H : Type} : Lit × DataW H → Nat
  | (.string bytes, d) => bytes.length + uptoBulk d + 1
  | (_, d) => uptoBulk d + 1
 end
def uptoSmall : (H : Type) → List (DataW H) → Bool := fun _ ds => decide (uptoBulkAll ds ≤ 1048576)
def OpenSpec.upto (s : _root_.Go.ChangeSpec) : _root_.Go.OpenSpec := { _root_.Go.OpenSpec.ofChange s with cond := some uptoSmall }

/-- 'bailiwicklaw8.StrandKnown', WHERE WHAT IT READS IS OF BULK AT MOST 1048576: true; the input reads as it did. -/
def strandKnownUptoRow : OpenClaim := { program := "ytldddinebhopcaa", sum := "9b8e2371b9c258f91d3db8ca796d20fea8c5ac8baef3e773463e117fbbab4cd9", func := "bailiwick/bailiwicklaw8.StrandKnown", spec := "strandKnown", unfollowed := true, recurses := true, apart := false, narrowed := true }
def StrandKnownUptoSaid : Prop := strandKnownUptoRow.holds Try.pinned (OpenSpec.upto strandKnownSpec)

/-- 'bailiwicklaw8.StrandFrames', WHERE WHAT IT READS IS OF BULK AT MOST 1048576: true; the input reads as it did. -/
def strandFramesUptoRow : OpenClaim := { program := "ytldddinebhopcaa", sum := "9b8e2371b9c258f91d3db8ca796d20fea8c5ac8baef3e773463e117fbbab4cd9", func := "bailiwick/bailiwicklaw8.StrandFrames", spec := "strandFrames", unfollowed := true, recurses := true, apart := false, narrowed := true }
def StrandFramesUptoSaid : Prop := strandFramesUptoRow.holds Try.pinned (OpenSpec.upto strandFramesSpec)

/-- 'bailiwicklaw8.StrandScans', WHERE WHAT IT READS IS OF BULK AT MOST 1048576: true; the input reads as it did. -/
def strandScansUptoRow : OpenClaim := { program := "ytldddinebhopcaa", sum := "9b8e2371b9c258f91d3db8ca796d20fea8c5ac8baef3e773463e117fbbab4cd9", func := "bailiwick/bailiwicklaw8.StrandScans", spec := "strandScans", unfollowed := true, recurses := true, apart := false, narrowed := true }
def StrandScansUptoSaid : Prop := strandScansUptoRow.holds Try.pinned (OpenSpec.upto strandScansSpec)

/-- 'bailiwicklaw8.StrandNever', WHERE WHAT IT READS IS OF BULK AT MOST 1048576: true; the input reads as it did. -/
def strandNeverUptoRow : OpenClaim := { program := "ytldddinebhopcaa", sum := "9b8e2371b9c258f91d3db8ca796d20fea8c5ac8baef3e773463e117fbbab4cd9", func := "bailiwick/bailiwicklaw8.StrandNever", spec := "strandNever", unfollowed := true, recurses := true, apart := false, narrowed := true }
def StrandNeverUptoSaid : Prop := strandNeverUptoRow.holds Try.pinned (OpenSpec.upto strandNeverSpec)

/-- 'bailiwicklaw8.StrandSurvives', WHERE WHAT IT READS IS OF BULK AT MOST 1048576: true; the input reads as it did. -/
def strandSurvivesUptoRow : OpenClaim := { program := "ytldddinebhopcaa", sum := "9b8e2371b9c258f91d3db8ca796d20fea8c5ac8baef3e773463e117fbbab4cd9", func := "bailiwick/bailiwicklaw8.StrandSurvives", spec := "strandSurvives", unfollowed := true, recurses := true, apart := false, narrowed := true }
def StrandSurvivesUptoSaid : Prop := strandSurvivesUptoRow.holds Try.pinned (OpenSpec.upto strandSurvivesSpec)

/-- 'bailiwicklaw8.StrandPlays', WHERE WHAT IT READS IS OF BULK AT MOST 1048576: true; the input reads as it did. -/
def strandPlaysUptoRow : OpenClaim := { program := "ytldddinebhopcaa", sum := "9b8e2371b9c258f91d3db8ca796d20fea8c5ac8baef3e773463e117fbbab4cd9", func := "bailiwick/bailiwicklaw8.StrandPlays", spec := "strandPlays", unfollowed := true, recurses := true, apart := false, narrowed := true }
def StrandPlaysUptoSaid : Prop := strandPlaysUptoRow.holds Try.pinned (OpenSpec.upto strandPlaysSpec)

/-- 'bailiwicklaw8.StrandTwice', WHERE WHAT IT READS IS OF BULK AT MOST 1048576: true; the input reads as it did. -/
def strandTwiceUptoRow : OpenClaim := { program := "ytldddinebhopcaa", sum := "9b8e2371b9c258f91d3db8ca796d20fea8c5ac8baef3e773463e117fbbab4cd9", func := "bailiwick/bailiwicklaw8.StrandTwice", spec := "strandTwice", unfollowed := true, recurses := true, apart := false, narrowed := true }
def StrandTwiceUptoSaid : Prop := strandTwiceUptoRow.holds Try.pinned (OpenSpec.upto strandTwiceSpec)

end Rows
end Go.Proofs.Ytldddinebhopcaa
