/-
  No cell of these rows narrows 'for every input' (looked for: loops, veiled, ifaces, maps, wideKeys, modest, calm, conditions, laid).
  DERIVED. THE GIVEN ROWS OF THIS SEAT. 12 by the template 'for every input the law returns true; each argument reads behind the call as it read before'; 0 by the template 'total and deterministic' (their statements: YtinjbfgjfmfibaaTotals.lean).
  GIVEN WITH THE SEED: the statements are not yours to turn. If you find one false, say at which input.
  Laid BY PROGRAM, IN A SANDBOX (cutbox-rows.mjs): the forced cells as the released guide's own fill.sh prints them over the translation ae7fa4bb67046f6d… (all of the seat's roots in one cut). By AI agents, Wed Nov 11 2026. No macro, syntax, notation, axiom, sorry.
-/
import Derived.Test.YtinjbfgjfmfibaaChecked
import GoSem.Claim
import GoSem.ClaimJoined
import GoSem.ClaimMapViews
import Derived.JoinedTies
import Derived.KernelRfl
namespace Go.Proofs.Ytinjbfgjfmfibaa
/- THE CELL 'sum', in the pinned program and in every row, IS THE sha256 OF THE DUMP (.gsa) THAT YtinjbfgjfmfibaaProg.lean LOADS. Nothing in Lean hashes anything: it is a label: what it is worth is what the hold of that sum in a sandbox is worth. -/
noncomputable def Try.pinned : Pinned := { name := "ytinjbfgjfmfibaa", sum := "ae7fa4bb67046f6d5278d3558a4c470c1f0d02e379935680c8a9d250a542a854", checked := Try.checked }
namespace Rows
def none {H : Type} : Left H := { results := [], args := [] }

/-- 'bailiwicklaw10.TraceSpans': WHATEVER THE INPUT: true; the input reads as it did. -/
def traceSpansSpec : ChangeSpec := { name := "traceSpans", fn := fun _ => fun
  | [d] => { results := [.lit (.bool true)], args := [d] }
  | _ => none }
def traceSpansRow : OpenClaim := { program := "ytinjbfgjfmfibaa", sum := "ae7fa4bb67046f6d5278d3558a4c470c1f0d02e379935680c8a9d250a542a854", func := "bailiwick/bailiwicklaw10.TraceSpans", spec := "traceSpans", unfollowed := true, recurses := true, plainKeys := false, apart := false }
def TraceSpansSaid : Prop := traceSpansRow.holds Try.pinned (OpenSpec.ofChange traceSpansSpec)

/-- ITS FALSE NEIGHBOUR: 'it returns false'. Refute it at one input. -/
def traceSpansWrong : ChangeSpec := { name := "traceSpans", fn := fun _ => fun
  | [d] => { results := [.lit (.bool false)], args := [d] }
  | _ => none }
def TraceSpansWrongFalsely : Prop := traceSpansRow.holds Try.pinned (OpenSpec.ofChange traceSpansWrong)

/-- 'bailiwicklaw10.TraceApartly': WHATEVER THE INPUT: true; the input reads as it did. -/
def traceApartlySpec : ChangeSpec := { name := "traceApartly", fn := fun _ => fun
  | [d1, d2] => { results := [.lit (.bool true)], args := [d1, d2] }
  | _ => none }
def traceApartlyRow : OpenClaim := { program := "ytinjbfgjfmfibaa", sum := "ae7fa4bb67046f6d5278d3558a4c470c1f0d02e379935680c8a9d250a542a854", func := "bailiwick/bailiwicklaw10.TraceApartly", spec := "traceApartly", unfollowed := true, recurses := true, plainKeys := false, apart := false }
def TraceApartlySaid : Prop := traceApartlyRow.holds Try.pinned (OpenSpec.ofChange traceApartlySpec)

/-- ITS FALSE NEIGHBOUR: 'it returns false'. Refute it at one input. -/
def traceApartlyWrong : ChangeSpec := { name := "traceApartly", fn := fun _ => fun
  | [d1, d2] => { results := [.lit (.bool false)], args := [d1, d2] }
  | _ => none }
def TraceApartlyWrongFalsely : Prop := traceApartlyRow.holds Try.pinned (OpenSpec.ofChange traceApartlyWrong)

/-- 'bailiwicklaw9.EntryEncodes': WHATEVER THE INPUT: true; the input reads as it did. -/
def entryEncodesSpec : ChangeSpec := { name := "entryEncodes", fn := fun _ => fun
  | [d] => { results := [.lit (.bool true)], args := [d] }
  | _ => none }
def entryEncodesRow : OpenClaim := { program := "ytinjbfgjfmfibaa", sum := "ae7fa4bb67046f6d5278d3558a4c470c1f0d02e379935680c8a9d250a542a854", func := "bailiwick/bailiwicklaw9.EntryEncodes", spec := "entryEncodes", unfollowed := true, recurses := true, plainKeys := false, apart := false }
def EntryEncodesSaid : Prop := entryEncodesRow.holds Try.pinned (OpenSpec.ofChange entryEncodesSpec)

/-- ITS FALSE NEIGHBOUR: 'it returns false'. Refute it at one input. -/
def entryEncodesWrong : ChangeSpec := { name := "entryEncodes", fn := fun _ => fun
  | [d] => { results := [.lit (.bool false)], args := [d] }
  | _ => none }
def EntryEncodesWrongFalsely : Prop := entryEncodesRow.holds Try.pinned (OpenSpec.ofChange entryEncodesWrong)

/-- 'bailiwicklaw9.EntryKnown': WHATEVER THE INPUT: true; the input reads as it did. -/
def entryKnownSpec : ChangeSpec := { name := "entryKnown", fn := fun _ => fun
  | [] => { results := [.lit (.bool true)], args := [] }
  | _ => none }
def entryKnownRow : OpenClaim := { program := "ytinjbfgjfmfibaa", sum := "ae7fa4bb67046f6d5278d3558a4c470c1f0d02e379935680c8a9d250a542a854", func := "bailiwick/bailiwicklaw9.EntryKnown", spec := "entryKnown", unfollowed := true, recurses := true, plainKeys := false, apart := false }
def EntryKnownSaid : Prop := entryKnownRow.holds Try.pinned (OpenSpec.ofChange entryKnownSpec)

/-- ITS FALSE NEIGHBOUR: 'it returns false'. Refute it at one input. -/
def entryKnownWrong : ChangeSpec := { name := "entryKnown", fn := fun _ => fun
  | [] => { results := [.lit (.bool false)], args := [] }
  | _ => none }
def EntryKnownWrongFalsely : Prop := entryKnownRow.holds Try.pinned (OpenSpec.ofChange entryKnownWrong)

/-- 'bailiwicklaw9.EntryDecodes': WHATEVER THE INPUT: true; the input reads as it did. -/
def entryDecodesSpec : ChangeSpec := { name := "entryDecodes", fn := fun _ => fun
  | [d] => { results := [.lit (.bool true)], args := [d] }
  | _ => none }
def entryDecodesRow : OpenClaim := { program := "ytinjbfgjfmfibaa", sum := "ae7fa4bb67046f6d5278d3558a4c470c1f0d02e379935680c8a9d250a542a854", func := "bailiwick/bailiwicklaw9.EntryDecodes", spec := "entryDecodes", unfollowed := true, recurses := true, plainKeys := false, apart := false }
def EntryDecodesSaid : Prop := entryDecodesRow.holds Try.pinned (OpenSpec.ofChange entryDecodesSpec)

/-- ITS FALSE NEIGHBOUR: 'it returns false'. Refute it at one input. -/
def entryDecodesWrong : ChangeSpec := { name := "entryDecodes", fn := fun _ => fun
  | [d] => { results := [.lit (.bool false)], args := [d] }
  | _ => none }
def EntryDecodesWrongFalsely : Prop := entryDecodesRow.holds Try.pinned (OpenSpec.ofChange entryDecodesWrong)

/-- 'bailiwicklaw9.EntryBack': WHATEVER THE INPUT: true; the input reads as it did. -/
def entryBackSpec : ChangeSpec := { name := "entryBack", fn := fun _ => fun
  | [d] => { results := [.lit (.bool true)], args := [d] }
  | _ => none }
def entryBackRow : OpenClaim := { program := "ytinjbfgjfmfibaa", sum := "ae7fa4bb67046f6d5278d3558a4c470c1f0d02e379935680c8a9d250a542a854", func := "bailiwick/bailiwicklaw9.EntryBack", spec := "entryBack", unfollowed := true, recurses := true, plainKeys := false, apart := false }
def EntryBackSaid : Prop := entryBackRow.holds Try.pinned (OpenSpec.ofChange entryBackSpec)

/-- ITS FALSE NEIGHBOUR: 'it returns false'. Refute it at one input. -/
def entryBackWrong : ChangeSpec := { name := "entryBack", fn := fun _ => fun
  | [d] => { results := [.lit (.bool false)], args := [d] }
  | _ => none }
def EntryBackWrongFalsely : Prop := entryBackRow.holds Try.pinned (OpenSpec.ofChange entryBackWrong)

/-- 'bailiwicklaw9.EntryAgain': WHATEVER THE INPUT: true; the input reads as it did. -/
def entryAgainSpec : ChangeSpec := { name := "entryAgain", fn := fun _ => fun
  | [d] => { results := [.lit (.bool true)], args := [d] }
  | _ => none }
def entryAgainRow : OpenClaim := { program := "ytinjbfgjfmfibaa", sum := "ae7fa4bb67046f6d5278d3558a4c470c1f0d02e379935680c8a9d250a542a854", func := "bailiwick/bailiwicklaw9.EntryAgain", spec := "entryAgain", unfollowed := true, recurses := true, plainKeys := false, apart := false }
def EntryAgainSaid : Prop := entryAgainRow.holds Try.pinned (OpenSpec.ofChange entryAgainSpec)

/-- ITS FALSE NEIGHBOUR: 'it returns false'. Refute it at one input. -/
def entryAgainWrong : ChangeSpec := { name := "entryAgain", fn := fun _ => fun
  | [d] => { results := [.lit (.bool false)], args := [d] }
  | _ => none }
def EntryAgainWrongFalsely : Prop := entryAgainRow.holds Try.pinned (OpenSpec.ofChange entryAgainWrong)

/-- 'bailiwicklaw10.TraceLater': WHATEVER THE INPUT: true; the input reads as it did. -/
def traceLaterSpec : ChangeSpec := { name := "traceLater", fn := fun _ => fun
  | [d1, d2, d3] => { results := [.lit (.bool true)], args := [d1, d2, d3] }
  | _ => none }
def traceLaterRow : OpenClaim := { program := "ytinjbfgjfmfibaa", sum := "ae7fa4bb67046f6d5278d3558a4c470c1f0d02e379935680c8a9d250a542a854", func := "bailiwick/bailiwicklaw10.TraceLater", spec := "traceLater", unfollowed := true, recurses := true, plainKeys := false, apart := false }
def TraceLaterSaid : Prop := traceLaterRow.holds Try.pinned (OpenSpec.ofChange traceLaterSpec)

/-- ITS FALSE NEIGHBOUR: 'it returns false'. Refute it at one input. -/
def traceLaterWrong : ChangeSpec := { name := "traceLater", fn := fun _ => fun
  | [d1, d2, d3] => { results := [.lit (.bool false)], args := [d1, d2, d3] }
  | _ => none }
def TraceLaterWrongFalsely : Prop := traceLaterRow.holds Try.pinned (OpenSpec.ofChange traceLaterWrong)

/-- 'bailiwicklaw10.TraceKnown': WHATEVER THE INPUT: true; the input reads as it did. -/
def traceKnownSpec : ChangeSpec := { name := "traceKnown", fn := fun _ => fun
  | [] => { results := [.lit (.bool true)], args := [] }
  | _ => none }
def traceKnownRow : OpenClaim := { program := "ytinjbfgjfmfibaa", sum := "ae7fa4bb67046f6d5278d3558a4c470c1f0d02e379935680c8a9d250a542a854", func := "bailiwick/bailiwicklaw10.TraceKnown", spec := "traceKnown", unfollowed := true, recurses := true, plainKeys := false, apart := false }
def TraceKnownSaid : Prop := traceKnownRow.holds Try.pinned (OpenSpec.ofChange traceKnownSpec)

/-- ITS FALSE NEIGHBOUR: 'it returns false'. Refute it at one input. -/
def traceKnownWrong : ChangeSpec := { name := "traceKnown", fn := fun _ => fun
  | [] => { results := [.lit (.bool false)], args := [] }
  | _ => none }
def TraceKnownWrongFalsely : Prop := traceKnownRow.holds Try.pinned (OpenSpec.ofChange traceKnownWrong)

/-- 'bailiwicklaw10.TraceApart': WHATEVER THE INPUT: true; the input reads as it did. -/
def traceApartSpec : ChangeSpec := { name := "traceApart", fn := fun _ => fun
  | [d1, d2] => { results := [.lit (.bool true)], args := [d1, d2] }
  | _ => none }
def traceApartRow : OpenClaim := { program := "ytinjbfgjfmfibaa", sum := "ae7fa4bb67046f6d5278d3558a4c470c1f0d02e379935680c8a9d250a542a854", func := "bailiwick/bailiwicklaw10.TraceApart", spec := "traceApart", unfollowed := true, recurses := true, plainKeys := false, apart := false }
def TraceApartSaid : Prop := traceApartRow.holds Try.pinned (OpenSpec.ofChange traceApartSpec)

/-- ITS FALSE NEIGHBOUR: 'it returns false'. Refute it at one input. -/
def traceApartWrong : ChangeSpec := { name := "traceApart", fn := fun _ => fun
  | [d1, d2] => { results := [.lit (.bool false)], args := [d1, d2] }
  | _ => none }
def TraceApartWrongFalsely : Prop := traceApartRow.holds Try.pinned (OpenSpec.ofChange traceApartWrong)

/-- 'bailiwicklaw10.TraceWho': WHATEVER THE INPUT: true; the input reads as it did. -/
def traceWhoSpec : ChangeSpec := { name := "traceWho", fn := fun _ => fun
  | [d1, d2] => { results := [.lit (.bool true)], args := [d1, d2] }
  | _ => none }
def traceWhoRow : OpenClaim := { program := "ytinjbfgjfmfibaa", sum := "ae7fa4bb67046f6d5278d3558a4c470c1f0d02e379935680c8a9d250a542a854", func := "bailiwick/bailiwicklaw10.TraceWho", spec := "traceWho", inPlace := ["internal/reflectlite.ValueOf", "internal/reflectlite.Swapper", "(internal/reflectlite.Value).Len"], unfollowed := true, recurses := true, plainKeys := false, apart := false }
def TraceWhoSaid : Prop := traceWhoRow.holds Try.pinned (OpenSpec.ofChange traceWhoSpec)

/-- ITS FALSE NEIGHBOUR: 'it returns false'. Refute it at one input. -/
def traceWhoWrong : ChangeSpec := { name := "traceWho", fn := fun _ => fun
  | [d1, d2] => { results := [.lit (.bool false)], args := [d1, d2] }
  | _ => none }
def TraceWhoWrongFalsely : Prop := traceWhoRow.holds Try.pinned (OpenSpec.ofChange traceWhoWrong)

/-- 'bailiwicklaw10.TraceKept': WHATEVER THE INPUT: true; the input reads as it did. -/
def traceKeptSpec : ChangeSpec := { name := "traceKept", fn := fun _ => fun
  | [d1, d2] => { results := [.lit (.bool true)], args := [d1, d2] }
  | _ => none }
def traceKeptRow : OpenClaim := { program := "ytinjbfgjfmfibaa", sum := "ae7fa4bb67046f6d5278d3558a4c470c1f0d02e379935680c8a9d250a542a854", func := "bailiwick/bailiwicklaw10.TraceKept", spec := "traceKept", inPlace := ["internal/reflectlite.ValueOf", "internal/reflectlite.Swapper", "(internal/reflectlite.Value).Len"], unfollowed := true, recurses := true, plainKeys := false, apart := false }
def TraceKeptSaid : Prop := traceKeptRow.holds Try.pinned (OpenSpec.ofChange traceKeptSpec)

/-- ITS FALSE NEIGHBOUR: 'it returns false'. Refute it at one input. -/
def traceKeptWrong : ChangeSpec := { name := "traceKept", fn := fun _ => fun
  | [d1, d2] => { results := [.lit (.bool false)], args := [d1, d2] }
  | _ => none }
def TraceKeptWrongFalsely : Prop := traceKeptRow.holds Try.pinned (OpenSpec.ofChange traceKeptWrong)

/- THE SECOND FORM. 'bulk': how many values and letters a reading holds, each counted each time it is reached (what is shared counts as often as it is met; a slice's spare places count too). A statement '..UptoSaid' is the law's where the arguments, and the package variables that the reading takes, are together of bulk at most 1048576: NARROWER than '..Said'. Prove '..Said' where nothing that the law and all that it calls make is longer than what came in: it says more and counts as full. Else prove '..UptoSaid'. A law counts once. -/
mutual
def uptoBulk {H : Type} : DataW H → Nat
  | .lit (.string bytes) => bytes.length + 1
  | .lit _ => 1
  | .nil => 1
  | .ptr d => uptoBulk d + 1
  | .slice elems spare => uptoBulkAll elems + uptoBulkAll spare + 1
  | .agg parts => uptoBulkAll parts + 1
  | .iface _ d => uptoBulk d + 1
  | .map entries => uptoBulkEntries entries + 1
  | .held _ => 1
def uptoBulkAll {H : Type} : List (DataW H) → Nat
  | [] => 0
  | d :: r => uptoBulk d + uptoBulkAll r
def uptoBulkEntries {H : Type} : List (Lit × DataW H) → Nat
  | [] => 0
  | x :: r => uptoBulkEntry x + uptoBulkEntries r
def uptoBulkEntry {H : Type} : Lit × DataW H → Nat
  | (.string bytes, d) => bytes.length + uptoBulk d + 1
  | (_, d) => uptoBulk d + 1
 end
def uptoSmall : (H : Type) → List (DataW H) → Bool := fun _ ds => decide (uptoBulkAll ds ≤ 1048576)
def OpenSpec.upto (s : _root_.Go.ChangeSpec) : _root_.Go.OpenSpec := { _root_.Go.OpenSpec.ofChange s with cond := some uptoSmall }

/-- 'bailiwicklaw10.TraceSpans', WHERE WHAT IT READS IS OF BULK AT MOST 1048576: true; the input reads as it did. -/
def traceSpansUptoRow : OpenClaim := { program := "ytinjbfgjfmfibaa", sum := "ae7fa4bb67046f6d5278d3558a4c470c1f0d02e379935680c8a9d250a542a854", func := "bailiwick/bailiwicklaw10.TraceSpans", spec := "traceSpans", unfollowed := true, recurses := true, plainKeys := false, apart := false, narrowed := true }
def TraceSpansUptoSaid : Prop := traceSpansUptoRow.holds Try.pinned (OpenSpec.upto traceSpansSpec)

/-- 'bailiwicklaw10.TraceApartly', WHERE WHAT IT READS IS OF BULK AT MOST 1048576: true; the input reads as it did. -/
def traceApartlyUptoRow : OpenClaim := { program := "ytinjbfgjfmfibaa", sum := "ae7fa4bb67046f6d5278d3558a4c470c1f0d02e379935680c8a9d250a542a854", func := "bailiwick/bailiwicklaw10.TraceApartly", spec := "traceApartly", unfollowed := true, recurses := true, plainKeys := false, apart := false, narrowed := true }
def TraceApartlyUptoSaid : Prop := traceApartlyUptoRow.holds Try.pinned (OpenSpec.upto traceApartlySpec)

/-- 'bailiwicklaw9.EntryEncodes', WHERE WHAT IT READS IS OF BULK AT MOST 1048576: true; the input reads as it did. -/
def entryEncodesUptoRow : OpenClaim := { program := "ytinjbfgjfmfibaa", sum := "ae7fa4bb67046f6d5278d3558a4c470c1f0d02e379935680c8a9d250a542a854", func := "bailiwick/bailiwicklaw9.EntryEncodes", spec := "entryEncodes", unfollowed := true, recurses := true, plainKeys := false, apart := false, narrowed := true }
def EntryEncodesUptoSaid : Prop := entryEncodesUptoRow.holds Try.pinned (OpenSpec.upto entryEncodesSpec)

/-- 'bailiwicklaw9.EntryKnown', WHERE WHAT IT READS IS OF BULK AT MOST 1048576: true; the input reads as it did. -/
def entryKnownUptoRow : OpenClaim := { program := "ytinjbfgjfmfibaa", sum := "ae7fa4bb67046f6d5278d3558a4c470c1f0d02e379935680c8a9d250a542a854", func := "bailiwick/bailiwicklaw9.EntryKnown", spec := "entryKnown", unfollowed := true, recurses := true, plainKeys := false, apart := false, narrowed := true }
def EntryKnownUptoSaid : Prop := entryKnownUptoRow.holds Try.pinned (OpenSpec.upto entryKnownSpec)

/-- 'bailiwicklaw9.EntryDecodes', WHERE WHAT IT READS IS OF BULK AT MOST 1048576: true; the input reads as it did. -/
def entryDecodesUptoRow : OpenClaim := { program := "ytinjbfgjfmfibaa", sum := "ae7fa4bb67046f6d5278d3558a4c470c1f0d02e379935680c8a9d250a542a854", func := "bailiwick/bailiwicklaw9.EntryDecodes", spec := "entryDecodes", unfollowed := true, recurses := true, plainKeys := false, apart := false, narrowed := true }
def EntryDecodesUptoSaid : Prop := entryDecodesUptoRow.holds Try.pinned (OpenSpec.upto entryDecodesSpec)

/-- 'bailiwicklaw9.EntryBack', WHERE WHAT IT READS IS OF BULK AT MOST 1048576: true; the input reads as it did. -/
def entryBackUptoRow : OpenClaim := { program := "ytinjbfgjfmfibaa", sum := "ae7fa4bb67046f6d5278d3558a4c470c1f0d02e379935680c8a9d250a542a854", func := "bailiwick/bailiwicklaw9.EntryBack", spec := "entryBack", unfollowed := true, recurses := true, plainKeys := false, apart := false, narrowed := true }
def EntryBackUptoSaid : Prop := entryBackUptoRow.holds Try.pinned (OpenSpec.upto entryBackSpec)

/-- 'bailiwicklaw9.EntryAgain', WHERE WHAT IT READS IS OF BULK AT MOST 1048576: true; the input reads as it did. -/
def entryAgainUptoRow : OpenClaim := { program := "ytinjbfgjfmfibaa", sum := "ae7fa4bb67046f6d5278d3558a4c470c1f0d02e379935680c8a9d250a542a854", func := "bailiwick/bailiwicklaw9.EntryAgain", spec := "entryAgain", unfollowed := true, recurses := true, plainKeys := false, apart := false, narrowed := true }
def EntryAgainUptoSaid : Prop := entryAgainUptoRow.holds Try.pinned (OpenSpec.upto entryAgainSpec)

/-- 'bailiwicklaw10.TraceLater', WHERE WHAT IT READS IS OF BULK AT MOST 1048576: true; the input reads as it did. -/
def traceLaterUptoRow : OpenClaim := { program := "ytinjbfgjfmfibaa", sum := "ae7fa4bb67046f6d5278d3558a4c470c1f0d02e379935680c8a9d250a542a854", func := "bailiwick/bailiwicklaw10.TraceLater", spec := "traceLater", unfollowed := true, recurses := true, plainKeys := false, apart := false, narrowed := true }
def TraceLaterUptoSaid : Prop := traceLaterUptoRow.holds Try.pinned (OpenSpec.upto traceLaterSpec)

/-- 'bailiwicklaw10.TraceKnown', WHERE WHAT IT READS IS OF BULK AT MOST 1048576: true; the input reads as it did. -/
def traceKnownUptoRow : OpenClaim := { program := "ytinjbfgjfmfibaa", sum := "ae7fa4bb67046f6d5278d3558a4c470c1f0d02e379935680c8a9d250a542a854", func := "bailiwick/bailiwicklaw10.TraceKnown", spec := "traceKnown", unfollowed := true, recurses := true, plainKeys := false, apart := false, narrowed := true }
def TraceKnownUptoSaid : Prop := traceKnownUptoRow.holds Try.pinned (OpenSpec.upto traceKnownSpec)

/-- 'bailiwicklaw10.TraceApart', WHERE WHAT IT READS IS OF BULK AT MOST 1048576: true; the input reads as it did. -/
def traceApartUptoRow : OpenClaim := { program := "ytinjbfgjfmfibaa", sum := "ae7fa4bb67046f6d5278d3558a4c470c1f0d02e379935680c8a9d250a542a854", func := "bailiwick/bailiwicklaw10.TraceApart", spec := "traceApart", unfollowed := true, recurses := true, plainKeys := false, apart := false, narrowed := true }
def TraceApartUptoSaid : Prop := traceApartUptoRow.holds Try.pinned (OpenSpec.upto traceApartSpec)

/-- 'bailiwicklaw10.TraceWho', WHERE WHAT IT READS IS OF BULK AT MOST 1048576: true; the input reads as it did. -/
def traceWhoUptoRow : OpenClaim := { program := "ytinjbfgjfmfibaa", sum := "ae7fa4bb67046f6d5278d3558a4c470c1f0d02e379935680c8a9d250a542a854", func := "bailiwick/bailiwicklaw10.TraceWho", spec := "traceWho", inPlace := ["internal/reflectlite.ValueOf", "internal/reflectlite.Swapper", "(internal/reflectlite.Value).Len"], unfollowed := true, recurses := true, plainKeys := false, apart := false, narrowed := true }
def TraceWhoUptoSaid : Prop := traceWhoUptoRow.holds Try.pinned (OpenSpec.upto traceWhoSpec)

/-- 'bailiwicklaw10.TraceKept', WHERE WHAT IT READS IS OF BULK AT MOST 1048576: true; the input reads as it did. -/
def traceKeptUptoRow : OpenClaim := { program := "ytinjbfgjfmfibaa", sum := "ae7fa4bb67046f6d5278d3558a4c470c1f0d02e379935680c8a9d250a542a854", func := "bailiwick/bailiwicklaw10.TraceKept", spec := "traceKept", inPlace := ["internal/reflectlite.ValueOf", "internal/reflectlite.Swapper", "(internal/reflectlite.Value).Len"], unfollowed := true, recurses := true, plainKeys := false, apart := false, narrowed := true }
def TraceKeptUptoSaid : Prop := traceKeptUptoRow.holds Try.pinned (OpenSpec.upto traceKeptSpec)

end Rows
end Go.Proofs.Ytinjbfgjfmfibaa
