/-
  No cell of these rows narrows 'for every input' (looked for: loops, veiled, ifaces, maps, wideKeys, modest, calm, conditions, laid).
  DERIVED. THE GIVEN ROWS OF THIS SEAT. 10 by the template 'for every input the law returns true; each argument reads behind the call as it read before'; 0 by the template 'total and deterministic' (their statements: YtkpaibkkigfahaaTotals.lean).
  GIVEN WITH THE SEED: the statements are not yours to turn. If you find one false, say at which input.
  Laid BY PROGRAM, IN A SANDBOX (cutbox-rows.mjs): the forced cells as the released guide's own fill.sh prints them over the translation eba635c6f1a03bfc… (all of the seat's roots in one cut). By AI agents, Wed Nov 11 2026. No macro, syntax, notation, axiom, sorry.
-/
import Derived.Test.YtkpaibkkigfahaaChecked
import GoSem.Claim
import GoSem.ClaimJoined
import GoSem.ClaimMapViews
import Derived.JoinedTies
import Derived.KernelRfl
namespace Go.Proofs.Ytkpaibkkigfahaa
/- THE CELL 'sum', in the pinned program and in every row, IS THE sha256 OF THE DUMP (.gsa) THAT YtkpaibkkigfahaaProg.lean LOADS. Nothing in Lean hashes anything: it is a label: what it is worth is what the hold of that sum in a sandbox is worth. -/
noncomputable def Try.pinned : Pinned := { name := "ytkpaibkkigfahaa", sum := "eba635c6f1a03bfcafbe3e868213bbaf15361ed3d4d7d6c1a61851cf7a809932", checked := Try.checked }
namespace Rows
def none {H : Type} : Left H := { results := [], args := [] }

/-- 'bailiwicklaw18.BindKnown': WHATEVER THE INPUT: true; the input reads as it did. -/
def bindKnownSpec : ChangeSpec := { name := "bindKnown", fn := fun _ => fun
  | [] => { results := [.lit (.bool true)], args := [] }
  | _ => none }
def bindKnownRow : OpenClaim := { program := "ytkpaibkkigfahaa", sum := "eba635c6f1a03bfcafbe3e868213bbaf15361ed3d4d7d6c1a61851cf7a809932", func := "bailiwick/bailiwicklaw18.BindKnown", spec := "bindKnown", plainKeys := false, apart := false }
def BindKnownSaid : Prop := bindKnownRow.holds Try.pinned (OpenSpec.ofChange bindKnownSpec)

/-- ITS FALSE NEIGHBOUR: 'it returns false'. Refute it at one input. -/
def bindKnownWrong : ChangeSpec := { name := "bindKnown", fn := fun _ => fun
  | [] => { results := [.lit (.bool false)], args := [] }
  | _ => none }
def BindKnownWrongFalsely : Prop := bindKnownRow.holds Try.pinned (OpenSpec.ofChange bindKnownWrong)

/-- 'bailiwicklaw18.BindBits': WHATEVER THE INPUT: true; the input reads as it did. -/
def bindBitsSpec : ChangeSpec := { name := "bindBits", fn := fun _ => fun
  | [d1, d2, d3] => { results := [.lit (.bool true)], args := [d1, d2, d3] }
  | _ => none }
def bindBitsRow : OpenClaim := { program := "ytkpaibkkigfahaa", sum := "eba635c6f1a03bfcafbe3e868213bbaf15361ed3d4d7d6c1a61851cf7a809932", func := "bailiwick/bailiwicklaw18.BindBits", spec := "bindBits", plainKeys := false, apart := false }
def BindBitsSaid : Prop := bindBitsRow.holds Try.pinned (OpenSpec.ofChange bindBitsSpec)

/-- ITS FALSE NEIGHBOUR: 'it returns false'. Refute it at one input. -/
def bindBitsWrong : ChangeSpec := { name := "bindBits", fn := fun _ => fun
  | [d1, d2, d3] => { results := [.lit (.bool false)], args := [d1, d2, d3] }
  | _ => none }
def BindBitsWrongFalsely : Prop := bindBitsRow.holds Try.pinned (OpenSpec.ofChange bindBitsWrong)

/-- 'bailiwicklaw18.BindLets': WHATEVER THE INPUT: true; the input reads as it did. -/
def bindLetsSpec : ChangeSpec := { name := "bindLets", fn := fun _ => fun
  | [d1, d2, d3] => { results := [.lit (.bool true)], args := [d1, d2, d3] }
  | _ => none }
def bindLetsRow : OpenClaim := { program := "ytkpaibkkigfahaa", sum := "eba635c6f1a03bfcafbe3e868213bbaf15361ed3d4d7d6c1a61851cf7a809932", func := "bailiwick/bailiwicklaw18.BindLets", spec := "bindLets", plainKeys := false, apart := false }
def BindLetsSaid : Prop := bindLetsRow.holds Try.pinned (OpenSpec.ofChange bindLetsSpec)

/-- ITS FALSE NEIGHBOUR: 'it returns false'. Refute it at one input. -/
def bindLetsWrong : ChangeSpec := { name := "bindLets", fn := fun _ => fun
  | [d1, d2, d3] => { results := [.lit (.bool false)], args := [d1, d2, d3] }
  | _ => none }
def BindLetsWrongFalsely : Prop := bindLetsRow.holds Try.pinned (OpenSpec.ofChange bindLetsWrong)

/-- 'bailiwicklaw19.FlowDues': WHATEVER THE INPUT: true; the input reads as it did. -/
def flowDuesSpec : ChangeSpec := { name := "flowDues", fn := fun _ => fun
  | [d1, d2, d3] => { results := [.lit (.bool true)], args := [d1, d2, d3] }
  | _ => none }
def flowDuesRow : OpenClaim := { program := "ytkpaibkkigfahaa", sum := "eba635c6f1a03bfcafbe3e868213bbaf15361ed3d4d7d6c1a61851cf7a809932", func := "bailiwick/bailiwicklaw19.FlowDues", spec := "flowDues", unfollowed := true, recurses := true, plainKeys := false, apart := false }
def FlowDuesSaid : Prop := flowDuesRow.holds Try.pinned (OpenSpec.ofChange flowDuesSpec)

/-- ITS FALSE NEIGHBOUR: 'it returns false'. Refute it at one input. -/
def flowDuesWrong : ChangeSpec := { name := "flowDues", fn := fun _ => fun
  | [d1, d2, d3] => { results := [.lit (.bool false)], args := [d1, d2, d3] }
  | _ => none }
def FlowDuesWrongFalsely : Prop := flowDuesRow.holds Try.pinned (OpenSpec.ofChange flowDuesWrong)

/-- 'bailiwicklaw19.FlowOrders': WHATEVER THE INPUT: true; the input reads as it did. -/
def flowOrdersSpec : ChangeSpec := { name := "flowOrders", fn := fun _ => fun
  | [d1, d2] => { results := [.lit (.bool true)], args := [d1, d2] }
  | _ => none }
def flowOrdersRow : OpenClaim := { program := "ytkpaibkkigfahaa", sum := "eba635c6f1a03bfcafbe3e868213bbaf15361ed3d4d7d6c1a61851cf7a809932", func := "bailiwick/bailiwicklaw19.FlowOrders", spec := "flowOrders", unfollowed := true, recurses := true, plainKeys := false, apart := false }
def FlowOrdersSaid : Prop := flowOrdersRow.holds Try.pinned (OpenSpec.ofChange flowOrdersSpec)

/-- ITS FALSE NEIGHBOUR: 'it returns false'. Refute it at one input. -/
def flowOrdersWrong : ChangeSpec := { name := "flowOrders", fn := fun _ => fun
  | [d1, d2] => { results := [.lit (.bool false)], args := [d1, d2] }
  | _ => none }
def FlowOrdersWrongFalsely : Prop := flowOrdersRow.holds Try.pinned (OpenSpec.ofChange flowOrdersWrong)

/-- 'bailiwicklaw19.FlowKnown': WHATEVER THE INPUT: true; the input reads as it did. -/
def flowKnownSpec : ChangeSpec := { name := "flowKnown", fn := fun _ => fun
  | [] => { results := [.lit (.bool true)], args := [] }
  | _ => none }
def flowKnownRow : OpenClaim := { program := "ytkpaibkkigfahaa", sum := "eba635c6f1a03bfcafbe3e868213bbaf15361ed3d4d7d6c1a61851cf7a809932", func := "bailiwick/bailiwicklaw19.FlowKnown", spec := "flowKnown", unfollowed := true, recurses := true, plainKeys := false, apart := false }
def FlowKnownSaid : Prop := flowKnownRow.holds Try.pinned (OpenSpec.ofChange flowKnownSpec)

/-- ITS FALSE NEIGHBOUR: 'it returns false'. Refute it at one input. -/
def flowKnownWrong : ChangeSpec := { name := "flowKnown", fn := fun _ => fun
  | [] => { results := [.lit (.bool false)], args := [] }
  | _ => none }
def FlowKnownWrongFalsely : Prop := flowKnownRow.holds Try.pinned (OpenSpec.ofChange flowKnownWrong)

/-- 'bailiwicklaw19.FlowPlays': WHATEVER THE INPUT: true; the input reads as it did. -/
def flowPlaysSpec : ChangeSpec := { name := "flowPlays", fn := fun _ => fun
  | [d] => { results := [.lit (.bool true)], args := [d] }
  | _ => none }
def flowPlaysRow : OpenClaim := { program := "ytkpaibkkigfahaa", sum := "eba635c6f1a03bfcafbe3e868213bbaf15361ed3d4d7d6c1a61851cf7a809932", func := "bailiwick/bailiwicklaw19.FlowPlays", spec := "flowPlays", unfollowed := true, recurses := true, plainKeys := false, apart := false }
def FlowPlaysSaid : Prop := flowPlaysRow.holds Try.pinned (OpenSpec.ofChange flowPlaysSpec)

/-- ITS FALSE NEIGHBOUR: 'it returns false'. Refute it at one input. -/
def flowPlaysWrong : ChangeSpec := { name := "flowPlays", fn := fun _ => fun
  | [d] => { results := [.lit (.bool false)], args := [d] }
  | _ => none }
def FlowPlaysWrongFalsely : Prop := flowPlaysRow.holds Try.pinned (OpenSpec.ofChange flowPlaysWrong)

/-- 'bailiwicklaw18.BindApart': WHATEVER THE INPUT: true; the input reads as it did. -/
def bindApartSpec : ChangeSpec := { name := "bindApart", fn := fun _ => fun
  | [d] => { results := [.lit (.bool true)], args := [d] }
  | _ => none }
def bindApartRow : OpenClaim := { program := "ytkpaibkkigfahaa", sum := "eba635c6f1a03bfcafbe3e868213bbaf15361ed3d4d7d6c1a61851cf7a809932", func := "bailiwick/bailiwicklaw18.BindApart", spec := "bindApart", unfollowed := true, recurses := true, plainKeys := false, apart := false }
def BindApartSaid : Prop := bindApartRow.holds Try.pinned (OpenSpec.ofChange bindApartSpec)

/-- ITS FALSE NEIGHBOUR: 'it returns false'. Refute it at one input. -/
def bindApartWrong : ChangeSpec := { name := "bindApart", fn := fun _ => fun
  | [d] => { results := [.lit (.bool false)], args := [d] }
  | _ => none }
def BindApartWrongFalsely : Prop := bindApartRow.holds Try.pinned (OpenSpec.ofChange bindApartWrong)

/-- 'bailiwicklaw18.BindOne': WHATEVER THE INPUT: true; the input reads as it did. -/
def bindOneSpec : ChangeSpec := { name := "bindOne", fn := fun _ => fun
  | [d] => { results := [.lit (.bool true)], args := [d] }
  | _ => none }
def bindOneRow : OpenClaim := { program := "ytkpaibkkigfahaa", sum := "eba635c6f1a03bfcafbe3e868213bbaf15361ed3d4d7d6c1a61851cf7a809932", func := "bailiwick/bailiwicklaw18.BindOne", spec := "bindOne", unfollowed := true, recurses := true, plainKeys := false, apart := false }
def BindOneSaid : Prop := bindOneRow.holds Try.pinned (OpenSpec.ofChange bindOneSpec)

/-- ITS FALSE NEIGHBOUR: 'it returns false'. Refute it at one input. -/
def bindOneWrong : ChangeSpec := { name := "bindOne", fn := fun _ => fun
  | [d] => { results := [.lit (.bool false)], args := [d] }
  | _ => none }
def BindOneWrongFalsely : Prop := bindOneRow.holds Try.pinned (OpenSpec.ofChange bindOneWrong)

/-- 'bailiwicklaw18.BindPlays': WHATEVER THE INPUT: true; the input reads as it did. -/
def bindPlaysSpec : ChangeSpec := { name := "bindPlays", fn := fun _ => fun
  | [d] => { results := [.lit (.bool true)], args := [d] }
  | _ => none }
def bindPlaysRow : OpenClaim := { program := "ytkpaibkkigfahaa", sum := "eba635c6f1a03bfcafbe3e868213bbaf15361ed3d4d7d6c1a61851cf7a809932", func := "bailiwick/bailiwicklaw18.BindPlays", spec := "bindPlays", unfollowed := true, recurses := true, plainKeys := false, apart := false }
def BindPlaysSaid : Prop := bindPlaysRow.holds Try.pinned (OpenSpec.ofChange bindPlaysSpec)

/-- ITS FALSE NEIGHBOUR: 'it returns false'. Refute it at one input. -/
def bindPlaysWrong : ChangeSpec := { name := "bindPlays", fn := fun _ => fun
  | [d] => { results := [.lit (.bool false)], args := [d] }
  | _ => none }
def BindPlaysWrongFalsely : Prop := bindPlaysRow.holds Try.pinned (OpenSpec.ofChange bindPlaysWrong)

/- THE SECOND FORM. 'bulk': how many values and letters a reading holds, each counted each time it is reached (what is shared counts as often as it is met; a slice's spare places count too). A statement '..UptoSaid' is the law's where the arguments, and the package variables that the reading takes, are together of bulk at most 1048576: NARROWER than '..Said'. Prove '..Said' where nothing that the law and all that it calls make is longer than what came in: it says more and counts as full. Else prove '..UptoSaid'. A law counts once. -/
mutual
def uptoBulk {H : Type} : DataW H → Nat
  | .lit (.string bytes) => bytes.length + 1
  | .lit _ => 1
  | .nil => 1
  | .ptr d => uptoBulk d + 1
  | .slice elems spare => uptoBulkAll elems + uptoBulkAll spare + 1
  | .agg parts => uptoBulkAll parts + 1
  | .iface _ d => uptoBulk d + 1
  | .map entries => uptoBulkEntries entries + 1
  | .held _ => 1
def uptoBulkAll {H : Type} : List (DataW H) → Nat
  | [] => 0
  | d :: r => uptoBulk d + uptoBulkAll r
def uptoBulkEntries {H : Type} : List (Lit × DataW H) → Nat
  | [] => 0
  | x :: r => uptoBulkEntry x + uptoBulkEntries r
def uptoBulkEntry {H : Type} : Lit × DataW H → Nat
  | (.string bytes, d) => bytes.length + uptoBulk d + 1
  | (_, d) => uptoBulk d + 1
 end
def uptoSmall : (H : Type) → List (DataW H) → Bool := fun _ ds => decide (uptoBulkAll ds ≤ 1048576)
def OpenSpec.upto (s : _root_.Go.ChangeSpec) : _root_.Go.OpenSpec := { _root_.Go.OpenSpec.ofChange s with cond := some uptoSmall }

/-- 'bailiwicklaw18.BindKnown', WHERE WHAT IT READS IS OF BULK AT MOST 1048576: true; the input reads as it did. -/
def bindKnownUptoRow : OpenClaim := { program := "ytkpaibkkigfahaa", sum := "eba635c6f1a03bfcafbe3e868213bbaf15361ed3d4d7d6c1a61851cf7a809932", func := "bailiwick/bailiwicklaw18.BindKnown", spec := "bindKnown", plainKeys := false, apart := false, narrowed := true }
def BindKnownUptoSaid : Prop := bindKnownUptoRow.holds Try.pinned (OpenSpec.upto bindKnownSpec)

/-- 'bailiwicklaw18.BindBits', WHERE WHAT IT READS IS OF BULK AT MOST 1048576: true; the input reads as it did. -/
def bindBitsUptoRow : OpenClaim := { program := "ytkpaibkkigfahaa", sum := "eba635c6f1a03bfcafbe3e868213bbaf15361ed3d4d7d6c1a61851cf7a809932", func := "bailiwick/bailiwicklaw18.BindBits", spec := "bindBits", plainKeys := false, apart := false, narrowed := true }
def BindBitsUptoSaid : Prop := bindBitsUptoRow.holds Try.pinned (OpenSpec.upto bindBitsSpec)

/-- 'bailiwicklaw18.BindLets', WHERE WHAT IT READS IS OF BULK AT MOST 1048576: true; the input reads as it did. -/
def bindLetsUptoRow : OpenClaim := { program := "ytkpaibkkigfahaa", sum := "eba635c6f1a03bfcafbe3e868213bbaf15361ed3d4d7d6c1a61851cf7a809932", func := "bailiwick/bailiwicklaw18.BindLets", spec := "bindLets", plainKeys := false, apart := false, narrowed := true }
def BindLetsUptoSaid : Prop := bindLetsUptoRow.holds Try.pinned (OpenSpec.upto bindLetsSpec)

/-- 'bailiwicklaw19.FlowDues', WHERE WHAT IT READS IS OF BULK AT MOST 1048576: true; the input reads as it did. -/
def flowDuesUptoRow : OpenClaim := { program := "ytkpaibkkigfahaa", sum := "eba635c6f1a03bfcafbe3e868213bbaf15361ed3d4d7d6c1a61851cf7a809932", func := "bailiwick/bailiwicklaw19.FlowDues", spec := "flowDues", unfollowed := true, recurses := true, plainKeys := false, apart := false, narrowed := true }
def FlowDuesUptoSaid : Prop := flowDuesUptoRow.holds Try.pinned (OpenSpec.upto flowDuesSpec)

/-- 'bailiwicklaw19.FlowOrders', WHERE WHAT IT READS IS OF BULK AT MOST 1048576: true; the input reads as it did. -/
def flowOrdersUptoRow : OpenClaim := { program := "ytkpaibkkigfahaa", sum := "eba635c6f1a03bfcafbe3e868213bbaf15361ed3d4d7d6c1a61851cf7a809932", func := "bailiwick/bailiwicklaw19.FlowOrders", spec := "flowOrders", unfollowed := true, recurses := true, plainKeys := false, apart := false, narrowed := true }
def FlowOrdersUptoSaid : Prop := flowOrdersUptoRow.holds Try.pinned (OpenSpec.upto flowOrdersSpec)

/-- 'bailiwicklaw19.FlowKnown', WHERE WHAT IT READS IS OF BULK AT MOST 1048576: true; the input reads as it did. -/
def flowKnownUptoRow : OpenClaim := { program := "ytkpaibkkigfahaa", sum := "eba635c6f1a03bfcafbe3e868213bbaf15361ed3d4d7d6c1a61851cf7a809932", func := "bailiwick/bailiwicklaw19.FlowKnown", spec := "flowKnown", unfollowed := true, recurses := true, plainKeys := false, apart := false, narrowed := true }
def FlowKnownUptoSaid : Prop := flowKnownUptoRow.holds Try.pinned (OpenSpec.upto flowKnownSpec)

/-- 'bailiwicklaw19.FlowPlays', WHERE WHAT IT READS IS OF BULK AT MOST 1048576: true; the input reads as it did. -/
def flowPlaysUptoRow : OpenClaim := { program := "ytkpaibkkigfahaa", sum := "eba635c6f1a03bfcafbe3e868213bbaf15361ed3d4d7d6c1a61851cf7a809932", func := "bailiwick/bailiwicklaw19.FlowPlays", spec := "flowPlays", unfollowed := true, recurses := true, plainKeys := false, apart := false, narrowed := true }
def FlowPlaysUptoSaid : Prop := flowPlaysUptoRow.holds Try.pinned (OpenSpec.upto flowPlaysSpec)

/-- 'bailiwicklaw18.BindApart', WHERE WHAT IT READS IS OF BULK AT MOST 1048576: true; the input reads as it did. -/
def bindApartUptoRow : OpenClaim := { program := "ytkpaibkkigfahaa", sum := "eba635c6f1a03bfcafbe3e868213bbaf15361ed3d4d7d6c1a61851cf7a809932", func := "bailiwick/bailiwicklaw18.BindApart", spec := "bindApart", unfollowed := true, recurses := true, plainKeys := false, apart := false, narrowed := true }
def BindApartUptoSaid : Prop := bindApartUptoRow.holds Try.pinned (OpenSpec.upto bindApartSpec)

/-- 'bailiwicklaw18.BindOne', WHERE WHAT IT READS IS OF BULK AT MOST 1048576: true; the input reads as it did. -/
def bindOneUptoRow : OpenClaim := { program := "ytkpaibkkigfahaa", sum := "eba635c6f1a03bfcafbe3e868213bbaf15361ed3d4d7d6c1a61851cf7a809932", func := "bailiwick/bailiwicklaw18.BindOne", spec := "bindOne", unfollowed := true, recurses := true, plainKeys := false, apart := false, narrowed := true }
def BindOneUptoSaid : Prop := bindOneUptoRow.holds Try.pinned (OpenSpec.upto bindOneSpec)

/-- 'bailiwicklaw18.BindPlays', WHERE WHAT IT READS IS OF BULK AT MOST 1048576: true; the input reads as it did. -/
def bindPlaysUptoRow : OpenClaim := { program := "ytkpaibkkigfahaa", sum := "eba635c6f1a03bfcafbe3e868213bbaf15361ed3d4d7d6c1a61851cf7a809932", func := "bailiwick/bailiwicklaw18.BindPlays", spec := "bindPlays", unfollowed := true, recurses := true, plainKeys := false, apart := false, narrowed := true }
def BindPlaysUptoSaid : Prop := bindPlaysUptoRow.holds Try.pinned (OpenSpec.upto bindPlaysSpec)

end Rows
end Go.Proofs.Ytkpaibkkigfahaa
