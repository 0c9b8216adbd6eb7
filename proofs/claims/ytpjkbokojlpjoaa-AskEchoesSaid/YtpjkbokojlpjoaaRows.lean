/-
  No cell of these rows narrows 'for every input' (looked for: loops, veiled, ifaces, maps, wideKeys, modest, calm, conditions, laid).
  DERIVED. THE GIVEN ROWS OF THIS SEAT. 5 by the template 'for every input the law returns true; each argument reads behind the call as it read before'; 0 by the template 'total and deterministic' (their statements: YtpjkbokojlpjoaaTotals.lean).
  GIVEN WITH THE SEED: the statements are not yours to turn. If you find one false, say at which input.
  Laid BY PROGRAM, IN A SANDBOX (cutbox-rows.mjs): the forced cells as the released guide's own fill.sh prints them over the translation ca2f14d6b93b393b… (all of the seat's roots in one cut). By AI agents, Wed Nov 11 2026. No macro, syntax, notation, axiom, sorry.
-/
import Derived.Test.YtpjkbokojlpjoaaChecked
import GoSem.Claim
import GoSem.ClaimJoined
import GoSem.ClaimMapViews
import Derived.JoinedTies
import Derived.KernelRfl
namespace Go.Proofs.Ytpjkbokojlpjoaa
/- THE CELL 'sum', in the pinned program and in every row, IS THE sha256 OF THE DUMP (.gsa) THAT YtpjkbokojlpjoaaProg.lean LOADS. Nothing in Lean hashes anything: it is a label: what it is worth is what the hold of that sum in a sandbox is worth. -/
noncomputable def Try.pinned : Pinned := { name := "ytpjkbokojlpjoaa", sum := "ca2f14d6b93b393b17b4d582cf09ffd99ed26f163e84abd4a85b075be559f2e6", checked := Try.checked }
namespace Rows
def none {H : Type} : Left H := { results := [], args := [] }

/-- 'bailiwicklaw25.AskReads': WHATEVER THE INPUT: true; the input reads as it did. -/
def askReadsSpec : ChangeSpec := { name := "askReads", fn := fun _ => fun
  | [d1, d2] => { results := [.lit (.bool true)], args := [d1, d2] }
  | _ => none }
def askReadsRow : OpenClaim := { program := "ytpjkbokojlpjoaa", sum := "ca2f14d6b93b393b17b4d582cf09ffd99ed26f163e84abd4a85b075be559f2e6", func := "bailiwick/bailiwicklaw25.AskReads", spec := "askReads", unfollowed := true, recurses := true, apart := false }
def AskReadsSaid : Prop := askReadsRow.holds Try.pinned (OpenSpec.ofChange askReadsSpec)

/-- ITS FALSE NEIGHBOUR: 'it returns false'. Refute it at one input. -/
def askReadsWrong : ChangeSpec := { name := "askReads", fn := fun _ => fun
  | [d1, d2] => { results := [.lit (.bool false)], args := [d1, d2] }
  | _ => none }
def AskReadsWrongFalsely : Prop := askReadsRow.holds Try.pinned (OpenSpec.ofChange askReadsWrong)

/-- 'bailiwicklaw25.AskMaps': WHATEVER THE INPUT: true; the input reads as it did. -/
def askMapsSpec : ChangeSpec := { name := "askMaps", fn := fun _ => fun
  | [d1, d2] => { results := [.lit (.bool true)], args := [d1, d2] }
  | _ => none }
def askMapsRow : OpenClaim := { program := "ytpjkbokojlpjoaa", sum := "ca2f14d6b93b393b17b4d582cf09ffd99ed26f163e84abd4a85b075be559f2e6", func := "bailiwick/bailiwicklaw25.AskMaps", spec := "askMaps", unfollowed := true, recurses := true, apart := false }
def AskMapsSaid : Prop := askMapsRow.holds Try.pinned (OpenSpec.ofChange askMapsSpec)

/-- ITS FALSE NEIGHBOUR: 'it returns false'. Refute it at one input. -/
def askMapsWrong : ChangeSpec := { name := "askMaps", fn := fun _ => fun
  | [d1, d2] => { results := [.lit (.bool false)], args := [d1, d2] }
  | _ => none }
def AskMapsWrongFalsely : Prop := askMapsRow.holds Try.pinned (OpenSpec.ofChange askMapsWrong)

/-- 'bailiwicklaw25.AskKnown': WHATEVER THE INPUT: true; the input reads as it did. -/
def askKnownSpec : ChangeSpec := { name := "askKnown", fn := fun _ => fun
  | [] => { results := [.lit (.bool true)], args := [] }
  | _ => none }
def askKnownRow : OpenClaim := { program := "ytpjkbokojlpjoaa", sum := "ca2f14d6b93b393b17b4d582cf09ffd99ed26f163e84abd4a85b075be559f2e6", func := "bailiwick/bailiwicklaw25.AskKnown", spec := "askKnown", unfollowed := true, recurses := true, apart := false }
def AskKnownSaid : Prop := askKnownRow.holds Try.pinned (OpenSpec.ofChange askKnownSpec)

/-- ITS FALSE NEIGHBOUR: 'it returns false'. Refute it at one input. -/
def askKnownWrong : ChangeSpec := { name := "askKnown", fn := fun _ => fun
  | [] => { results := [.lit (.bool false)], args := [] }
  | _ => none }
def AskKnownWrongFalsely : Prop := askKnownRow.holds Try.pinned (OpenSpec.ofChange askKnownWrong)

/-- 'bailiwicklaw25.AskAnswers': WHATEVER THE INPUT: true; the input reads as it did. -/
def askAnswersSpec : ChangeSpec := { name := "askAnswers", fn := fun _ => fun
  | [d1, d2, d3] => { results := [.lit (.bool true)], args := [d1, d2, d3] }
  | _ => none }
def askAnswersRow : OpenClaim := { program := "ytpjkbokojlpjoaa", sum := "ca2f14d6b93b393b17b4d582cf09ffd99ed26f163e84abd4a85b075be559f2e6", func := "bailiwick/bailiwicklaw25.AskAnswers", spec := "askAnswers", unfollowed := true, recurses := true, apart := false }
def AskAnswersSaid : Prop := askAnswersRow.holds Try.pinned (OpenSpec.ofChange askAnswersSpec)

/-- ITS FALSE NEIGHBOUR: 'it returns false'. Refute it at one input. -/
def askAnswersWrong : ChangeSpec := { name := "askAnswers", fn := fun _ => fun
  | [d1, d2, d3] => { results := [.lit (.bool false)], args := [d1, d2, d3] }
  | _ => none }
def AskAnswersWrongFalsely : Prop := askAnswersRow.holds Try.pinned (OpenSpec.ofChange askAnswersWrong)

/-- 'bailiwicklaw25.AskEchoes': WHATEVER THE INPUT: true; the input reads as it did. -/
def askEchoesSpec : ChangeSpec := { name := "askEchoes", fn := fun _ => fun
  | [d1, d2, d3] => { results := [.lit (.bool true)], args := [d1, d2, d3] }
  | _ => none }
def askEchoesRow : OpenClaim := { program := "ytpjkbokojlpjoaa", sum := "ca2f14d6b93b393b17b4d582cf09ffd99ed26f163e84abd4a85b075be559f2e6", func := "bailiwick/bailiwicklaw25.AskEchoes", spec := "askEchoes", unfollowed := true, recurses := true, apart := false }
def AskEchoesSaid : Prop := askEchoesRow.holds Try.pinned (OpenSpec.ofChange askEchoesSpec)

/-- ITS FALSE NEIGHBOUR: 'it returns false'. Refute it at one input. -/
def askEchoesWrong : ChangeSpec := { name := "askEchoes", fn := fun _ => fun
  | [d1, d2, d3] => { results := [.lit (.bool false)], args := [d1, d2, d3] }
  | _ => none }
def AskEchoesWrongFalsely : Prop := askEchoesRow.holds Try.pinned (OpenSpec.ofChange askEchoesWrong)

/- THE SECOND FORM. 'bulk': how many values and letters a reading holds, each counted each time it is reached (what is shared counts as often as it is met; a slice's spare places count too). A statement '..UptoSaid' is the law's where the arguments, and the package variables that the reading takes, are together of bulk at most 1048576: NARROWER than '..Said'. Prove '..Said' where nothing that the law and all that it calls make is longer than what came in: it says more and counts as full. Else prove '..UptoSaid'. A law counts once. -/
mutual
def uptoBulk {H : Type} : DataW H → Nat
  | .lit (.string bytes) => bytes.length + 1
  | .lit _ => 1
  | .nil => 1
  | .ptr d => uptoBulk d + 1
  | .slice elems spare => uptoBulkAll elems + uptoBulkAll spare + 1
  | .agg parts => uptoBulkAll parts + 1
  | .iface _ d => uptoBulk d + 1
  | .map entries => uptoBulkEntries entries + 1
  | .held _ => 1
def uptoBulkAll {H : Type} : List (DataW H) → Nat
  | [] => 0
  | d :: r => uptoBulk d + uptoBulkAll r
def uptoBulkEntries {H : Type} : List (Lit × DataW H) → Nat
  | [] => 0
  | x :: r => uptoBulkEntry x + uptoBulkEntries r
def uptoBulkEntry {H : Type} : Lit × DataW H → Nat
  | (.string bytes, d) => bytes.length + uptoBulk d + 1
  | (_, d) => uptoBulk d + 1
 end
def uptoSmall : (H : Type) → List (DataW H) → Bool := fun _ ds => decide (uptoBulkAll ds ≤ 1048576)
def OpenSpec.upto (s : _root_.Go.ChangeSpec) : _root_.Go.OpenSpec := { _root_.Go.OpenSpec.ofChange s with cond := some uptoSmall }

/-- 'bailiwicklaw25.AskReads', WHERE WHAT IT READS IS OF BULK AT MOST 1048576: true; the input reads as it did. -/
def askReadsUptoRow : OpenClaim := { program := "ytpjkbokojlpjoaa", sum := "ca2f14d6b93b393b17b4d582cf09ffd99ed26f163e84abd4a85b075be559f2e6", func := "bailiwick/bailiwicklaw25.AskReads", spec := "askReads", unfollowed := true, recurses := true, apart := false, narrowed := true }
def AskReadsUptoSaid : Prop := askReadsUptoRow.holds Try.pinned (OpenSpec.upto askReadsSpec)

/-- 'bailiwicklaw25.AskMaps', WHERE WHAT IT READS IS OF BULK AT MOST 1048576: true; the input reads as it did. -/
def askMapsUptoRow : OpenClaim := { program := "ytpjkbokojlpjoaa", sum := "ca2f14d6b93b393b17b4d582cf09ffd99ed26f163e84abd4a85b075be559f2e6", func := "bailiwick/bailiwicklaw25.AskMaps", spec := "askMaps", unfollowed := true, recurses := true, apart := false, narrowed := true }
def AskMapsUptoSaid : Prop := askMapsUptoRow.holds Try.pinned (OpenSpec.upto askMapsSpec)

/-- 'bailiwicklaw25.AskKnown', WHERE WHAT IT READS IS OF BULK AT MOST 1048576: true; the input reads as it did. -/
def askKnownUptoRow : OpenClaim := { program := "ytpjkbokojlpjoaa", sum := "ca2f14d6b93b393b17b4d582cf09ffd99ed26f163e84abd4a85b075be559f2e6", func := "bailiwick/bailiwicklaw25.AskKnown", spec := "askKnown", unfollowed := true, recurses := true, apart := false, narrowed := true }
def AskKnownUptoSaid : Prop := askKnownUptoRow.holds Try.pinned (OpenSpec.upto askKnownSpec)

/-- 'bailiwicklaw25.AskAnswers', WHERE WHAT IT READS IS OF BULK AT MOST 1048576: true; the input reads as it did. -/
def askAnswersUptoRow : OpenClaim := { program := "ytpjkbokojlpjoaa", sum := "ca2f14d6b93b393b17b4d582cf09ffd99ed26f163e84abd4a85b075be559f2e6", func := "bailiwick/bailiwicklaw25.AskAnswers", spec := "askAnswers", unfollowed := true, recurses := true, apart := false, narrowed := true }
def AskAnswersUptoSaid : Prop := askAnswersUptoRow.holds Try.pinned (OpenSpec.upto askAnswersSpec)

/-- 'bailiwicklaw25.AskEchoes', WHERE WHAT IT READS IS OF BULK AT MOST 1048576: true; the input reads as it did. -/
def askEchoesUptoRow : OpenClaim := { program := "ytpjkbokojlpjoaa", sum := "ca2f14d6b93b393b17b4d582cf09ffd99ed26f163e84abd4a85b075be559f2e6", func := "bailiwick/bailiwicklaw25.AskEchoes", spec := "askEchoes", unfollowed := true, recurses := true, apart := false, narrowed := true }
def AskEchoesUptoSaid : Prop := askEchoesUptoRow.holds Try.pinned (OpenSpec.upto askEchoesSpec)

end Rows
end Go.Proofs.Ytpjkbokojlpjoaa
