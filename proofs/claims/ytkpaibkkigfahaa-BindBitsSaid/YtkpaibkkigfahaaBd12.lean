/- chapter 18: BindBits, as the row calls it. -/
import Derived.Test.YtkpaibkkigfahaaBd6
namespace Go.Proofs.Ytkpaibkkigfahaa.Bd
open Go.RowKit Go.Proofs.YtkpaibkkigfahaaW.PrintWords Go.Proofs.YtkpaibkkigfahaaW.PrintLast Go.Proofs.YtkpaibkkigfahaaW.PrintMore Go.Proofs.Ytkpaibkkigfahaa.Bs Go.Proofs.Ytkpaibkkigfahaa.Fr Go.Proofs.Ytkpaibkkigfahaa.Mp
theorem bits_walk' (w : World) (f1 : Int) (v1 : (Lit.int .u32 f1).wf = true) (f2 : Int) (v2 : (Lit.int .i64 f2).wf = true) (f3 : Int) (v3 : (Lit.int .i64 f3).wf = true) (fa : Int) (v4 : (Lit.int .u32 fa).wf = true) (fp : Int) (v5 : (Lit.int .i64 fp).wf = true) (at_ : Int) (v6 : (Lit.int .i64 at_).wf = true) :
    Calls Try.prog 4 #[.agg #[.int .u32 f1, .int .i64 f2, .int .i64 f3], .agg #[.int .u32 fa, .int .i64 fp], .int .i64 at_] w fun e w' => e = .returned (.bool true) ∧ Below w.heap.size w w' :=
  bits_walk f1 v1 f2 v2 f3 v3 fa v4 fp v5 at_ v6 w
end Go.Proofs.Ytkpaibkkigfahaa.Bd
